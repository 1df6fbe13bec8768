/- A part of the proof. -/
import Derived.Test.YtnnjamknplefbaaGreatDoorTS7
import Derived.MapKept
import Derived.Laws.BytesArg
import Derived.Laws.StructEq
set_option linter.all false
open List renaming getElem?_eq_some_iff->zf0z,getElem?_append_left->zf1z,eq_nil_of_length_eq_zero->zf4z,getElem?_set_ne->zf5z,map_cons->zf6z,getElem?_map->zf8z,map_append->zg0z,map_nil->zg3z,map_set->zg4z,set_cons_succ->zg7z,ext_getElem?->zg8z,getElem?_set->zg9z,toArray->zt1z
open Nat renaming le_refl->zf2z
open Option renaming map_eq_some_iff->zf3z
open Array renaming toList_push->zf7z,getElem?_setIfInBounds_ne->zf9z,getElem?_eq_getElem->zg2z,getElem?_modify->zg5z,getElem?_toList->zg6z
open Bool renaming false_eq_true->zg1z,and_eq_true->zt0z
set_option linter.all false
namespace Go.Abs
open Go.RowKit (Below)
section
variable {E:Env} {P:Program} {fr:Fr} {a:Act} {o:Oper}
theorem SO(w:World)(x:Obj):(w.alloc x).heap[w.heap.size]?=some x:=(MapKept.heap_alloc w x).1
def Env.newMap(E:Env):Env :=
 {E with w:=E.w.alloc (.map #[] 0),nb:=yx E.nb E.h.boxes.length E.w.heap.size,h:={E.h with boxes:=E.h.boxes++[[.mbox [] []]]}}
theorem Sd(h:SR E):Ext E E.newMap:=by
 refine⟨λb o ho=>?_,by simp[Env.newMap],λi hi=>⟨VX rfl hi,BF _ _ (by have:=hi.lt;omega)⟩,zf2z _,λk f f' hf hf'=>?_,rfl,rfl,⟨(Below.refl _ _).alloc h.basele _,λ_=>zf2z _⟩⟩
 .have G9:=OM h ho;refine⟨?_,Gb (Below.heap_alloc _ _ _ G9)⟩;rcases ho with ho|⟨h1,_,h3,h4⟩
  .exact .inl ho
  .refine .inr ⟨h1,by simp[Env.newMap];omega,λi hi=>?_,h4⟩;by_cases hn:i=E.h.boxes.length
   .subst hn;simp only[Env.newMap,V4];intro e;omega
   .have Ai:E.Live i:=(Gu (E:=E) rfl hi).resolve_right hn;simp only[Env.newMap,BF _ _ hn];intro e;obtain⟨cs',hcs'⟩:=h3 i Ai e;exact⟨cs',by rw[zf1z Ai.lt];exact hcs'⟩
 .have:f=f':=by have:=hf.symm.trans hf';simpa using this
  subst this;exact⟨rfl,zf2z _,λ_=>rfl⟩
theorem lO(h:SR E):SR E.newMap:=by
 have hx:=Sd h;have J3:E.newMap.h.boxes.length=E.h.boxes.length+1:=by simp[Env.newMap]
 have hnb:∀i,E.Live i->E.newMap.nb i=E.nb i:=λi hi=>BF _ _ (by have:=hi.lt;omega);have BZ:E.newMap.nb E.h.boxes.length=E.w.heap.size:=V4 _ _ _;refine⟨Nat.le_trans h.basele (by simp[Env.newMap]),λi cs' hi hh=>?_,λk f hk=>?_,λi j hi hj he=>?_,h.injf,λi k hi hk=>?_⟩
 .by_cases hn:i=E.h.boxes.length
  .subst hn;have:cs'=[.mbox [] []]:=by simpa[Env.newMap]using hi.symm
   subst this;exact⟨by rw[BZ];exact h.basele,.inr (.inl ⟨[],[],#[],0,rfl,by rw[BZ];exact SO _ _,by simp[Aj],by simp[W5]⟩)⟩
  .have Ai:i<E.h.boxes.length:=by have:=(zf0z.1 hi).1;omega
   have o9:E.h.boxes[i]?=some cs':=by
    simp only[Env.newMap]at hi
    rwa [zf1z Ai]at hi
   have hl:=CM o9 hh;exact(h.boxes i cs' o9 hh).ext hx hl (Below.heap_alloc _ _ _ (h.nb_lt hl).2)
 .have DB:k<E.h.fams.length:=(zf0z.1 hk).1;exact(h.fams k f hk).ext hx rfl (Below.heap_alloc _ _ _ (h.im_lt DB).2)
 .rcases Gu (E:=E) rfl hi with Ai|rfl<;>rcases Gu (E:=E) rfl hj with hj' | rfl
  .rw[hnb i Ai,hnb j hj']at he;exact h.inj i j Ai hj' he
  .rw[hnb i Ai,BZ]at he;have:=(h.nb_lt Ai).2;omega
  .rw[hnb j hj',BZ]at he;have:=(h.nb_lt hj').2;omega
  .rfl
 .have DB:k<E.h.fams.length:=hk;rcases Gu (E:=E) rfl hi with Ai|rfl
  .rw[hnb i Ai];exact h.sep i k Ai DB
  .rw[BZ];have:=(h.im_lt DB).2;simp only[Env.newMap];omega
theorem vz{t:TypeId}(hS:SR E)(ho:o.op=.makeMap t none):Ed P a o E (.mp E.h.boxes.length) {E.h with boxes:=E.h.boxes++[[.mbox [] []]]}:=by
 refine⟨_,.map (some E.w.heap.size),E.newMap,?_,.inl rfl,Sd hS,lO hS,rfl,?_⟩
 .simp[execOp,ho,Instr.makeMap,Env.newMap,Result.andThen]
 .simp only[VR];exact⟨CM (cs:=[.mbox [] []]) (by simp[Env.newMap]) rfl,by simp only[Env.newMap,V4]⟩
def Env.setMap(E:Env)(i:Nat)(es:Array MapEntry)(clk:Nat)(cs:List AV):Env :=
 {E with w:={E.w with heap:=E.w.heap.setIfInBounds (E.nb i) (.map es clk)},h:={E.h with boxes:=E.h.boxes.set i cs}}
theorem mS{w:World}{B g:Nat}(x:Obj)(hg:B<=g):Below B w {w with heap:=w.heap.setIfInBounds g x} :=
 ⟨rfl,rfl,rfl,by simp,λk hk=>by simp[zf9z (show g≠k by omega)]⟩
theorem Pr(w:World)(g k:Nat)(x:Obj)(h:k≠g):({w with heap:=w.heap.setIfInBounds g x}:World).heap[k]?=w.heap[k]?:=by
 simp[zf9z (Ne.symm h)]
theorem Ij(h:SR E){i:Nat}(hi:E.Live i){ks vs:I7}(hold:E.h.boxes[i]?=some [.mbox ks vs])(es:Array MapEntry)(clk:Nat)(cs:I7)(o9:Ak cs=false):Ext E (E.setMap i es clk cs):=by
 have hb:=h.nb_lt hi;refine⟨λb o ho=>?_,by simp[Env.setMap],λ_ h=>⟨OI rfl o9 h,rfl⟩,zf2z _,λk f f' hf hf'=>?_,rfl,rfl,⟨mS _ hb.1,λ_=>zf2z _⟩⟩
 .have s9:b≠E.nb i:=by
   rcases ho with ⟨ho,_⟩|⟨_,_,h3,_⟩
   .omega
   .intro e;obtain⟨cs',hcs'⟩:=h3 i hi e.symm;rw[hold]at hcs';cases hcs'
  refine⟨?_,Gb (Pr _ _ _ _ s9)⟩;rcases ho with ho|⟨h1,h2,h3,h4⟩
  .exact .inl ho
  .refine .inr ⟨h1,by simpa[Env.setMap]using h2,λj hj e=>?_,h4⟩;have hij:i≠j:=λe'=>s9 (by rw[e'];exact e.symm);obtain⟨cs',hcs'⟩:=h3 j ((FC (E:=E) rfl hj).resolve_right (Ne.symm hij)) e;exact⟨cs',by simpa[Env.setMap,zf5z hij]using hcs'⟩
 .have:f=f':=by have:=hf.symm.trans hf';simpa using this
  subst this;exact⟨rfl,zf2z _,λ_=>rfl⟩
theorem LW{ks vs:I7}{es:List MapEntry}{E:Env}{w:World}{ok:Nat->Nat->Prop}(h1:Aj w ok ks (es.map (·.key)))(h2:W5 E vs (es.map (·.val))):Ak [.mbox ks vs]=false:=by
 unfold Ak;split
 .rename_i e;cases e;have e1:=(Eu h1).1;have e2:=(Bi h2).1;simp at e1 e2;rw[e2]at e1;simp at e1
 .rfl
theorem MK(h:SR E){i:Nat}{ks vs ks' vs':I7}(hl:E.Live i)(hi:E.h.boxes[i]?=some [.mbox ks vs]){es:Array MapEntry}{clk:Nat}(h1:Aj E.w E.ok ks' (es.toList.map (·.key)))(h2:W5 E vs' (es.toList.map (·.val))) :
  SR (E.setMap i es clk [.mbox ks' vs']):=by
 have Ai:=hl.lt;have hx:=Ij h hl hi es clk [.mbox ks' vs'] (LW h1 h2);have hb1:=(h.boxes i _ hi (hl.ne hi)).1;have G9:=h.nb_lt hl;have hun:∀a,(E.setMap i es clk [.mbox ks' vs']).Live a->E.Live a:=λa ha=>(FC (E:=E) rfl ha).elim id λe=>e ▸ hl;refine⟨by simpa[Env.setMap]using h.basele,λj cs' hj hh=>?_,λk f hk=>?_,λa b ha hb=>h.inj a b (hun a ha) (hun b hb),h.injf,λa k ha=>h.sep a k (hun a ha)⟩
 .by_cases hn:i=j
  .subst hn;have:cs'=[.mbox ks' vs']:=by simpa[Env.setMap,Ai]using hj.symm
   subst this;exact⟨hb1,.inr (.inl ⟨ks',vs',es,clk,rfl,by simp[Env.setMap,G9.2],Bh hx.cells _ _ h1,CK hx _ _ h2⟩)⟩
  .have o9:E.h.boxes[j]?=some cs':=by simpa[Env.setMap,zf5z hn]using hj
   have hlj:=CM o9 hh;exact(h.boxes j cs' o9 hh).ext hx hlj (Pr _ _ _ _ (λe=>hn (h.inj _ _ hl hlj e.symm)))
 .have DB:k<E.h.fams.length:=(zf0z.1 hk).1;exact(h.fams k f hk).ext hx rfl (Pr _ _ _ _ (λe=>h.sep i k hl DB e.symm))
theorem QO{kt:TypeId}{str:Bool}(h:LO P kt=some str):(str=true/\P.underlying kt=some .string)\/(str=false/\∃k,P.underlying kt=some (.int k)):=by
 unfold LO at h;split at h
 .rename_i hu;cases h;exact .inl ⟨rfl,hu⟩
 .rename_i k hu;cases h;exact .inr ⟨rfl,k,hu⟩
 .cases h
theorem Et{kt:TypeId}{str:Bool}(h:LO P kt=some str)(w:World)(v:Value)(e:Bool)(n:Nat):(Instr.checkKey e (n+1) kt v).run P w=.ok () w:=by
 rcases QO h with ⟨_,hu⟩|⟨_,k,hu⟩<;>(unfold Instr.checkKey;simp only[Sem.run_bind,run_underlying hu,Result.andThen];cases v<;>rfl)
theorem QF{w:World}{ok:Nat->Nat->Prop}{str:Bool}{d:TypeDesc}(hd:(str=true/\d=.string)\/(str=false/\∃k,d=.int k)){x y:AV}{u v:Value}{b:Bool}(hx:VR E x u)(hy:PV w ok y v)(h:Zs str x y=some b) :
  Instr.sameNow d u v=some b/\(b=true->u=v):=by
 unfold Zs at h;split at h
 .simp only[VR]at hx;simp only[PV]at hy;subst hx hy;split at h
  .rename_i hs;cases h;rcases hd with ⟨_,rfl⟩|⟨h1,_⟩
   .exact⟨rfl,λe=>by rw[(MapKept.bytes_beq _ _).1 e]⟩
   .rw[h1]at hs;cases hs
  .cases h
 .simp only[VR]at hx;simp only[PV]at hy;subst hx hy;split at h
  .rename_i hs;cases h;rcases hd with ⟨h1,_⟩|⟨_,k',rfl⟩
   .rw[h1]at hs;simp at hs
   .obtain⟨_,rfl⟩:=hs;exact⟨by simp[Instr.sameNow],λe=>by rw[eq_of_beq e]⟩
  .cases h
 .cases h
theorem Gs{w:World}{ok:Nat->Nat->Prop}{str:Bool}{d:TypeDesc}(hd:(str=true/\d=.string)\/(str=false/\∃k,d=.int k)){x:AV}{u:Value}(hx:VR E x u):∀{ks:I7} {es:List MapEntry} {i:Nat} {r:Option Nat},
  Aj w ok ks (es.map (·.key))->IW str x ks i=some r ->
  (r=none/\Instr.findNow d u es i=some none)\/∃j e,r=some (i+j)/\es[j]?=some e/\Instr.findNow d u es i=some (some (i+j,e.val))/\u=e.key
 | [],es,i,r,hp,h=>by
  simp only[IW]at h;cases h;cases es with
  |nil=>exact .inl ⟨rfl,rfl⟩
  |cons e es=>simp[Aj]at hp
 |y::ks,[],i,r,hp,h=>by simp[Aj]at hp
 |y::ks,e::es,i,r,hp,h=>by
  simp only[Aj,zf6z]at hp;obtain⟨v,vs,he,h1,h2⟩:=hp;cases he;simp only[IW]at h;split at h
  .rename_i hq;cases h;obtain⟨g1,g2⟩:=QF hd hx h1 hq;exact .inr ⟨0,e,rfl,rfl,by simp[Instr.findNow,g1],g2 rfl⟩
  .rename_i hq;obtain⟨g1,g2⟩:=QF hd hx h1 hq;rcases Gs hd hx h2 h with ⟨k1,k2⟩|⟨j,e',k1,k2,k3,k4⟩
   .exact .inl ⟨k1,by simp[Instr.findNow,g1,k2]⟩
   .refine .inr ⟨j+1,e',by rw[k1];congr 1;omega,by simpa using k2,?_,k4⟩;simp only[Instr.findNow,g1,k3];rw[show i+1+j=i+(j+1) by omega]
  .cases h
theorem QN{kt:TypeId}{str:Bool}(h:LO P kt=some str):∃d,P.underlying kt=some d/\((str=true/\d=.string)\/(str=false/\∃k,d=.int k)):=by
 rcases QO h with ⟨h1,hu⟩|⟨h1,k,hu⟩
 .exact⟨_,hu,.inl ⟨h1,rfl⟩⟩
 .exact⟨_,hu,.inr ⟨h1,k,rfl⟩⟩
theorem JY(hS:SR E){x:AV}{v:Value}{ks vs:I7}(hv:VR E x v)(h:BQ E.h x=some (ks,vs)) :
  ∃es:Array MapEntry,Aj E.w E.ok ks (es.toList.map (·.key))/\W5 E vs (es.toList.map (·.val))/\((v=.map none/\es=#[])\/∃b clk,v=.map (some b)/\E.w.heap[b]?=some (.map es clk)):=by
 unfold BQ at h;split at h
 .cases h;simp only[VR,PV]at hv;obtain⟨b,es,clk,rfl,_,h1,h2,h3⟩:=hv;exact⟨es,h2,GD _ _ h3,.inr ⟨b,clk,rfl,h1⟩⟩
 .split at h
  .rename_i ks' vs' hb;cases h;simp only[VR]at hv;obtain⟨hlv,rfl⟩:=hv;obtain⟨es,clk,h1,h2,h3⟩:=(hS.boxes _ _ hb (hlv.ne hb)).map;exact⟨es,h2,h3,.inr ⟨_,clk,rfl,h1⟩⟩
  .cases h
 .cases h;simp only[VR]at hv;subst hv;exact⟨#[],by simp[Aj],by simp[W5],.inl ⟨rfl,rfl⟩⟩
 .cases h
theorem q_mlen{args:Array Operand}{ats:Array TypeId}{x:Operand}{t kt et:TypeId}{x':Opd}{v:AV}{h':AH}(hS:SR E)(hf:FR E fr a.tmps)(ho:o.op=.call {callee:=.builtin .len,args:=args,argTypes:=ats})(h1:args.toList=[x])(h2:ats.toList=[t])
  (ht:P.underlying t=some (.map kt et)) (hx:C5 x=some x') (E5:(match BQ E.h (get fr x')with|some (ks,_)=>some ((.int .i64 ks.length:AV),E.h)|none=>none)=some (v,h')):Ed P a o E v h':=by
 split at E5
 case h_2=>cases E5
 rename_i ks vs hm;cases E5;obtain⟨es,e1,e2,e3⟩:=JY hS (C4 hf hx) hm;have hl:ks.length=es.size:=by have:=(Eu e1).1;simpa using this.symm
 rw[Lx h1,Lx h2]at ho;rw[hl];rcases e3 with ⟨hm,rfl⟩|⟨b,clk,hm,hb⟩
 .exact AE.does hS ⟨_,by simp[execOp,ho,resolve,invoke,builtin,Builtin.len_,hm,M8 ht,goInt],Ef _ _⟩
 .exact AE.does hS ⟨_,by simp[execOp,ho,resolve,invoke,builtin,Builtin.len_,hm,M8 ht,goInt,MapKept.run_getObj_map hb,Result.andThen],Ef _ _⟩
theorem wA{t kt et:TypeId}{x k:Operand}{x' k':Opd}{ok str:Bool}{z v:AV}{h':AH}(hS:SR E)(hf:FR E fr a.tmps)(ho:o.op=.lookup t x k ok)(ht:P.underlying t=some (.map kt et))(hk:LO P kt=some str)(hz:Program.zeroA P et=some z)
  (hx:C5 x=some x') (Hq:C5 k=some k') (E5:Ff str ok z E.h (get fr x') (get fr k')=some (v,h')):Ed P a o E v h':=by
 unfold Ff at E5;split at E5
 case isFalse=>cases E5
 split at E5
 case h_2=>cases E5
 rename_i ks vs hm;obtain⟨es,e1,e2,e3⟩:=JY hS (C4 hf hx) hm;have hkv:=C4 hf Hq;obtain⟨d,hd,hd'⟩:=QN hk;obtain⟨i,zv,z1,z2,z3,z4,z5⟩:=CH hz;have hzv:VR E z zv:=r9 _ _ (Aw z4);have pair:∀{y:AV} {u:Value} (b:Bool),VR E y u->VR E (if ok then .tup [y,.bool b]else y) (if ok then .tuple #[u,.bool b]else u):=by
  intro y u b hy;cases ok with
  |false=>exact hy
  |true =>
   simp only[if_true,VR];exact⟨_,rfl,by simp[W5,VR,hy]⟩
 have run:∀(r:Option (Nat×Value)),Instr.findNow d (a.eval k) es.toList 0=some r->∀(u:Value) (b:Bool),(match r with|some (_,v)=>u=v/\b=true|none=>u=zv/\b=false) ->
   (execOp a.eval o).run P E.w=.ok (.value (if ok then .tuple #[u,.bool b]else u)) E.w:=by
  intro r hr u b hu;rcases e3 with ⟨hm,rfl⟩|⟨bl,clk,hm,hb⟩
  .cases r with
   |some p=>simp[Instr.findNow]at hr
   |none =>
    obtain⟨rfl,rfl⟩:=hu;simp[execOp,ho,Instr.lookup,run_underlying ht,hm,Et hk,MapKept.run_findKey hd hr,zeroValue,typeInfo,z1,z2,Result.andThen]
  .cases r with
   |some p =>
    obtain⟨q,v⟩:=p;obtain⟨rfl,rfl⟩:=hu;simp[execOp,ho,Instr.lookup,run_underlying ht,hm,MapKept.run_getObj_map hb,Et hk,MapKept.run_findKey hd hr,Result.andThen]
   |none =>
    obtain⟨rfl,rfl⟩:=hu;simp[execOp,ho,Instr.lookup,run_underlying ht,hm,MapKept.run_getObj_map hb,Et hk,MapKept.run_findKey hd hr,zeroValue,typeInfo,z1,z2,Result.andThen]
 split at E5
 .rename_i j hj;split at E5
  .rename_i y hy;cases E5;rcases Gs hd' hkv e1 hj with ⟨h1,_⟩|⟨q,e,h1,h2,h3,_⟩
   .cases h1
   .have hq:j=q:=by simpa using h1
    subst hq;obtain⟨hl,hg⟩:=Bi e2;obtain⟨u,hu,hpu⟩:=hg hy;have hue:u=e.val:=by
     rw[zf8z,h2]at hu;simpa using hu.symm
    subst hue;exact AE.does hS ⟨_,run _ h3 e.val true ⟨rfl,rfl⟩,pair true hpu⟩
  .cases E5
 .rename_i hj;cases E5;rcases Gs hd' hkv e1 hj with ⟨_,h2⟩|⟨q,e,h1,_⟩
  .exact AE.does hS ⟨_,run _ h2 zv false ⟨rfl,rfl⟩,pair false hzv⟩
  .cases h1
 .cases E5
theorem Hy{kt:TypeId}(h:Gi P kt=true):∃fs f g k,P.underlying kt=some (.struct fs)/\fs.toList=[f,g]/\P.underlying f.type=some .string/\P.underlying g.type=some (.int k) /\
  f.name≠ "_"/\g.name≠ "_"/\f.offset=0/\g.offset=1/\P.stoodInHeld kt=false:=by
 unfold Gi at h;split at h
 .rename_i fs hu;split at h
  .rename_i f g hfs;split at h
   .rename_i k h1 h2;simp only[decide_eq_true_eq]at h;obtain⟨a1,a2,a3,a4,_,_,a5⟩:=h;exact⟨fs,f,g,k,hu,hfs,h1,h2,a1,a2,a3,a4,a5⟩
   .cases h
  .cases h
 .cases h
theorem OS{t:TypeId}{xs:Array Value}{q:Nat}{v:Value}{d:TypeDesc}(w:World)(hu:P.underlying t=some d)(hd:d=.string\/∃k,d=.int k)(hq:xs[q]?=some v):(part t xs q).run P w=.ok v w:=by
 have hag:(isAgg t).run P w=.ok false w:=by
  unfold isAgg;rcases hd with rfl|⟨k,rfl⟩<;>simp[run_underlying hu]
 unfold part;simp only[Sem.run_bind,hag,Result.andThen_ok,zg1z,if_false,hq,Sem.run_pure]
theorem be{kt:TypeId}(h:Gi P kt=true)(w:World)(x y:AD)(k:IntKind)(n m:Int) :
  (Op.equal kt (.agg #[.string x,.int k n]) (.agg #[.string y,.int k m])).run P w=.ok (x == y&&n == m) w:=by
 obtain⟨fs,f,g,kk,hu,hfs,h1,h2,a1,a2,a3,a4,a5⟩:=Hy h;have hf:P.fieldsOf kt=fs:=by simp[Program.fieldsOf,hu]
 unfold Op.equal Op.maxDepth;rw[show (10000:Nat)=9999+1 from rfl,run_equalIn_struct w 9999 kt _ _ (by rw[hf];exact hu) a5,hf,hfs];have p1:∀(z:ByteArray) (q:Int),(part f.type #[.string z,.int k q] f.offset).run P w=.ok (.string z) w:=λz q=>OS w h1 (.inl rfl) (by rw[a3];rfl);have p2:∀(z:ByteArray) (q:Int),(part g.type #[.string z,.int k q] g.offset).run P w=.ok (.int k q) w:=λz q=>OS w h2 (.inr ⟨_,rfl⟩) (by rw[a4];rfl);have e1:(Op.equalIn 9999 f.type (.string x) (.string y)).run P w=.ok (x == y) w:=by
  rw[show (9999:Nat)=9998+1 from rfl,run_equalIn_string w 9998 f.type x y h1,beq_toListBytes]
 have e2:(Op.equalIn 9999 g.type (.int k n) (.int k m)).run P w=.ok (n == m) w:=run_equalIn_int w 9998 g.type k kk n m h2;simp only[Op.eqFields,a1,a2,ne_eq,not_false_eq_true,if_true,Sem.run_bind,p1,p2,e1,Result.andThen_ok];cases hx:x == y with
 |false=>simp
 |true =>
  simp only[Bool.not_true,zg1z,if_false,Sem.run_bind,p1,p2,e2,Result.andThen_ok];cases hn:n == m<;>simp
theorem Lb{kt:TypeId}(h:Gi P kt=true)(w:World)(x:AD)(k:IntKind)(n:Int)(e:Bool):(Instr.checkKey e 10000 kt (.agg #[.string x,.int k n])).run P w=.ok () w:=by
 obtain⟨fs,f,g,kk,hu,hfs,h1,h2,a1,a2,a3,a4,a5⟩:=Hy h;have p1:(part f.type #[.string x,.int k n] f.offset).run P w=.ok (.string x) w:=OS w h1 (.inl rfl) (by rw[a3];rfl);have p2:(part g.type #[.string x,.int k n] g.offset).run P w=.ok (.int k n) w:=OS w h2 (.inr ⟨_,rfl⟩) (by rw[a4];rfl);have c1:∀(w:World),(Instr.checkKey e 9999 f.type (.string x)).run P w=.ok () w:=λw=>by
  unfold Instr.checkKey;simp[run_underlying h1]
 have c2:∀(w:World),(Instr.checkKey e 9999 g.type (.int k n)).run P w=.ok () w:=λw=>by
  unfold Instr.checkKey;simp[run_underlying h2]
 rw[show (10000:Nat)=9999+1 from rfl];unfold Instr.checkKey;simp only[Sem.run_bind,run_underlying hu,Result.andThen_ok];rw[←Array.forIn_toList,hfs];simp only[List.forIn_cons,List.forIn_nil,Sem.run_bind,Sem.run_ite,a1,a2,ne_eq,not_false_eq_true,if_true,p1,p2,c1,c2,Result.andThen_ok,Sem.run_pure]
theorem QM{x:AV}{u:Value}(hv:VR E x u)(h:XW x=true):∃s k n,x=.agg [.str s,.int k n]/\u=.agg #[.string s,.int k n]:=by
 unfold XW at h;split at h
 .rename_i s k n;simp only[VR]at hv;obtain⟨us,rfl,_,hu⟩:=hv;obtain⟨l,rfl⟩:∃l,us=zt1z l:=⟨us.toList,by simp⟩;simp[W5,VR]at hu;subst hu;exact⟨s,k,n,rfl,rfl⟩
 .cases h
theorem SH{kt:TypeId}(hp:Gi P kt=true){w' w:World}{ok:Nat->Nat->Prop}{s:AD}{k:IntKind}{n:Int}:∀{ks:I7} {es:List MapEntry} {i:Nat} {r:Option Nat},
  Aj w' ok ks (es.map (·.key))->Mu (.agg [.str s,.int k n]) ks i=some r ->
  (r=none/\(Instr.findAsking kt (.agg #[.string s,.int k n]) es i).run P w=.ok none w)\/∃j e,r=some (i+j)/\es[j]?=some e/\(Instr.findAsking kt (.agg #[.string s,.int k n]) es i).run P w=.ok (some (i+j,e.val)) w/\Value.agg #[.string s,.int k n]=e.key
 | [],es,i,r,hq,h=>by
  simp only[Mu]at h;cases h;cases es with
  |nil=>exact .inl ⟨rfl,by simp[Instr.findAsking]⟩
  |cons e es=>simp[Aj]at hq
 |y::ks,[],i,r,hq,h=>by simp[Aj]at hq
 |y::ks,e::es,i,r,hq,h=>by
  simp only[Aj,zf6z]at hq;obtain⟨v,vs,he,h1,h2⟩:=hq;cases he;have form:∀b,dj (.agg [.str s,.int k n]) y=some b->(Op.equal kt (.agg #[.string s,.int k n]) e.key).run P w=.ok b w/\(b=true->Value.agg #[.string s,.int k n]=e.key):=by
   intro b hb;unfold dj at hb;split at hb
   .rename_i a1 k1 n1 a2 k2 n2 hx;cases hx;split at hb
    .rename_i hk;subst hk;cases hb;simp only[PV]at h1;obtain⟨us,Nb,_,hu⟩:=h1;obtain⟨l,rfl⟩:∃l,us=zt1z l:=⟨us.toList,by simp⟩;simp[Aj,PV]at hu;subst hu;rw[Nb];refine⟨be hp w _ _ _ _ _,λe=>?_⟩;rw[zt0z]at e;rw[(MapKept.bytes_beq _ _).1 e.1,eq_of_beq e.2]
    .cases hb
   .cases hb
  simp only[Mu]at h;split at h
  .rename_i hb;cases h;obtain⟨g1,g2⟩:=form _ hb;exact .inr ⟨0,e,rfl,rfl,by simp[Instr.findAsking,g1],g2 rfl⟩
  .rename_i hb;obtain⟨g1,g2⟩:=form _ hb;rcases SH hp (w:=w) h2 h with ⟨k1,k2⟩|⟨j,e',k1,k2,k3,k4⟩
   .exact .inl ⟨k1,by simp[Instr.findAsking,g1,k2]⟩
   .refine .inr ⟨j+1,e',by rw[k1];congr 1;omega,by simpa using k2,?_,k4⟩;simp only[Instr.findAsking,Sem.run_bind,g1,Result.andThen_ok,zg1z,if_false,k3];rw[show i+1+j=i+(j+1) by omega]
  .cases h
theorem KZ{kt:TypeId}(hp:Gi P kt=true){w' w:World}{ok:Nat->Nat->Prop}{s:AD}{k:IntKind}{n:Int}{ks:I7}{es:List MapEntry}{r:Option Nat}
  (hq:Aj w' ok ks (es.map (·.key))) (h:Mu (.agg [.str s,.int k n]) ks 0=some r) :
  (r=none/\(Instr.findKey kt (.agg #[.string s,.int k n]) es).run P w=.ok none w)\/∃j e,r=some j/\es[j]?=some e/\(Instr.findKey kt (.agg #[.string s,.int k n]) es).run P w=.ok (some (j,e.val)) w/\Value.agg #[.string s,.int k n]=e.key:=by
 obtain⟨fs,f,g,kk,hu,_⟩:=Hy hp;have key:(Instr.findKey kt (.agg #[.string s,.int k n]) es).run P w=(Instr.findAsking kt (.agg #[.string s,.int k n]) es 0).run P w:=by
  unfold Instr.findKey;simp only[Sem.run_bind,run_underlying hu,Result.andThen_ok];cases es with
  |nil=>simp[Instr.findNow,Instr.findAsking]
  |cons e es=>simp[Instr.findNow,Instr.sameNow]
 rw[key];rcases SH hp (w:=w) hq h with h|⟨j,e,h1,h2,h3,h4⟩
 .exact .inl h
 .exact .inr ⟨j,e,by simpa using h1,h2,by simpa using h3,h4⟩
theorem oy{t kt et:TypeId}{x k:Operand}{x' k':Opd}{ok:Bool}{z v:AV}{h':AH}(hS:SR E)(hf:FR E fr a.tmps)(ho:o.op=.lookup t x k ok)(ht:P.underlying t=some (.map kt et))(hp:Gi P kt=true)(hz:Program.zeroA P et=some z)
  (hx:C5 x=some x') (Hq:C5 k=some k') (E5:NA ok z E.h (get fr x') (get fr k')=some (v,h')):Ed P a o E v h':=by
 unfold NA at E5;split at E5
 case isFalse=>cases E5
 rename_i hko;split at E5
 case h_2=>cases E5
 rename_i ks vs hm;obtain⟨es,e1,e2,e3⟩:=JY hS (C4 hf hx) hm;obtain⟨s,kd,n,hkx,hku⟩:=QM (C4 hf Hq) hko;rw[hkx]at E5;obtain⟨i,zv,z1,z2,z3,z4,z5⟩:=CH hz;have hzv:VR E z zv:=r9 _ _ (Aw z4);have pair:∀{y:AV} {u:Value} (b:Bool),VR E y u->VR E (if ok then .tup [y,.bool b]else y) (if ok then .tuple #[u,.bool b]else u):=by
  intro y u b hy;cases ok with
  |false=>exact hy
  |true =>
   simp only[if_true,VR];exact⟨_,rfl,by simp[W5,VR,hy]⟩
 have hck:∀w e,(Instr.checkKey e 10000 kt (.agg #[.string s,.int kd n])).run P w=.ok () w:=λw e=>Lb hp w s kd n e;have run:∀(r:Option (Nat×Value)),(∀w:World,(Instr.findKey kt (.agg #[.string s,.int kd n]) es.toList).run P w=.ok r w)->∀(u:Value) (b:Bool),(match r with|some (_,v)=>u=v/\b=true|none=>u=zv/\b=false) ->
   (execOp a.eval o).run P E.w=.ok (.value (if ok then .tuple #[u,.bool b]else u)) E.w:=by
  intro r hr u b hu;rcases e3 with ⟨hm,rfl⟩|⟨bl,clk,hm,hb⟩
  .have hr0:=hr E.w;cases r with
   |some p=>obtain⟨fs,f,g,kk,hu',_⟩:=Hy hp;simp[Instr.findKey,run_underlying hu',Instr.findNow]at hr0
   |none =>
    obtain⟨rfl,rfl⟩:=hu;simp[execOp,ho,Instr.lookup,run_underlying ht,hm,hku,hck,hr0,zeroValue,typeInfo,z1,z2,Result.andThen]
  .cases r with
   |some p =>
    obtain⟨q,v⟩:=p;obtain⟨rfl,rfl⟩:=hu;simp[execOp,ho,Instr.lookup,run_underlying ht,hm,hku,MapKept.run_getObj_map hb,hck,hr,Result.andThen]
   |none =>
    obtain⟨rfl,rfl⟩:=hu;simp[execOp,ho,Instr.lookup,run_underlying ht,hm,hku,MapKept.run_getObj_map hb,hck,hr,zeroValue,typeInfo,z1,z2,Result.andThen]
 split at E5
 .rename_i j hj;split at E5
  .rename_i y hy;cases E5;have hj':=λw=>KZ (w:=w) hp e1 hj;obtain⟨q,e,h1,h2,_,_⟩:=(hj' E.w).resolve_left λh=>by cases h.1
   have hq:j=q:=by simpa using h1
   subst hq;obtain⟨hl,hg⟩:=Bi e2;obtain⟨u,hu,hpu⟩:=hg hy;have hue:u=e.val:=by
    rw[zf8z,h2]at hu;simpa using hu.symm
   subst hue;refine AE.does hS ⟨_,run (some (j,e.val)) (λw=>?_) e.val true ⟨rfl,rfl⟩,pair true hpu⟩;obtain⟨q,e',k1,k2,k3,_⟩:=(hj' w).resolve_left λh=>by cases h.1
   have hq:j=q:=by simpa using k1
   subst hq;rw[h2]at k2;cases k2;exact k3
  .cases E5
 .rename_i hj;cases E5;refine AE.does hS ⟨_,run none (λw=>?_) zv false ⟨rfl,rfl⟩,pair false hzv⟩;rcases KZ (w:=w) hp e1 hj with ⟨_,h2⟩|⟨q,e,h1,_⟩
  .exact h2
  .cases h1
 .cases E5
theorem Lf{α:Type}{x:α}:∀{l:List α} {j:Nat},l[j]?=some x->l.set j x=l
 | [],_,h=>by simp at h
 |y::l,0,h=>by simp at h;simp[h]
 |y::l,j+1,h=>by simp only[zg7z];rw[Lf (l:=l) (by simpa using h)]
theorem ZU{w:World}{ok:Nat->Nat->Prop}{cs:I7}{us:List Value}(h:Aj w ok cs us){c:AV}{u:Value}(hc:PV w ok c u):Aj w ok (cs++[c]) (us++[u]):=by
 obtain⟨hl,hg⟩:=Eu h;refine Rb (by simp[hl]) λj x y hx hy=>?_;by_cases e:j<cs.length
 .rw[zf1z e]at hx;rw[zf1z (by omega)]at hy;obtain⟨y',h1,h2⟩:=hg hx;rw[hy]at h1;cases h1;exact h2
 .rw[List.getElem?_append_right (by omega)]at hx hy;rw[hl]at hy;have:j-cs.length=0:=by
   have:=(zf0z.1 hx).1;simp at this;omega
  rw[this]at hx hy;simp at hx hy;subst hx hy;exact hc
theorem qk{x:AV}{v:Value}{str:Bool}(hv:VR E x v)(h:OE str x=true):PV E.w E.ok x v/\∀n,Instr.sameBits n v v=true:=by
 unfold OE at h;split at h
 .simp only[VR]at hv;subst hv;exact⟨by simp[PV],MapKept.sameBits_self (d:=.string) (by simp[MapKept.IsKey])⟩
 .rename_i k n;simp only[VR]at hv;subst hv;exact⟨by simp[PV],MapKept.sameBits_self (d:=.int k) (by simp[MapKept.IsKey])⟩
 .cases h
theorem gP{E:Env}{cs:I7}{us:List Value}(h:W5 E cs us)(i:Nat){c:AV}{u:Value}(hc:VR E c u):W5 E (cs.set i c) (us.set i u):=by
 induction cs generalizing us i with
 |nil =>
  simp only[W5]at h;subst h;simp[W5]
 |cons x cs ih =>
  simp only[W5]at h;obtain⟨y,ys,rfl,h1,h2⟩:=h;cases i with
  |zero=>simp only[List.set_cons_zero,W5];exact⟨u,ys,rfl,hc,h2⟩
  |succ i=>simp only[zg7z,W5];exact⟨y,_,rfl,h1,ih h2 i⟩
theorem ZX{E:Env}{cs:I7}{us:List Value}(h:W5 E cs us){c:AV}{u:Value}(hc:VR E c u):W5 E (cs++[c]) (us++[u]):=by
 induction cs generalizing us with
 |nil =>
  simp only[W5]at h;subst h;simp only[List.nil_append,W5];exact⟨u,[],rfl,hc,rfl⟩
 |cons x cs ih =>
  simp only[W5]at h;obtain⟨y,ys,rfl,h1,h2⟩:=h;simp only[List.cons_append,W5];exact⟨y,_,rfl,h1,ih h2⟩
theorem eO(hS:SR E){x y:AV}{v:Value}(hv:VR E x v)(h:lN E.h x=some y):VR E y v:=by
 unfold lN at h;split at h
 .cases h;exact hv
 .exact r9 _ _ (GH hS ⟨λ_ _ h=>h,λh=>by cases h⟩ hv h).1
theorem zU{t kt et:TypeId}{m k x:Operand}{m' k' x':Opd}{str:Bool}{v:AV}{h':AH}(hS:SR E)(hf:FR E fr a.tmps)(ho:o.op=.mapUpdate t m k x\/o.op=.insert t m k x)(ht:P.underlying t=some (.map kt et))(hk:LO P kt=some str)
  (hm:C5 m=some m') (Hq:C5 k=some k') (hx:C5 x=some x') (E5:UQ str E.h (get fr m') (get fr k') (get fr x')=some (v,h')):Ed P a o E v h':=by
 unfold UQ at E5;split at E5
 case h_2=>cases E5
 rename_i b hgm;split at E5
 case h_2=>cases E5
 rename_i ks vs u hb hu;split at E5
 case isFalse=>cases E5
 rename_i T9;have hmv:=C4 hf hm;rw[hgm]at hmv;simp only[VR]at hmv;obtain⟨G9,hme⟩:=hmv;obtain⟨es,clk,b1,b2,b3⟩:=(hS.boxes b _ hb (G9.ne hb)).map;have hkv:=C4 hf Hq;obtain⟨d,hd,hd'⟩:=QN hk;obtain⟨hkp,hbits⟩:=qk hkv T9.1;have hup:VR E u (a.eval x):=eO hS (C4 hf hx) hu;have hex:(execOp a.eval o).run P E.w=((do Instr.mapUpdate t (a.eval m) (a.eval k) (a.eval x);pure Next.skip:Sem Next)).run P E.w:=by
  rcases ho with ho|ho<;>simp only[execOp,ho]
 split at E5
 .rename_i j hj;cases E5;rcases Gs hd' hkv b2 hj with ⟨h1,_⟩|⟨q,e,h1,h2,h3,h4⟩
  .cases h1
  .have hq:j=q:=by simpa using h1
   subst hq;have hj':es[j]?=some e:=by simpa using h2
   have hlist:(es.modify j λe=>{e with key:=a.eval k,val:=a.eval x}).toList=es.toList.set j {e with key:=a.eval k,val:=a.eval x}:=by
    apply zg8z;intro i;rw[zg6z,zg5z,zg9z];by_cases hij:j=i
    .subst hij;have hl:j<es.size:=by have:=(zf0z.1 h2).1;simpa using this
     have hje:es[j]'hl=e:=by rw[zg2z hl]at hj';exact Option.some.inj hj'
     simp[hj',hl,hje]
    .simp[hij]
   have HK:Aj E.w E.ok ks ((es.modify j λe=>{e with key:=a.eval k,val:=a.eval x}).toList.map (·.key)):=by
    rw[hlist,zg4z];have:(es.toList.map (·.key)).set j (a.eval k)=es.toList.map (·.key):=Lf (by rw[zf8z,h2,h4];rfl);rw[this];exact b2
   have HV:W5 E (vs.set j u) ((es.modify j λe=>{e with key:=a.eval k,val:=a.eval x}).toList.map (·.val)):=by
    rw[hlist,zg4z];exact gP b3 j hup
   refine⟨.skip,undef,E.setMap b (es.modify j λe=>{e with key:=a.eval k,val:=a.eval x}) clk [.mbox ks (vs.set j u)],?_,.inr ⟨rfl,rfl⟩,Ij hS G9 hb _ _ _ (LW HK HV),MK hS G9 hb HK HV,rfl,by simp[DE]⟩
   .rw[hex];simp[Instr.mapUpdate,run_underlying ht,hme,MapKept.run_getObj_map b1,Et hk,MapKept.run_findKey hd h3,hj',h4.symm,Instr.keyThatStays,hbits,MapKept.run_setObj_map _ b1,Result.andThen,Env.setMap]
 .rename_i hj;cases E5;rcases Gs hd' hkv b2 hj with ⟨_,h2⟩|⟨q,e,h1,_⟩
  .have HK:Aj E.w E.ok (ks++[get fr k']) ((es.push {key:=a.eval k,val:=a.eval x,born:=clk}).toList.map (·.key)):=by
    simp only[zf7z,zg0z,zf6z,zg3z];exact ZU b2 hkp
   have HV:W5 E (vs++[u]) ((es.push {key:=a.eval k,val:=a.eval x,born:=clk}).toList.map (·.val)):=by
    simp only[zf7z,zg0z,zf6z,zg3z];exact ZX b3 hup
   refine⟨.skip,undef,E.setMap b (es.push {key:=a.eval k,val:=a.eval x,born:=clk}) (clk+1) [.mbox (ks++[get fr k']) (vs++[u])],?_,.inr ⟨rfl,rfl⟩,Ij hS G9 hb _ _ _ (LW HK HV),MK hS G9 hb HK HV,rfl,by simp[DE]⟩
   .rw[hex];simp[Instr.mapUpdate,run_underlying ht,hme,MapKept.run_getObj_map b1,Et hk,MapKept.run_findKey hd h2,MapKept.run_setObj_map _ b1,Result.andThen,Env.setMap]
  .cases h1
 .cases E5
theorem oz{t kt et:TypeId}{m k x:Operand}{m' k' x':Opd}{v:AV}{h':AH}(hS:SR E)(hf:FR E fr a.tmps)(ho:o.op=.mapUpdate t m k x\/o.op=.insert t m k x)(ht:P.underlying t=some (.map kt et))(hp:Gi P kt=true)
  (hm:C5 m=some m') (Hq:C5 k=some k') (hx:C5 x=some x') (E5:lM E.h (get fr m') (get fr k') (get fr x')=some (v,h')):Ed P a o E v h':=by
 unfold lM at E5;split at E5
 case h_2=>cases E5
 rename_i b hgm;split at E5
 case h_2=>cases E5
 rename_i ks vs u hb hu;split at E5
 case isFalse=>cases E5
 rename_i T9;have hmv:=C4 hf hm;rw[hgm]at hmv;simp only[VR]at hmv;obtain⟨G9,hme⟩:=hmv;obtain⟨es,clk,b1,b2,b3⟩:=(hS.boxes b _ hb (G9.ne hb)).map;obtain⟨s,kd,n,hkx,hku⟩:=QM (C4 hf Hq) T9.1;rw[hkx]at E5;have hkp:PV E.w E.ok (.agg [.str s,.int kd n]) (.agg #[.string s,.int kd n]):=by
  simp only[PV];exact⟨_,rfl,by simp[Value.oneCell'],by simp[Aj,PV]⟩
 have hbits:Instr.sameBits 10000 (.agg #[.string s,.int kd n]) (.agg #[.string s,.int kd n])=true:=by
  simp[Instr.sameBits,MapKept.bytes_beq]
 have hup:VR E u (a.eval x):=r9 _ _ (GH hS ⟨λ_ _ h=>h,λh=>by cases h⟩ (C4 hf hx) hu).1;have hck:∀w e,(Instr.checkKey e 10000 kt (.agg #[.string s,.int kd n])).run P w=.ok () w:=λw e=>Lb hp w s kd n e;have hex:(execOp a.eval o).run P E.w=((do Instr.mapUpdate t (a.eval m) (a.eval k) (a.eval x);pure Next.skip:Sem Next)).run P E.w:=by
  rcases ho with ho|ho<;>simp only[execOp,ho]
 split at E5
 .rename_i j hj;cases E5;obtain⟨q,e,h1,h2,h3,h4⟩:=(KZ (w:=E.w) hp b2 hj).resolve_left λh=>by cases h.1
  have hq:j=q:=by simpa using h1
  subst hq;have hj':es[j]?=some e:=by simpa using h2
  have hlist:(es.modify j λe=>{e with key:=a.eval k,val:=a.eval x}).toList=es.toList.set j {e with key:=a.eval k,val:=a.eval x}:=by
   apply zg8z;intro i;rw[zg6z,zg5z,zg9z];by_cases hij:j=i
   .subst hij;have hl:j<es.size:=by have:=(zf0z.1 h2).1;simpa using this
    have hje:es[j]'hl=e:=by rw[zg2z hl]at hj';exact Option.some.inj hj'
    simp[hj',hl,hje]
   .simp[hij]
  have HK:Aj E.w E.ok ks ((es.modify j λe=>{e with key:=a.eval k,val:=a.eval x}).toList.map (·.key)):=by
   rw[hlist,zg4z];have:(es.toList.map (·.key)).set j (a.eval k)=es.toList.map (·.key):=Lf (by rw[zf8z,h2,hku,h4];rfl);rw[this];exact b2
  have HV:W5 E (vs.set j u) ((es.modify j λe=>{e with key:=a.eval k,val:=a.eval x}).toList.map (·.val)):=by
   rw[hlist,zg4z];exact gP b3 j hup
  refine⟨.skip,undef,E.setMap b (es.modify j λe=>{e with key:=a.eval k,val:=a.eval x}) clk [.mbox ks (vs.set j u)],?_,.inr ⟨rfl,rfl⟩,Ij hS G9 hb _ _ _ (LW HK HV),MK hS G9 hb HK HV,rfl,by simp[DE]⟩
  rw[hex];simp[Instr.mapUpdate,run_underlying ht,hme,MapKept.run_getObj_map b1,hku,hck,h3,hj',h4.symm,Instr.keyThatStays,hbits,MapKept.run_setObj_map _ b1,Result.andThen,Env.setMap]
 .rename_i hj;cases E5;rcases KZ (w:=E.w) hp b2 hj with ⟨_,h2⟩|⟨q,e,h1,_⟩
  .have HK:Aj E.w E.ok (ks++[.agg [.str s,.int kd n]]) ((es.push {key:=a.eval k,val:=a.eval x,born:=clk}).toList.map (·.key)):=by
    simp only[zf7z,zg0z,zf6z,zg3z];rw[hku];exact ZU b2 hkp
   have HV:W5 E (vs++[u]) ((es.push {key:=a.eval k,val:=a.eval x,born:=clk}).toList.map (·.val)):=by
    simp only[zf7z,zg0z,zf6z,zg3z];exact ZX b3 hup
   refine⟨.skip,undef,E.setMap b (es.push {key:=a.eval k,val:=a.eval x,born:=clk}) (clk+1) [.mbox (ks++[.agg [.str s,.int kd n]]) (vs++[u])],?_,.inr ⟨rfl,rfl⟩,Ij hS G9 hb _ _ _ (LW HK HV),MK hS G9 hb HK HV,rfl,by simp[DE]⟩;rw[hex];simp[Instr.mapUpdate,run_underlying ht,hme,MapKept.run_getObj_map b1,hku,hck,h2,MapKept.run_setObj_map _ b1,Result.andThen,Env.setMap]
  .cases h1
 .cases E5
def Env.setRo(E:Env)(i:Nat)(ys:List AV):Env:={E with h:={E.h with boxes:=E.h.boxes.set i [.rbox ys]}}
theorem WH(h:SR E){i:Nat}(hi:i<E.h.boxes.length)(ys:I7):Ext E (E.setRo i ys):=by
 refine⟨λb o ho=>⟨?_,El.refl _ _ _⟩,by simp[Env.setRo],λ_ h=>⟨OI rfl rfl h,rfl⟩,zf2z _,λk f f' hf hf'=>?_,rfl,rfl,Bl.refl _ _⟩
 .rcases ho with ho|⟨h1,h2,h3,h4⟩
  .exact .inl ho
  .refine .inr ⟨h1,h2,λj hj e=>?_,h4⟩;by_cases hij:i=j
   .subst hij;exact⟨ys,by simp[Env.setRo,hi]⟩
   .obtain⟨cs',hcs'⟩:=h3 j ((FC (E:=E) rfl hj).resolve_right (Ne.symm hij)) e;exact⟨cs',by simpa[Env.setRo,zf5z hij]using hcs'⟩
 .have:f=f':=by have:=hf.symm.trans hf';simpa using this
  subst this;exact⟨rfl,zf2z _,λ_=>rfl⟩
theorem VM:∀{cs:I7} {us:List Value},W5 E cs us->cs.all AV.flat=true->Aj E.w E.ok cs us
 | [],us,h,_=>by simpa[W5,Aj]using h
 |c::cs,us,h,hf=>by
  simp only[W5]at h;obtain⟨u,us',rfl,h1,h2⟩:=h;simp only[List.all_cons,zt0z]at hf;simp only[Aj];exact⟨u,us',rfl,Nz h1 hf.1,VM h2 hf.2⟩
theorem sY(h:SR E){i:Nat}{cs:I7}(hi:E.h.boxes[i]?=some cs)(hmb:u6 cs=false)(hf:cs.all AV.flat=true) :
  SR (E.setRo i cs)/\VR (E.setRo i cs) (.pv cs) (.pointer (some ⟨E.nb i,0,none⟩)):=by
 have hl:=CM hi (BK hmb);have Ai:=hl.lt;have hx:=WH h Ai cs;have hb1:=(h.boxes i _ hi (BK hmb)).1;have G9:=h.nb_lt hl;obtain⟨cur,t,hc,hv,h1⟩:=(h.boxes i _ hi (BK hmb)).row hmb;have hun:∀a,(E.setRo i cs).Live a->E.Live a:=λa ha=>(FC (E:=E) rfl ha).elim id λe=>e ▸ hl;have hp:=VM hv hf;have hp':Aj (E.setRo i cs).w (E.setRo i cs).ok cs cur.toList:=Bh hx.cells _ _ hp;refine⟨⟨h.basele,λj cs' hj hh=>?_,λk f hk=>?_,λa b ha hb=>h.inj a b (hun a ha) (hun b hb),h.injf,λa k ha=>h.sep a k (hun a ha)⟩,?_⟩
 .by_cases hn:i=j
  .subst hn;have:cs'=[.rbox cs]:=by simpa[Env.setRo,Ai]using hj.symm
   subst this;exact⟨hb1,.inr (.inr (.inl ⟨cs,cur,t,rfl,hc,hp',h1⟩))⟩
  .have o9:E.h.boxes[j]?=some cs':=by simpa[Env.setRo,zf5z hn]using hj
   exact(h.boxes j cs' o9 hh).ext hx (CM o9 hh) rfl
 .have DB:k<E.h.fams.length:=(zf0z.1 hk).1;exact(h.fams k f hk).ext hx rfl rfl
 .simp only[VR,PV];refine⟨E.nb i,0,rfl,IC λj c hj=>?_⟩;obtain⟨_,hg⟩:=Eu hp';obtain⟨u,hu,hpu⟩:=hg hj;refine⟨u,.inr ⟨hb1,G9.2,λj' hj' e=>?_,λk f hk he=>?_⟩,?_,h1 u (List.mem_of_getElem? hu),hpu⟩
  .have:j'=i:=h.inj j' i (hun j' hj') hl e;subst this;exact⟨cs,by simp[Env.setRo,Ai]⟩
  .exact absurd he.symm (h.sep i k hl (zf0z.1 hk).1)
  .rw[Nat.zero_add];show E.w.cell? ⟨E.nb i,j,none⟩=some u;rw[cell_of_row _ _ _ _ _ _ hc];simpa using hu
theorem Kg:∀{xs:I7} {E:Env} {us:List Value} {ys:I7} {h':AH},SR E->W5 E xs us->p8 E.h xs=some (ys,h')->∃E',E'.w=E.w/\Ext E E'/\SR E'/\E'.h=h'/\W5 E' ys us
 | [],E,us,ys,h',hS,hv,h=>by
  simp only[p8]at h;cases h;exact⟨E,rfl,Ext.refl E,hS,rfl,hv⟩
 |x::xs,E,us,ys,h',hS,hv,h=>by
  simp only[W5]at hv;obtain⟨u,us',rfl,h1,h2⟩:=hv;by_cases hp:∃b off,x=.ptr b off
  .obtain⟨b,off,rfl⟩:=hp;simp only[p8]at h;split at h
   case isFalse=>cases h
   rename_i h0;subst h0;split at h
   case h_2=>cases h
   rename_i cs o9;split at h
   case isFalse=>cases h
   rename_i hc;simp only[zf3z]at h;obtain⟨⟨ys',h''⟩,hr,he⟩:=h;cases he;simp only[VR]at h1;obtain⟨hb,rfl⟩:=h1;obtain⟨hS1,hv1⟩:=sY hS o9 hc.1 hc.2;have hx1:=WH hS hb.lt cs;obtain⟨E',w',hx',hS',hh,GJ⟩:=Kg (E:=E.setRo b cs) hS1 (CK hx1 _ _ h2) hr;refine⟨E',w',hx1.trans hx',hS',hh,?_⟩;simp only[W5];exact⟨_,_,rfl,PG hx' _ _ hv1,GJ⟩
  .have hr:p8 E.h (x::xs)=(p8 E.h xs).map λp=>(x::p.1,p.2):=by
    cases x<;>first|rfl|exact absurd ⟨_,_,rfl⟩ hp
   rw[hr]at h;simp only[zf3z]at h;obtain⟨⟨ys',h''⟩,hr,he⟩:=h;cases he;obtain⟨E',w',hx',hS',hh,GJ⟩:=Kg hS h2 hr;refine⟨E',w',hx',hS',hh,?_⟩;simp only[W5];exact⟨_,_,rfl,PG hx' _ _ h1,GJ⟩
theorem ox{f:FuncId}{first caps:Array Operand}{cs:List Opd}{v:AV}{h':AH}(hS:SR E)(hf:FR E fr a.tmps)(ho:o.op=.makeFunc (.func f) first caps)(h0:first.size=0)(hc:GK C5 caps.toList=some cs)
  (h:(p8 E.h (cs.map (get fr))).map (λp=>((.fn f p.1:AV),p.2))=some (v,h')):Ed P a o E v h':=by
 simp only[zf3z]at h;obtain⟨⟨ys,h''⟩,hr,he⟩:=h;cases he;have hv:=Ke hf hc;obtain⟨E',w',hx',hS',hh,GJ⟩:=Kg hS hv hr;have:first=#[]:=Array.size_eq_zero_iff.1 h0
 subst this;refine⟨_,.func (.func f) #[] (caps.map a.eval),E',?_,.inl rfl,hx',hS',hh,?_⟩
 .rw[w'];simp[execOp,ho,Instr.makeFunc]
 .simp only[VR];exact⟨_,rfl,GJ⟩
theorem Np:∀{ys:I7} {ns:List Int},LD ys=some ns->ns.length=ys.length/\∀(i:Nat) (n:Int),ns[i]?=some n->ys[i]?=some (.int .u8 n)
 | [],ns,h=>by simp[LD]at h;subst h;simp
 |y::ys,ns,h=>by
  unfold LD at h;split at h
  .rename_i e;cases e
  .rename_i n xs e;cases e;simp only[zf3z]at h;obtain⟨ns',h1,rfl⟩:=h;obtain⟨h2,h3⟩:=Np h1;refine⟨by simp[h2],λi m hi=>?_⟩;cases i with
   |zero=>simp at hi;subst hi;rfl
   |succ i=>simpa using h3 i m (by simpa using hi)
  .cases h
theorem q_bstr{s d e:TypeId}{x:Operand}{x':Opd}{v:AV}{h':AH}(hS:SR E)(hf:FR E fr a.tmps)(ho:o.op=.convert s d x)(hs:P.underlying s=some (.slice e))(hd:P.underlying d=some .string)(he:P.underlying e=some (.int .u8))
  (hx:C5 x=some x') (E5:Rp E.h (get fr x')=some (v,h')):Ed P a o E v h':=by
 unfold Rp at E5;split at E5
 case h_2=>cases E5
 rename_i ys Nc;split at E5
 case h_2=>cases E5
 rename_i ns hns;cases E5;obtain⟨ad,c,e1,e2,e3⟩:=LJ hS (by omega) (C4 hf hx) Nc;obtain⟨g1,g2⟩:=Np hns;refine AE.does hS ⟨.string (tB ns),?_,by simp[VR]⟩;have ex:(execOp a.eval o).run P E.w=(do let v ←convert s d (a.eval x);pure (Next.value v):Sem Next).run P E.w:=by simp[execOp,ho]
 rw[ex];have key:(convert s d (a.eval x)).run P E.w=.ok (.string (tB ns)) E.w:=by
  rw[e1];cases ad with
  |none =>
   have:ys=[]:=zf4z (e2 rfl);subst this;have:ns=[]:=zf4z g1;subst this;exact run_convert_bytes_nil E.w s e hs he _ _ d hd
  |some ad =>
   by_cases hy:ys=[]
   .subst hy;have:ns=[]:=zf4z g1;subst this;rw[run_convert_bytes_string E.w s d e _ _ _ hs he hd];simp[Conv.bytesToString,loadCells,Result.andThen];rfl
   .obtain⟨b,q,h1,h2⟩:=e3 hy;cases h1;refine run_convert_bytes_arg E.w s e hs he b q ys.length c ns g1 (λi hi=>?_) d hd;have ZG:ns[i]?=some (ns.getD i 0):=by rw[List.getD,List.getElem?_eq_getElem (by omega)];rfl
    have hyi:=g2 i _ ZG;obtain⟨_,h4⟩:=h2 i _ hyi;obtain⟨u,h5,_,h6⟩:=h4 0 _ rfl;simp only[VR,PV]at h6;subst h6;simpa using h5
 simp[key,Result.andThen]
end
end Go.Abs
