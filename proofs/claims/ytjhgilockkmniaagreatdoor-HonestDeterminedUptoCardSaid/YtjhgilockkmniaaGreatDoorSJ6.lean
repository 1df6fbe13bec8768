/- A part of the proof. -/
import Derived.Test.YtjhgilockkmniaaGreatDoorSJ5
set_option linter.all false
open List renaming getElem?_eq_some_iff->zf0z,getElem?_append_left->zf1z,getElem?_append_right->zf2z,replicate->zf4z,getElem?_eq_getElem->zf5z,getElem?_set_self->zf7z,getElem?_set_ne->zg1z,mem_of_mem_drop->zg2z,mem_of_mem_take->zg3z,mem_append->zg4z,getElem?_replicate->zg6z,getElem?_eq_none->zg7z,mem_of_getElem?->zg9z,getElem?_range->zt0z,getElem?_drop->zt2z,getElem?_take->zt3z,append_assoc->zt7z,getElem?_map->zt8z,length_cons->zt9z,map_cons->uw,drop->uy,take->uz
open Nat renaming mul_le_mul_right->zf3z,le_refl->zf8z,succ_mul->zg5z,add_zero->zt4z,lt_or_gt_of_ne->zt5z,mul_comm->zt6z,mod_lt->ux
open Array renaming length_toList->zf6z,getElem?_toList->zg0z,getElem?_range->zg8z,getElem?_map->zt1z
open Option renaming map_eq_some_iff->zf9z
namespace Go.Abs
open Go.RowKit (Below)
section
variable {E:Env} {P:Program} {fr:Fr} {a:Act} {o:Oper}
def Ea (P:Program) (a:Act) (o:Oper) (E:Env) (v:AV) (h':AH):Prop :=
 ∃nx u E',(execOp a.eval o).run P E.w=.ok nx E'.w/\(nx=.value u\/(nx=.skip/\u=undef))/\Ext E E'/\SR E'/\E'.h=h'/\VR E' v u
theorem X9.does {v:AV} (hS:SR E) (h:X9 P a o E v):Ea P a o E v E.h:=by
 obtain⟨u,h1,h2⟩:=h;exact⟨_,u,E,h1,.inl rfl,Ext.refl E,hS,rfl,h2⟩
theorem Km {aas bs:C6} {us vs:List Value} (h1:W7 E aas us) (h2:W7 E bs vs):W7 E (aas++bs) (us++vs):=by
 refine Kn (by simp[DA h1,DA h2]) λj c u hc hu=>?_;have e:=DA h1;by_cases hj:j<aas.length
 .rw[zf1z hj]at hc;rw[zf1z (by omega)]at hu;obtain⟨u',h3,h4⟩:=(Ec h1).2 hc;rw[h3]at hu;cases hu;exact h4
 .rw[zf2z (by omega)]at hc;rw[zf2z (by omega),e]at hu;obtain⟨u',h3,h4⟩:=(Ec h2).2 hc;rw[h3]at hu;cases hu;exact h4
theorem Ko {cs ds:C6} {us vs:List Value} (h1:W7 E cs us) (h2:W7 E ds vs) (off:Nat):W7 E (S5 cs off ds) (us.take off++vs++us.drop (off+vs.length)):=by
 unfold S5;rw[DA h2];exact Km (Km (TF h1 _) h2) (TE h1 _)
theorem Jb {w:World} {ok:Nat->Nat->Prop} {x:AV} {v:Value} (h:PV w ok x v) (ht:x.isTup=false):W5 w ok x.cells v.cells.toList/\∀u∈v.cells.toList,u.oneCell'=true:=by
 cases x<;>simp only[PV]at h
 case tup=>simp[AV.isTup]at ht
 case agg cs=>obtain⟨us,rfl,h1,h2⟩:=h;exact⟨h2,h1⟩
 case junk =>
  have hc:v.cells=#[v]:=by cases v<;>simp_all [Value.oneCell',Value.cells]
  rw[hc];exact⟨by simp[AV.cells,W5,PV,h],by simpa using h⟩
 case vs=>obtain⟨ad,len,cap,rfl,h'⟩:=h;exact⟨by simp only[AV.cells,Value.cells,W5,PV];exact⟨_,_,rfl,⟨_,_,_,rfl,h'⟩,rfl⟩,by simp[Value.cells,Value.oneCell']⟩
 case pv=>obtain⟨b,q,rfl,h'⟩:=h;exact⟨by simp only[AV.cells,Value.cells,W5,PV];exact⟨_,_,rfl,⟨_,_,rfl,h'⟩,rfl⟩,by simp[Value.cells,Value.oneCell']⟩
 case fn=>obtain⟨us,rfl,h'⟩:=h;exact⟨by simp only[AV.cells,Value.cells,W5,PV];exact⟨_,_,rfl,⟨_,rfl,h'⟩,rfl⟩,by simp[Value.cells,Value.oneCell']⟩
 case vm=>obtain⟨b,es,clk,rfl,h1,h2,h3,h4⟩:=h;exact⟨by simp only[AV.cells,Value.cells,W5];exact⟨_,_,rfl,by simp only[PV];exact⟨b,es,clk,rfl,h1,h2,h3,h4⟩,rfl⟩,by simp[Value.cells,Value.oneCell']⟩
 all_goals (subst h;exact⟨by simp[AV.cells,Value.cells,W5,PV],by simp[Value.cells,Value.oneCell']⟩)
theorem Aw {t:TypeId} {z:AV} (h:Program.zeroA P t=some z):∃i zv,P.info? t=some i/\i.zero=some zv/\zv.cells.size=i.size/\KL zv=some z/\z.isTup=false:=by
 unfold Program.zeroA at h;split at h
 .rename_i i hi;split at h
  .rename_i zv hz;split at h
   .rename_i x hx;split at h
    .rename_i hc;cases h;exact⟨i,zv,hi,hz,hc.1,hx,hc.2⟩
    .cases h
   .cases h
  .cases h
 .cases h
theorem nE {t:TypeId} {x:Operand} {x':Opd} (hS:SR E) (hf:FR E fr a.tmps) (ho:o.op=.box t x) (hx:B7 x=some x') (ht:(get fr x').isTup=false) :
  Ea P a o E (.ptr E.h.boxes.length 0) {E.h with boxes:=E.h.boxes++[(get fr x').cells]}:=by
 obtain⟨h1,h2⟩:=HA (B6 hf hx) ht;refine⟨_,.pointer (some ⟨E.w.heap.size,0,none⟩),E.newBox (a.eval x).cells t (get fr x').cells,?_,.inl rfl,Dy hS _ _ _,MR hS h1 h2,rfl,?_⟩
 .simp only[execOp,ho,Instr.box,newVar,newRow,Sem.run_bind,run_newObj,Result.andThen_ok,Sem.run_pure,World.alloc_eq,Env.newBox]
 .simp only[VR];exact⟨La rfl (HB h1),by simp only[Env.newBox,P7]⟩
theorem fR {t:TypeId} {z:AV} (hS:SR E) (ho:o.op=.alloc t) (hz:Program.zeroA P t=some z) :
  Ea P a o E (.ptr E.h.boxes.length 0) {E.h with boxes:=E.h.boxes++[(VK t z).cells]}:=by
 obtain⟨i,zv,h1,h2,h3,h4,h5⟩:=Aw hz;obtain⟨h6,h7⟩:=HA (E:=E) (Y0 _ _ (n5 h4)) h5;have run:(execOp a.eval o).run P E.w=.ok (.value (.pointer (some ⟨E.w.heap.size,0,none⟩))) (E.w.alloc (.cells zv.cells t)):=by
  simp only[execOp,ho,Instr.alloc,newVar,newRow,zeroValue,typeInfo,run_program,Sem.run_bind,h1,h2,run_newObj,Result.andThen_ok,Sem.run_pure,World.alloc_eq]
 unfold VK;split
 .refine⟨_,.pointer (some ⟨E.w.heap.size,0,none⟩),E.newBox zv.cells t [.tbox t z.cells],run,.inl rfl,Dy hS _ _ _,Wd hS h6 h7,rfl,?_⟩;simp only[VR];exact⟨La rfl rfl,by simp only[Env.newBox,P7]⟩
 .refine⟨_,.pointer (some ⟨E.w.heap.size,0,none⟩),E.newBox zv.cells t z.cells,run,.inl rfl,Dy hS _ _ _,MR hS h6 h7,rfl,?_⟩;simp only[VR];exact⟨La rfl (HB h6),by simp only[Env.newBox,P7]⟩
theorem Vv {E:Env} (h:SR E) {p:Nat} {old:C6} (ho:E.h.boxes[p]?=some old) (hh:An old=true) {us:Array Value} {t:TypeId} {cs ys:C6} (hform:cs=ys\/cs=[.tbox t ys]) (hv:W7 E ys us.toList) (h1:∀v∈us.toList,v.oneCell'=true) :
  ∃E':Env,E'.w=E.w.alloc (.cells us t)/\E'.nb p=E.w.heap.size/\E'.h={E.h with boxes:=E.h.boxes.set p cs}/\Ext E E'/\SR E'/\E'.Live p:=by
 have w8:An cs=false:=by rcases hform with rfl|rfl<;>first|exact HB hv|rfl
 have hnl:¬E.Live p:=λhl=>by rw[hl.ne ho]at hh;cases hh
 have hp:=(zf0z.1 ho).1
 let E':Env:={E with w:=E.w.alloc (.cells us t),nb:=iL E.nb p E.w.heap.size,h:={E.h with boxes:=E.h.boxes.set p cs}}
 have IW:E'.Live p:=⟨cs,by show (E.h.boxes.set p cs)[p]?=_;rw[zf7z hp],w8⟩;have hun:∀i,E'.Live i->E.Live i\/i=p:=λi hi=>Dv (E:=E) (E':=E') rfl hi;have hnb:∀i,E.Live i->E'.nb i=E.nb i:=λi hi=>o8 _ _ λe=>hnl (e ▸ hi);have Az:E'.nb p=E.w.heap.size:=P7 _ _ _;have hx:Ext E E':=by
  refine⟨λb o hb=>?_,by simp[E'],λi hi=>⟨Lb (E:=E) (E':=E') rfl w8 hi,hnb i hi⟩,zf8z _,λk f f' hf hf'=>?_,rfl,rfl,⟨(Below.refl _ _).alloc h.basele _,λ_=>zf8z _⟩⟩
  .have A9:=Ld h hb;refine⟨?_,Fl (Below.heap_alloc _ _ _ A9)⟩;rcases hb with hb|⟨g1,_,g3,g4⟩
   .exact .inl hb
   .refine .inr ⟨g1,by simp[E'];omega,λi hi e=>?_,g4⟩;rcases hun i hi with r7|rfl
    .rw[hnb i r7]at e;obtain⟨cs',hcs'⟩:=g3 i r7 e;have T6:p≠i:=λe'=>hnl (e' ▸ r7);exact⟨cs',by show (E.h.boxes.set p cs)[i]?=_;rw[zg1z T6];exact hcs'⟩
    .rw[Az]at e;omega
  .have:f=f':=by have:=hf.symm.trans hf';simpa using this
   subst this;exact⟨rfl,zf8z _,λ_=>rfl⟩
 refine⟨E',rfl,Az,rfl,hx,⟨Nat.le_trans h.basele (by simp[E']),λi cs' hi hh'=>?_,λk f hk=>?_,λi j hi hj he=>?_,h.injf,λi k hi hk=>?_⟩,IW⟩
 .by_cases hn:p=i
  .subst hn;have:cs'=cs:=by
    have r7:(E.h.boxes.set p cs)[p]?=some cs':=hi;rw[zf7z hp]at r7;simpa using r7.symm
   subst this;refine⟨by rw[Az];exact h.basele,?_⟩;rcases hform with rfl|rfl
   .exact .inl ⟨us,t,by rw[Az];exact heap_alloc_new _ _,Cz hx _ _ hv,h1⟩
   .exact .inr (.inr (.inr ⟨t,ys,us,rfl,by rw[Az];exact heap_alloc_new _ _,Cz hx _ _ hv,h1⟩))
  .have r7:E.h.boxes[i]?=some cs':=by
    have r7:(E.h.boxes.set p cs)[i]?=some cs':=hi
    rwa [zg1z hn]at r7
   have hl:=BD r7 hh';exact(h.boxes i cs' r7 hh').ext hx hl (Below.heap_alloc _ _ _ (h.nb_lt hl).2)
 .have Bz:k<E.h.fams.length:=(zf0z.1 hk).1;exact(h.fams k f hk).ext hx rfl (Below.heap_alloc _ _ _ (h.im_lt Bz).2)
 .rcases hun i hi with r7|rfl<;>rcases hun j hj with hj' | rfl
  .rw[hnb i r7,hnb j hj']at he;exact h.inj i j r7 hj' he
  .rw[hnb i r7,Az]at he;have:=(h.nb_lt r7).2;omega
  .rw[hnb j hj',Az]at he;have:=(h.nb_lt hj').2;omega
  .rfl
 .rcases hun i hi with r7|rfl
  .rw[hnb i r7];exact h.sep i k r7 hk
  .rw[Az];have:=(h.im_lt hk).2;show E.w.heap.size≠(E.im k).b;omega
theorem Yc {t:TypeId} {z v:AV} {r:Nat} {h':AH} (hS:SR E) (ho:o.op=.alloc t) (hz:Program.zeroA P t=some z) (C2:BH E.h r (VK t z)=some (v,h')) :
  Ea P a o E v h':=by
 unfold BH at C2;split at C2
 case h_2=>cases C2
 rename_i cs w8;split at C2
 case isFalse=>cases C2
 rename_i hh;cases C2;obtain⟨i,zv,h1,h2,h3,h4,h5⟩:=Aw hz;obtain⟨h6,h7⟩:=HA (E:=E) (Y0 _ _ (n5 h4)) h5;obtain⟨E',k1,k2,k3,k4,k5,k6⟩:=Vv hS w8 hh (t:=t) (cs:=(VK t z).cells) (ys:=z.cells) (by unfold VK;split<;>simp[AV.cells]) h6 h7;refine⟨_,.pointer (some ⟨E.w.heap.size,0,none⟩),E',?_,.inl rfl,k4,k5,k3,?_⟩
 .simp only[execOp,ho,Instr.alloc,newVar,newRow,zeroValue,typeInfo,run_program,Sem.run_bind,h1,h2,run_newObj,Result.andThen_ok,Sem.run_pure,World.alloc_eq,k1]
 .simp only[VR];exact⟨k6,by rw[k2]⟩
theorem JL {t:TypeId} {b q:Nat} {v:Value} {cur:Array Value} {t':TypeId} {w:World} {n:Nat} (hn:Program.size? P t=some n) (hg:w.heap[b]?=some (.cells cur t' (0,0))) (hv:v.cells.size=n) (j8:q+n<=cur.size)
  (h1:∀u∈v.cells.toList,u.oneCell'=true) :
  (storeVar t ⟨b,q,none⟩ v).run P w=.ok () (w.setRow b (cur.toList.take q++v.cells.toList++cur.toList.drop (q+n)).toArray):=by
 have S6:=run_storeCells_at P b q t' v.cells.toList 0 cur w hg (by simp;omega) h1;simp only[zt4z,zf6z,hv]at S6;unfold storeVar;simp[CB hn,hv,S6]
theorem bZ {t:TypeId} {x y:Operand} {x' y':Opd} {n b off:Nat} {cs:C6} (hS:SR E) (hf:FR E fr a.tmps) (ho:o.op=.store t x y) (hn:Program.size? P t=some n) (hx:B7 x=some x') (hy:B7 y=some y')
  (hg:get fr x'=.ptr b off) (w8:E.h.boxes[b]?=some cs) (hmb:BA cs=false) (ht:(get fr y').isTup=false) (hl:(get fr y').cells.length=n) (j8:off+n<=cs.length) :
  Ea P a o E B3 {E.h with boxes:=E.h.boxes.set b (S5 cs off (get fr y').cells)}:=by
 have hv:=B6 hf hx;rw[hg]at hv;simp only[VR]at hv;obtain⟨hb,e⟩:=hv;obtain⟨h1,h2⟩:=HA (B6 hf hy) ht;have hb1:=(hS.boxes b cs w8 (s4 hmb)).1;obtain⟨cur,t',hc1,hc2,hc3⟩:=(hS.boxes b cs w8 (s4 hmb)).row hmb;have L4:(a.eval y).cells.size=n:=by have:=DA h1;simp at this;omega
 have Hn:cur.size=cs.length:=by have:=DA hc2;simpa using this
 have hrun:=JL (P:=P) (q:=off) hn hc1 L4 (by omega) h2;have HI:=Ko hc2 h1 off;rw[show (a.eval y).cells.toList.length=n from by simp[L4]]at HI;refine⟨_,undef,E.setBox b (cur.toList.take off++(a.eval y).cells.toList++cur.toList.drop (off+n)).toArray (S5 cs off (get fr y').cells),?_,.inr ⟨rfl,rfl⟩,PW hS w8 hmb _ _ (HB HI),aD hS w8 hmb HI ?_,rfl,By _⟩
 .simp only[execOp,ho,Instr.storeAt,e,Instr.sureAddr,Sem.run_bind,Sem.run_pure,Result.andThen_ok,hrun];rfl
 .intro u hu;simp only[zg4z]at hu;rcases hu with (hu|hu)|hu
  .exact hc3 u (zg3z hu)
  .exact h2 u hu
  .exact hc3 u (zg2z hu)
theorem Cv {α:Type} {l:List α} {off:Nat} {vs:List α} (j8:off+vs.length<=l.length) (j:Nat) :
  (l.take off++vs++l.drop (off+vs.length))[j]?=if j<off then l[j]? else if j<off+vs.length then vs[j-off]? else l[j]?:=by
 have hl:(l.take off).length=off:=by simp;omega
 by_cases h1:j<off
 .rw[if_pos h1,zt7z,zf1z (by omega),zt3z,if_pos h1]
 .rw[if_neg h1];by_cases h2:j<off+vs.length
  .rw[if_pos h2,zt7z,zf2z (by omega),hl,zf1z (by omega)]
  .rw[if_neg h2,zf2z (by simp;omega),zt2z];congr 1;simp;omega
theorem Yg {t T:TypeId} {x y:Operand} {x' y':Opd} {n b off:Nat} {cs:C6} (hS:SR E) (hf:FR E fr a.tmps) (ho:o.op=.store t x y) (hn:Program.size? P t=some n) (hx:B7 x=some x') (hy:B7 y=some y')
  (hg:get fr x'=.ptr b off) (w8:E.h.boxes[b]?=some [.tbox T cs]) (ht:(get fr y').isTup=false) (hl:(get fr y').cells.length=n) (j8:off+n<=cs.length) :
  Ea P a o E B3 {E.h with boxes:=E.h.boxes.set b [.tbox T (S5 cs off (get fr y').cells)]}:=by
 have hv:=B6 hf hx;rw[hg]at hv;simp only[VR]at hv;obtain⟨hb,e⟩:=hv;obtain⟨h1,h2⟩:=HA (B6 hf hy) ht;obtain⟨cur,hc1,hc2,hc3⟩:=(hS.boxes b _ w8 rfl).typ;have L4:(a.eval y).cells.size=n:=by have:=DA h1;simp at this;omega
 have Hn:cur.size=cs.length:=by have:=DA hc2;simpa using this
 have hrun:=JL (P:=P) (q:=off) hn hc1 L4 (by omega) h2;have HI:=Ko hc2 h1 off;rw[show (a.eval y).cells.toList.length=n from by simp[L4]]at HI;obtain⟨k1,k2⟩:=XD hS w8 (us:=(cur.toList.take off++(a.eval y).cells.toList++cur.toList.drop (off+n)).toArray) HI (by
  intro v hv;simp only[zg4z]at hv;rcases hv with (hv|hv)|hv
  .exact hc3 v (zg3z hv)
  .exact h2 v hv
  .exact hc3 v (zg2z hv))
 refine⟨_,undef,E.setBox b (cur.toList.take off++(a.eval y).cells.toList++cur.toList.drop (off+n)).toArray [.tbox T (S5 cs off (get fr y').cells)],?_,.inr ⟨rfl,rfl⟩,k2,k1,rfl,By _⟩;simp only[execOp,ho,Instr.storeAt,e,Instr.sureAddr,Sem.run_bind,Sem.run_pure,Result.andThen_ok,hrun];rfl
theorem ba {t:TypeId} {x y:Operand} {x' y':Opd} {n k m i c sz:Nat} {f:Fam} {el u z:AV} (hS:SR E) (hf:FR E fr a.tmps) (ho:o.op=.store t x y) (hn:Program.size? P t=some n) (hx:B7 x=some x') (hy:B7 y=some y')
  (hg:get fr x'=.ep k m i c sz) (hfk:E.h.fams[k]?=some f) (hm:f.xs.length=m) (hmz:f.sz=sz) (hw:f.wr=true) (Jp:f.xs[i]?=some el) (hu:frz E.h false (get fr y')=some u)
  (hl:u.cells.length=n) (j8:c+n<=el.cells.length) (hzc:z.cells=S5 el.cells c u.cells) :
  Ea P a o E B3 {E.h with fams:=E.h.fams.set k {f with xs:=f.xs.set i z}}:=by
 have hv:=B6 hf hx;rw[hg]at hv;simp only[VR]at hv;obtain⟨b0,o0,f',e,hfk',_,had⟩:=hv;have:f'=f:=by rw[hfk]at hfk';simpa using hfk'.symm
 subst this;obtain⟨LG,hbo⟩:=had ⟨hm,hmz⟩;rw[hbo]at e;have hF:=hS.fams k f' hfk;obtain⟨cur,t',c1,c2,c3⟩:=hF.cells;obtain⟨e1,e2⟩:=c3 i el LG Jp;obtain⟨hPu,hut⟩:=FP hS (am:=false) (ok':=E.ok) ⟨λ_ _ h=>h,λh=>by cases h⟩ (B6 hf hy) hu;obtain⟨h1,h2⟩:=Jb hPu hut;obtain⟨hul,hug⟩:=BC h1;have L4:(a.eval y).cells.size=n:=by simp at hul;omega
 have hi:i<f'.xs.length:=(zf0z.1 Jp).1;have U0:=hF.room;have G7:(E.im k).o+(i-(E.im k).lo)*f'.sz+f'.sz<=cur.size:=by
  have h3:(i-(E.im k).lo+1)*f'.sz<=(E.im k).cap*f'.sz:=zf3z _ (by omega);rw[zg5z]at h3;omega
 have hrun:=JL (P:=P) (q:=(E.im k).o+(i-(E.im k).lo)*f'.sz+c) hn c1 L4 (by omega) h2;obtain⟨us,LH⟩:∃us:Array Value,us=(cur.toList.take ((E.im k).o+(i-(E.im k).lo)*f'.sz+c)++(a.eval y).cells.toList++cur.toList.drop ((E.im k).o+(i-(E.im k).lo)*f'.sz+c+n)).toArray:=⟨_,rfl⟩;rw[←LH]at hrun;have hget:∀j:Nat,us[j]?=if j<(E.im k).o+(i-(E.im k).lo)*f'.sz+c then cur[j]? else if j<(E.im k).o+(i-(E.im k).lo)*f'.sz+c+n then (a.eval y).cells[j-((E.im k).o+(i-(E.im k).lo)*f'.sz+c)]? else cur[j]?:=by
  intro j;have:=Cv (l:=cur.toList) (off:=(E.im k).o+(i-(E.im k).lo)*f'.sz+c) (vs:=(a.eval y).cells.toList) (by simp;omega) j;simp only[zf6z,L4,zg0z]at this;rw[LH,List.getElem?_toArray,this]
 have hussz:us.size=cur.size:=by rw[LH];simp;omega
 refine⟨_,undef,E.setFam k us {f' with xs:=f'.xs.set i z},?_,.inr ⟨rfl,rfl⟩,
  Fg hS hfk c1 rfl rfl (by simp) (λh=>by rw[hw]at h;cases h),Ii hS hfk c1 rfl rfl (by simp) (λh=>by rw[hw]at h;cases h) (by simpa using U0) hussz ?_,rfl,By _⟩
 .simp only[execOp,ho,Instr.storeAt,e,Instr.sureAddr,Sem.run_bind,Sem.run_pure,Result.andThen_ok,hrun];rfl
 .intro j x' hj hx';have hx'':(f'.xs.set i z)[j]?=some x':=hx';by_cases hij:i=j
  .subst hij;rw[zf7z hi]at hx'';cases hx'';refine⟨by rw[hzc];simp[S5];omega,λq y' hq=>?_⟩;rw[hzc]at hq;unfold S5 at hq;rw[Cv (by omega)]at hq;have hq':q<f'.sz:=by
    rcases Nat.lt_or_ge q f'.sz with h|h
    .exact h
    .rw[if_neg (by omega),if_neg (by omega),zg7z (by omega)]at hq;cases hq
   rw[hget];by_cases hqc:q<c
   .rw[if_pos hqc]at hq;rw[if_pos (by omega)];obtain⟨v,v1,v2,v3⟩:=e2 q y' hq;exact⟨v,by simpa using v1,v2,v3⟩
   .rw[if_neg hqc]at hq;by_cases hqn:q<c+u.cells.length
    .rw[if_pos hqn]at hq;rw[if_neg (by omega),if_pos (by omega)];obtain⟨v,v1,v2⟩:=hug hq;refine⟨v,?_,h2 v (zg9z v1),v2⟩;rw[show (E.im k).o+(i-(E.im k).lo)*f'.sz+q-((E.im k).o+(i-(E.im k).lo)*f'.sz+c)=q-c from by omega];simpa using v1
    .rw[if_neg hqn]at hq;rw[if_neg (by omega),if_neg (by omega)];obtain⟨v,v1,v2,v3⟩:=e2 q y' hq;exact⟨v,by simpa using v1,v2,v3⟩
  .rw[zg1z hij]at hx'';obtain⟨g1,g2⟩:=c3 j x' hj hx'';refine⟨g1,λq y' hq=>?_⟩;obtain⟨v,v1,v2,v3⟩:=g2 q y' hq;refine⟨v,?_,v2,v3⟩;have hqs:q<f'.sz:=by have:=(zf0z.1 hq).1;omega
   rw[hget];rcases zt5z (show j≠i from λe=>hij e.symm)with A9|hgt
   .have h3:(j-(E.im k).lo+1)*f'.sz<=(i-(E.im k).lo)*f'.sz:=zf3z _ (by omega);rw[zg5z]at h3;rw[if_pos (by omega)];simpa using v1
   .have h3:(i-(E.im k).lo+1)*f'.sz<=(j-(E.im k).lo)*f'.sz:=zf3z _ (by omega);rw[zg5z]at h3;rw[if_neg (by omega),if_neg (by omega)];simpa using v1
end
section
variable {E:Env} {P:Program} {fr:Fr} {a:Act} {o:Oper}
theorem Tg (off:Nat):∀(l:List Value) (k:Nat) (cells:Array Value),off+k+l.length<=cells.size ->
  ((l.zipIdx k).foldl (λcs (x:Value×Nat)=>cs.setIfInBounds (off+x.2) x.1) cells).toList=cells.toList.take (off+k)++l++cells.toList.drop (off+k+l.length)
 | [],k,cells,_=>by simp
 |v::l,k,cells,h=>by
  simp only[zt9z]at h;simp only[List.zipIdx_cons,List.foldl_cons];rw[Tg off l (k+1) _ (by simp;omega)];have:=list_seg_step cells.toList (off+k) v l (by simp;omega);simp only[Array.toList_setIfInBounds,zt9z];rw[show off+(k+1)=off+k+1 from by omega];exact this
theorem QW {place:Nat->Option (Nat×Nat)} {cells:Array Value} {i off size:Nat} {v:Value} {rest:List (Nat×Value)} (hp:place i=some (off,size)) (hs:v.cells.size=size) (j8:off+size<=cells.size) :
  Instr.fill place cells ((i,v)::rest)=Instr.fill place (cells.toList.take off++v.cells.toList++cells.toList.drop (off+size)).toArray rest:=by
 have h:=Tg off v.cells.toList 0 cells (by simp;omega);simp only[zt4z,zf6z,hs]at h;have h2:(v.cells.zipIdx.foldl (λcs (x:Value×Nat)=>cs.setIfInBounds (off+x.2) x.1) cells)=(cells.toList.take off++v.cells.toList++cells.toList.drop (off+size)).toArray:=by
  apply Array.ext';rw[←h,←Array.foldl_toList];simp
 simp only[Instr.fill,hp,hs];rw[if_neg (by simp;omega)];exact congrArg (λc=>Instr.fill place c rest) h2
theorem Mk (hf:FR E fr a.tmps) {fs:Array Field} {places:Nat->Option (Nat×Nat)} (hpl:∀(j:Nat) (f:Field) (n:Nat),fs[j]?=some f->Program.size? P f.type=some n->places j=some (f.offset,n)) :
  ∀{parts:List (Nat×Operand)} {ps:List (Nat×Nat×Opd)} {qs:List (Nat×AV)} {cells:Array Value} {zs:List AV},FU (Nq P fs) parts=some ps->F8 fr zs.length ps=some qs->W7 E zs cells.toList->(∀u∈cells.toList,u.oneCell'=true) ->
   ∃us,Instr.fill places cells (parts.map λp=>(p.1,a.eval p.2))=some us/\W7 E (Q3 zs qs) us.toList/\∀u∈us.toList,u.oneCell'=true
 | [],ps,qs,cells,zs,hp,hq,hz,h1=>by
  simp[FU]at hp;subst hp;simp[F8]at hq;subst hq;exact⟨cells,rfl,hz,h1⟩
 |(i,x)::parts,ps,qs,cells,zs,hp,hq,hz,h1=>by
  simp only[FU]at hp;split at hp
  .rename_i y ys hy Mv;cases hp;obtain⟨off,n,x'⟩:=y;unfold Nq at hy;split at hy
   .rename_i f xx hfi eU;split at hy
    .rename_i n' hn';simp at hy;obtain⟨rfl,rfl,rfl⟩:=hy;simp only[F8]at hq;split at hq
     .rename_i hc;simp only[zf9z]at hq;obtain⟨qs',hqs',rfl⟩:=hq;obtain⟨g1,g2⟩:=HA (B6 hf eU) hc.1;have L4:(a.eval x).cells.size=n':=by have:=DA g1;simp at this;omega
      have Hn:cells.size=zs.length:=by have:=DA hz;simpa using this
      have hstep:=QW (place:=places) (cells:=cells) (rest:=parts.map λp=>(p.1,a.eval p.2)) (hpl i f n' hfi hn') L4 (by omega);have HI:=Ko hz g1 f.offset;rw[show (a.eval x).cells.toList.length=n' from by simp[L4]]at HI;have C4:(S5 zs f.offset (get fr xx).cells).length=zs.length:=by simp[S5];omega
      obtain⟨us,k1,k2,k3⟩:=Mk hf hpl (cells:=(cells.toList.take f.offset++(a.eval x).cells.toList++cells.toList.drop (f.offset+n')).toArray) (zs:=S5 zs f.offset (get fr xx).cells) Mv (by rw[C4];exact hqs') (by simpa using HI) (by
       intro u hu;simp only[zg4z]at hu;rcases hu with (hu|hu)|hu
       .exact h1 u (zg3z hu)
       .exact g2 u hu
       .exact h1 u (zg2z hu))
      refine⟨us,?_,?_,k3⟩
      .simp only[uw];rw[hstep];exact k1
      .simpa[Q3]using k2
     .cases hq
    .cases hy
   .cases hy
  .cases hp
theorem UJ {α β:Type} {f:α->Option β}:∀{l:List α} {r:List β},l.mapM f=some r->∀{j:Nat} {x:α},l[j]?=some x->∃y,f x=some y/\r[j]?=some y
 | [],r,_,j,x,hx=>by simp at hx
 |b::l,r,h,j,x,hx=>by
  simp only[List.mapM_cons,Option.bind_eq_bind,Option.pure_def,Option.bind_eq_some_iff]at h;obtain⟨y,hy,ys,Mv,hr⟩:=h;cases hr;cases j with
  |zero=>simp at hx;subst hx;exact⟨y,hy,rfl⟩
  |succ j=>simpa using UJ Mv (j:=j) (x:=x) (by simpa using hx)
theorem gU {t:TypeId} {parts:Array (Nat×Operand)} {fs:Array Field} {zs:C6} {ps:List (Nat×Nat×Opd)} {qs:List (Nat×AV)} (hf:FR E fr a.tmps) (ho:o.op=.build t parts) (hu:P.underlying t=some (.struct fs)) (hz:Program.zeroA P t=some (.agg zs))
  (hs:(fs.toList.mapM λf=>(P.info? f.type).map λi=>(f.offset,i.size)).isSome=true) (hp:FU (Nq P fs) parts.toList=some ps) (hq:F8 fr zs.length ps=some qs):X9 P a o E (.agg (Q3 zs qs)):=by
 obtain⟨i,zv,h1,h2,h3,h4,h5⟩:=Aw hz;obtain⟨places,hpl⟩:=Option.isSome_iff_exists.1 hs;obtain⟨g1,g2⟩:=HA (E:=E) (Y0 _ _ (n5 h4)) h5;obtain⟨us,k1,k2,k3⟩:=Mk (E:=E) (P:=P) hf (places:=λj=>places.toArray[j]?) (λj f n hj hn=>by
  obtain⟨y,hy,hy'⟩:=UJ hpl (j:=j) (x:=f) (by simpa using hj);unfold Program.size? at hn;simp only[zf9z]at hn hy;obtain⟨i',r7,rfl⟩:=hn;obtain⟨i'',hi'',rfl⟩:=hy;rw[r7]at hi'';cases hi'';simpa using hy') hp hq g1 g2
 have hb:P.built t (parts.map λ(i,x)=>(i,a.eval x)).toList=some us:=by
  unfold Program.built;simp only[h1,hu,h2,hpl,Array.toList_map];exact k1
 refine⟨.agg us,?_,?_⟩
 .simp only[execOp,ho,Sem.run_bind,run_build E.w t _ us hb,Result.andThen_ok,Sem.run_pure]
 .simp only[VR];exact⟨us,rfl,k3,k2⟩
def DR (E:Env) (us:List Value) (xs:List AV) (sz:Nat):Prop :=
 ∀(i:Nat) (x:AV),xs[i]?=some x->x.cells.length=sz/\∀(c:Nat) (y:AV),x.cells[c]?=some y->∃v,us[i*sz+c]?=some v/\v.oneCell'=true/\PV E.w E.ok y v
theorem Pu (z:Array Value) (n:Nat) (i c:Nat) (hc:c<z.size) (hi:i<n):(madeCells z (n*z.size))[i*z.size+c]?=some z[c]:=by
 have A9:=s5 hi hc;unfold madeCells;rw[zt1z,zg8z,if_pos A9];have:(i*z.size+c) % z.size=c:=by rw[Nat.add_comm,zt6z,Nat.add_mul_mod_self_left,Nat.mod_eq_of_lt hc]
 simp[this,getElem!_pos,hc]
theorem Ia {t:TypeId} {z:AV} (hz:Program.zeroA P t=some z) {n:Nat} {i:TypeInfo} (hi:P.info? t=some i) (G7:0<i.size):∃zv,i.zero=some zv/\z.cells.length=i.size/\zv.cells.size=i.size/\DR E (madeCells zv.cells (n*i.size)).toList (zf4z n z) i.size/\∀u∈(madeCells zv.cells (n*i.size)).toList,u.oneCell'=true:=by
 obtain⟨i',zv,h1,h2,h3,h4,h5⟩:=Aw hz;rw[hi]at h1;cases h1;have hpv:=n5 (w:=E.w) (ok:=E.ok) h4;obtain⟨g1,g2⟩:=Jb hpv h5;obtain⟨gl,gg⟩:=BC g1;have hl:z.cells.length=i.size:=by simp at gl;omega
 refine⟨zv,h2,hl,h3,λj x hx=>?_,λu hu=>?_⟩
 .rw[zg6z]at hx;split at hx
  .rename_i hj;cases hx;refine⟨hl,λc y hy=>?_⟩;have hc:c<zv.cells.size:=by have:=(zf0z.1 hy).1;omega
   obtain⟨v,v1,v2⟩:=gg hy;have:=Pu zv.cells n j c hc hj;rw[h3]at this;refine⟨zv.cells[c],by rw[zg0z];exact this,g2 _ (by simp),?_⟩;have e:v=zv.cells[c]:=by
    rw[zg0z,Array.getElem?_eq_getElem hc]at v1;simpa using v1.symm
   rw[←e];exact v2
  .cases hx
 .obtain⟨j,hj⟩:=List.getElem?_of_mem hu;rw[zg0z]at hj;unfold madeCells at hj;rw[zt1z,zg8z]at hj;split at hj
  .simp at hj;have hm:j % zv.cells.size<zv.cells.size:=ux _ (by omega);rw[getElem!_pos zv.cells _ hm]at hj;subst hj;exact g2 _ (by simp)
  .simp at hj
theorem NJ (hS:SR E) (hf:FR E fr a.tmps) {sz:Nat} (G7:0<sz) :
  ∀{parts:List (Nat×Operand)} {ps:List (Nat×Opd)} {xs ys:List AV} {cells:Array Value},FU Np parts=some ps->B5 fr E.h xs ps=some ys->DR E cells.toList xs sz->cells.size=xs.length*sz->(∀u∈cells.toList,u.oneCell'=true) ->
   ∃us,Instr.fill (λi=>some (i*sz,sz)) cells (parts.map λp=>(p.1,a.eval p.2))=some us/\DR E us.toList ys sz/\us.size=ys.length*sz/\ys.length=xs.length
 | [],ps,xs,ys,cells,hp,hq,hr,hs,_=>by
  simp[FU]at hp;subst hp;simp[B5]at hq;subst hq;exact⟨cells,rfl,hr,hs,rfl⟩
 |(i,x)::parts,ps,xs,ys,cells,hp,hq,hr,hs,h1=>by
  simp only[FU]at hp;split at hp
  .rename_i y yr hy hyr;cases hp;unfold Np at hy;simp only[zf9z]at hy;obtain⟨x',hx',rfl⟩:=hy;simp only[B5]at hq;split at hq
   .rename_i z y hz ut;split at hq
    .rename_i hc;obtain⟨hPu,hut⟩:=FP hS (am:=false) (ok':=E.ok) ⟨λ_ _ h=>h,λh=>by cases h⟩ (B6 hf hx') ut;obtain⟨g1,g2⟩:=Jb hPu hut;obtain⟨gl,gg⟩:=BC g1;obtain⟨r1,r2⟩:=hr i z hz;have hi:i<xs.length:=(zf0z.1 hz).1;have L4:(a.eval x).cells.size=sz:=by simp at gl;omega
     have j8:i*sz+sz<=cells.size:=by
      have:(i+1)*sz<=xs.length*sz:=zf3z _ hi;rw[zg5z]at this;omega
     have hstep:=QW (place:=λi=>some (i*sz,sz)) (cells:=cells) (i:=i) (rest:=parts.map λp=>(p.1,a.eval p.2)) rfl L4 j8;have hget:=λj=>Cv (l:=cells.toList) (off:=i*sz) (vs:=(a.eval x).cells.toList) (by simp;omega) j;simp only[zf6z,L4]at hget;obtain⟨us,k1,k2,k3,k4⟩:=NJ hS hf G7 (parts:=parts) (xs:=xs.set i y) (cells:=(cells.toList.take (i*sz)++(a.eval x).cells.toList++cells.toList.drop (i*sz+sz)).toArray) hyr hq (λj w hw=>by
      by_cases hij:i=j
      .subst hij;rw[zf7z hi]at hw;cases hw;refine⟨by omega,λc q hq'=>?_⟩;obtain⟨v,v1,v2⟩:=gg hq';have w8:c<sz:=by have:=(zf0z.1 hq').1;omega
       refine⟨v,?_,g2 v (zg9z v1),v2⟩;show (uz _ _++_++uy _ _)[_]?=some v;rw[hget,if_neg (by omega),if_pos (by omega),show i*sz+c-i*sz=c from by omega];exact v1
      .rw[zg1z hij]at hw;obtain⟨s1,s2⟩:=hr j w hw;refine⟨s1,λc q hq'=>?_⟩;obtain⟨v,v1,v2,v3⟩:=s2 c q hq';refine⟨v,?_,v2,v3⟩;have w8:c<sz:=by have:=(zf0z.1 hq').1;omega
       show (uz _ _++_++uy _ _)[_]?=some v;rw[hget];rcases zt5z (show j≠i from λe=>hij e.symm)with A9|hgt
       .have:=s5 A9 w8;rw[if_pos this];exact v1
       .have h3:(i+1)*sz<=j*sz:=zf3z _ hgt;rw[zg5z]at h3;rw[if_neg (by omega),if_neg (by omega)];exact v1) (by
       simp only[List.size_toArray,List.length_append,List.length_take,List.length_drop,zf6z,L4,List.length_set];omega) (by
       intro u hu;simp only[zg4z]at hu;rcases hu with (hu|hu)|hu
       .exact h1 u (zg3z hu)
       .exact g2 u hu
       .exact h1 u (zg2z hu))
     exact⟨us,by simp only[uw];rw[hstep];exact k1,k2,k3,by simpa using k4⟩
    .cases hq
   .cases hq
  .cases hp
theorem Th (hS:SR E) {us:Array Value} {e:TypeId} {xs:C6} {sz:Nat} (G7:0<sz) (hr:DR E us.toList xs sz) (hm:xs.length<=maxLen) :
  PV (E.w.alloc (.cells us e)) ({E with w:=E.w.alloc (.cells us e)}:Env).ok (.vs true sz xs) (.slice (some ⟨E.w.heap.size,0,none⟩) xs.length xs.length):=by
 have hb:Bl E.w.heap.size E.w (E.w.alloc (.cells us e)):=⟨(Below.refl _ _).alloc (zf8z _) _,λ_=>zf8z _⟩;have hx:=AT hS hb;simp only[PV];refine⟨_,_,_,rfl,rfl,zf8z _,hm,λ_=>rfl,⟨(λh=>nomatch h),⟨(λh=>nomatch h),λe=>absurd G7 (by omega)⟩⟩,λ_=>⟨_,_,rfl,G7,LK λj x hj=>?_⟩⟩;obtain⟨r1,r2⟩:=hr j x hj;refine⟨r1,Gn λc y hc=>?_⟩;obtain⟨v,v1,v2,v3⟩:=r2 c y hc;refine⟨v,?_,?_,v2,Z7 hx.cells _ _ v3⟩
 .refine .inr ⟨hS.basele,by simp,λi hi=>?_,λk f hk he=>?_⟩
  .have:=(hS.nb_lt hi).2;intro e;have e':E.nb i=E.w.heap.size:=e;omega
  .have:=(hS.im_lt (zf0z.1 hk).1).2;have he':(E.im k).b=E.w.heap.size:=he;omega
 .rw[Nat.zero_add,cell_of_row _ _ _ _ _ _ (heap_alloc_new _ _)];simpa using v1
theorem bV {t e:TypeId} {len:Nat} {parts:Array (Nat×Operand)} {z:AV} {n:Nat} {ps:List (Nat×Opd)} {xs:C6} (hS:SR E) (hf:FR E fr a.tmps) (ho:o.op=.buildSlice t len parts) (hu:P.underlying t=some (.slice e)) (hz:Program.zeroA P e=some z) (hn:Program.size? P e=some n)
  (G7:0<n) (hlim:len*n<=2 ^ 24) (hp:FU Np parts.toList=some ps) (hq:B5 fr E.h (zf4z len z) ps=some xs):Ea P a o E (.vs true z.cells.length xs) E.h:=by
 have hn':=hn;unfold Program.size? at hn';simp only[zf9z]at hn';obtain⟨i,hi,rfl⟩:=hn';obtain⟨zv,h2,hl,h3,hr,h1⟩:=Ia (E:=E) hz (n:=len) hi G7;obtain⟨us,k1,k2,k3,k4⟩:=NJ hS hf G7 hp hq hr (by simp[madeCells]) h1;have C4:xs.length=len:=by simpa using k4
 have hmax:xs.length<=maxLen:=by
  have:len*1<=len*i.size:=Nat.mul_le_mul_left _ G7;rw[C4];unfold maxLen;omega
 have hpv:=Th (e:=e) hS G7 k2 hmax;have hb:Bl E.w.heap.size E.w (E.w.alloc (.cells us e)):=⟨(Below.refl _ _).alloc (zf8z _) _,λ_=>zf8z _⟩;rw[hl];refine⟨_,.slice (some ⟨E.w.heap.size,0,none⟩) xs.length xs.length,{E with w:=E.w.alloc (.cells us e)},?_,.inl rfl,AT hS hb,Dq hS hb,rfl,?_⟩
 .have Qh:(sizeOf e).run P E.w=.ok i.size E.w:=CB hn _;by_cases h0:len*i.size=0
  .have hc0:madeCells zv.cells (len*i.size)=#[]:=by simp[h0,madeCells]
   rw[hc0]at k1;simp[execOp,ho,Instr.buildSlice,F7 hu,Qh,h0,newRow,C4,Array.range_zero',k1]
  .simp[execOp,ho,Instr.buildSlice,F7 hu,Qh,h0,show ¬(16777216<len*i.size) from by omega,zeroValue,typeInfo,hi,h2,newRow,C4];unfold madeCells at k1;simp[k1]
 .simp only[VR];exact hpv
end
section
variable {E:Env} {P:Program} {fr:Fr} {a:Act} {o:Oper}
theorem Kl {us:Array Value} {xs:C6} {sz:Nat} (h:DR E us.toList xs sz) (i:Nat) (x:AV) (hx:xs[i]?=some x):Kc E us (i*sz) sz x:=by
 obtain⟨h1,h2⟩:=h i x hx;exact⟨h1,λc y hc=>by obtain⟨v,v1,v2,v3⟩:=h2 c y hc;exact⟨v,by simpa using v1,v2,v3⟩⟩
theorem Yf {t e:TypeId} {l c:Operand} {l' c':Opd} {z:AV} {i:TypeInfo} {k1 k2:IntKind} {x y:Int} (hS:SR E) (hf:FR E fr a.tmps) (ho:o.op=.makeSlice t l c) (hu:P.underlying t=some (.slice e)) (hi:P.info? e=some i) (hz:Program.zeroA P e=some z)
  (G7:0<i.size) (hl:B7 l=some l') (hc:B7 c=some c') (hx:get fr l'=.int k1 x) (hy:get fr c'=.int k2 y) (h0:0<=x) (hxy:x<=y) (hb:y*i.bytes<=I0) (hm:y<=maxLen) :
  Ea P a o E (.sl E.h.fams.length x.toNat 0 x.toNat) {E.h with fams:=E.h.fams++[⟨zf4z x.toNat z,z.cells.length,true⟩]}:=by
 have e1:=B6 hf hl;have e2:=B6 hf hc;rw[hx]at e1;rw[hy]at e2;simp only[VR]at e1 e2;obtain⟨zv,h2,WE,h3,hr,h1⟩:=Ia (E:=E) hz (n:=y.toNat) hi G7;have hrun:=run_make (P:=P) E.w t e i zv hu hi h2 k1 k2 x y h0 hxy (by rw[Int.mul_comm];unfold I0 at hb;omega) (by unfold maxLen at hm;omega);have C4:(zf4z x.toNat z).length=x.toNat:=by simp
 have Jp:∀(j:Nat) (w:AV),(zf4z x.toNat z)[j]?=some w->Kc E (madeCells zv.cells (y.toNat*i.size)) (j*z.cells.length) z.cells.length w:=by
  intro j w hw;rw[WE];refine Kl hr j w ?_;rw[zg6z]at hw ⊢;split at hw
  .rename_i hj;cases hw;rw[if_pos (by omega)]
  .cases hw
 refine⟨_,.slice (some ⟨E.w.heap.size,0,none⟩) x.toNat y.toNat,E.newFam (madeCells zv.cells (y.toNat*i.size)) e y.toNat ⟨zf4z x.toNat z,z.cells.length,true⟩,?_,.inl rfl,Fd hS _ _ _ _,
  Ic hS (by simpa[WE]using G7) (by simp;omega) (by omega) (by simp[size_madeCells,WE]) Jp,rfl,?_⟩
 .simp only[execOp,ho,e1,e2,Sem.run_bind,hrun,Result.andThen_ok,Sem.run_pure,Env.newFam]
 .simp only[VR,Env.newFam,P7];refine⟨_,_,⟨zf4z x.toNat z,z.cells.length,true⟩,rfl,by simp,⟨by simp,λ_=>⟨_,_,rfl⟩⟩,λ_=>⟨Nat.zero_le _,by simp,by simp,(λh=>nomatch h),λ_=>by simp⟩⟩
theorem Xa {n sz j:Nat} (L4:0<sz) (hj:j<n*sz):j / sz<n/\j % sz<sz/\j / sz*sz+j % sz=j :=
 ⟨Nat.div_lt_of_lt_mul (by rwa [zt6z]),ux _ L4,by rw[zt6z];exact Nat.div_add_mod j sz⟩
def bA (E:Env) (b q sz:Nat) (ys:List AV):Prop :=
 ∀(i:Nat) (x:AV),ys[i]?=some x->x.cells.length=sz/\∀(c:Nat) (y:AV),x.cells[c]?=some y->∃v,E.w.cell? ⟨b,q+i*sz+c,none⟩=some v/\v.oneCell'=true/\PV E.w E.ok y v
theorem Ja {b q sz:Nat} {ys:C6} (L4:0<sz) (h:bA E b q sz ys) :
  ∃news:List Value,news.length=ys.length*sz/\(∀(j:Nat) (u:Value),news[j]?=some u->E.w.cell? ((⟨b,q,none⟩:Addr).add j)=some u)/\(∀u∈news,u.oneCell'=true)/\DR E news ys sz:=by
 have hex:∀j,j<ys.length*sz->∃u,E.w.cell? ⟨b,q+j,none⟩=some u/\u.oneCell'=true/\∃y x,ys[j / sz]?=some x/\x.cells[j % sz]?=some y/\PV E.w E.ok y u:=by
  intro j hj;obtain⟨h1,h2,h3⟩:=Xa L4 hj;obtain⟨g1,g2⟩:=h (j / sz) _ (zf5z h1);obtain⟨v,v1,v2,v3⟩:=g2 (j % sz) _ (zf5z (by omega));rw[show q+j / sz*sz+j % sz=q+j from by omega]at v1;exact⟨v,v1,v2,_,_,zf5z h1,zf5z _,v3⟩
 have hpick:∃g:Nat->Value,∀j,j<ys.length*sz->E.w.cell? ⟨b,q+j,none⟩=some (g j)/\(g j).oneCell'=true/\∃y x,ys[j / sz]?=some x/\x.cells[j % sz]?=some y/\PV E.w E.ok y (g j):=by
  refine⟨λj=>if hj:j<ys.length*sz then Classical.choose (hex j hj)else default,λj hj=>?_⟩
  simp only[hj,dif_pos];exact Classical.choose_spec (hex j hj)
 obtain⟨g,hg⟩:=hpick;refine⟨(List.range (ys.length*sz)).map g,by simp,λj u hu=>?_,λu hu=>?_,λi x hx=>?_⟩
 .rw[zt8z]at hu;by_cases hj:j<ys.length*sz
  .rw[zt0z hj]at hu;simp at hu;subst hu;rw[AP];exact(hg j hj).1
  .rw[zg7z (by simpa using hj)]at hu;simp at hu
 .simp at hu;obtain⟨j,hj,rfl⟩:=hu;exact(hg j hj).2.1
 .obtain⟨g1,g2⟩:=h i x hx;refine⟨g1,λc y hc=>?_⟩;obtain⟨v,v1,v2,v3⟩:=g2 c y hc;have hi:i<ys.length:=(zf0z.1 hx).1;have w8:c<sz:=by have:=(zf0z.1 hc).1;omega
  have A9:=s5 hi w8;refine⟨v,?_,v2,v3⟩;rw[zt8z,zt0z A9];have:=(hg _ A9).1;rw[show q+(i*sz+c)=q+i*sz+c from by omega]at this;rw[this]at v1;simpa using v1
theorem Jk (hS:SR E) {sz:Nat} (L4:0<sz) {x:AV} {v:Value} {ys:C6} (hv:VR E x v) (h:elems E.h sz x=some ys) :
  ∃ad c,v=.slice ad ys.length c/\(ad=none->ys.length=0)/\(ys≠[]->∃b q,ad=some ⟨b,q,none⟩/\bA E b q sz ys):=by
 unfold elems at h;split at h
 .rename_i full z xs;split at h
  .rename_i hz;cases h;simp only[VR,PV]at hv;obtain⟨ad,len,cap,rfl,rfl,h2,h3,h4,h5,h6⟩:=hv;refine⟨ad,cap,rfl,λhn=>by have:=h5.1 hn;omega,λT6=>?_⟩;obtain⟨b,q,rfl,_,hels⟩:=h6 T6;have:z=sz:=by
    rcases hz with hz|hz
    .exact hz
    .exact absurd (List.eq_nil_of_length_eq_zero hz) T6
   subst this;refine⟨b,q,rfl,λi x hx=>?_⟩;obtain⟨p1,p2⟩:=Gz hels hx;refine⟨p1,λc y hc=>?_⟩;obtain⟨u,_,u2,u3,u4⟩:=r9 p2 hc;exact⟨u,u2,u3,u4⟩
  .cases h
 .rename_i k n off len;split at h
  .rename_i f hfk;split at h
   .rename_i hc;cases h;obtain⟨hn,hz,ho⟩:=hc;simp only[VR]at hv;obtain⟨ad,cap,f',rfl,hf',_,hcc⟩:=hv;have:f'=f:=by rw[hfk]at hf';simpa using hf'.symm
    subst this;obtain⟨l1,l2,l3,l4,l5⟩:=hcc hn;have hF:=hS.fams k f' hfk;have U0:=hF.room;have C4:((f'.xs.drop off).take len).length=len:=by simp;omega
    refine⟨ad,cap,by rw[C4],λh=>absurd h l4,λT6=>?_⟩;have G7:0<len:=by
     rcases Nat.eq_zero_or_pos len with h0|h0
     .subst h0;simp at T6
     .exact h0
    refine⟨_,_,l5 (by omega),λi x hx=>?_⟩;have hi:i<len:=by have:=(zf0z.1 hx).1;omega
    have hx':f'.xs[off+i]?=some x:=by
     rw[zt3z,if_pos hi,zt2z]at hx;exact hx
    obtain⟨cur,t,c1,c2,c3⟩:=hF.cells;obtain⟨e1,e2⟩:=c3 (off+i) x (by omega) hx';refine⟨by omega,λc y hc=>?_⟩;obtain⟨u,u1,u2,u3⟩:=e2 c y hc;refine⟨u,?_,u2,u3⟩;rw[cell_of_row _ _ _ _ _ _ c1];rw[show (E.im k).o+(off-(E.im k).lo)*f'.sz+i*sz+c=(E.im k).o+(off+i-(E.im k).lo)*f'.sz+c from by
     rw[show off+i-(E.im k).lo=(off-(E.im k).lo)+i from by omega,Nat.add_mul,hz];omega]
    exact u1
   .cases h
  .cases h
 .cases h
theorem NU (t ty e:TypeId) (i:TypeInfo) (ht:P.underlying t=some (.slice e)) (hi:P.info? e=some i) (base ad:Option Addr) (n c m:Nat) (hnc:n<=c) (w:World) :
  (Builtin.append_ #[t,t] ty #[.slice base n c,.slice ad 0 m]).run P w=.ok (.slice base n c) w:=by
 have hf:(Builtin.firstCells i.size 0 (.slice ad 0 m)).run P w=.ok #[] w:=by
  cases ad<;>simp[Builtin.firstCells,loadCells,loadCellsFrom]
 cases base<;>simp[Builtin.append_,run_underlying ht,sizeOf,typeInfo,hi,Builtin.lenOf,hnc,hf,storeCells]
theorem QD (t ty e:TypeId) (i:TypeInfo) (ht:P.underlying t=some (.slice e)) (hi:P.info? e=some i)
  (g q sLen sCap:Nat) (cur:Array Value) (t':TypeId) (w:World) (hg:w.heap[g]?=some (.cells cur t' (0,0)))
  (a:Addr) (m c:Nat) (news:List Value) (hl:news.length=m*i.size) (hnews:∀j u,news[j]?=some u->w.cell? (a.add j)=some u) (h1:∀u∈news,u.oneCell'=true)
  (U0:sLen+m<=sCap) (j8:q+sLen*i.size+news.length<=cur.size) :
  (Builtin.append_ #[t,t] ty #[.slice (some ⟨g,q,none⟩) sLen sCap,.slice (some a) m c]).run P w =
   .ok (.slice (some ⟨g,q,none⟩) (sLen+m) sCap) (w.setRow g (cur.toList.take (q+sLen*i.size)++news++cur.toList.drop (q+sLen*i.size+news.length)).toArray):=by
 have hf:=run_firstCells_some (P:=P) w i.size m a m c news hl hnews;have S6:=run_storeCells_at P g (q+sLen*i.size) t' news 0 cur w hg (by simpa using j8) h1;simp only[zt4z]at S6;simp[Builtin.append_,run_underlying ht,sizeOf,typeInfo,hi,Builtin.lenOf,U0,hf,AP,S6]
theorem In {B:Nat} (w:World):Bl B w w.drew:=⟨(Below.refl B w).drew,λ_=>Nat.le_succ _⟩
theorem GB {us vs:List Value} {xs ys:C6} {sz:Nat} (h1:DR E us xs sz) (hl:us.length=xs.length*sz) (h2:DR E vs ys sz):DR E (us++vs) (xs++ys) sz:=by
 intro i x hx;by_cases hi:i<xs.length
 .rw[zf1z hi]at hx;obtain⟨g1,g2⟩:=h1 i x hx;refine⟨g1,λc y hc=>?_⟩;obtain⟨v,v1,v2⟩:=g2 c y hc;exact⟨v,by rw[zf1z (zf0z.1 v1).1];exact v1,v2⟩
 .rw[zf2z (by omega)]at hx;obtain⟨g1,g2⟩:=h2 _ x hx;refine⟨g1,λc y hc=>?_⟩;obtain⟨v,v1,v2⟩:=g2 c y hc;refine⟨v,?_,v2⟩;have:xs.length*sz<=i*sz:=zf3z _ (by omega);rw[zf2z (by omega),hl,show i*sz+c-xs.length*sz=(i-xs.length)*sz+c from by rw[Nat.sub_mul];omega];exact v1
theorem YR {us vs:List Value} {xs:C6} {sz:Nat} (h1:DR E us xs sz):DR E (us++vs) xs sz:=by
 intro i x hx;obtain⟨g1,g2⟩:=h1 i x hx;refine⟨g1,λc y hc=>?_⟩;obtain⟨v,v1,v2⟩:=g2 c y hc;exact⟨v,by rw[zf1z (zf0z.1 v1).1];exact v1,v2⟩
theorem Jc {E':Env} (h:Ext E E') {us:List Value} {xs:C6} {sz:Nat} (h1:DR E us xs sz):DR E' us xs sz:=by
 intro i x hx;obtain⟨g1,g2⟩:=h1 i x hx;refine⟨g1,λc y hc=>?_⟩;obtain⟨v,v1,v2,v3⟩:=g2 c y hc;exact⟨v,v1,v2,Z7 h.cells _ _ v3⟩
end
end Go.Abs
