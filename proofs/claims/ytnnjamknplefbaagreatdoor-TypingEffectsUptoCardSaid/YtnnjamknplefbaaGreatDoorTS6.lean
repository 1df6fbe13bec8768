/- A part of the proof. -/
import Derived.Test.YtnnjamknplefbaaGreatDoorTS5
set_option linter.all false
open List renaming getElem?_eq_some_iff->zf0z,getElem?_append_right->zf2z,getElem?_append_left->zf3z,getElem?_set_self->zf6z,getElem?_set_ne->zf9z,mem_of_mem_drop->zg0z,mem_of_mem_take->zg1z,mem_append->zg2z,mem_of_getElem?->zg3z,length_append->zg5z,append_assoc->zg9z,length_cons->zt0z,length_take->zt1z,replicate->zt2z,map_cons->zt3z,drop->zt5z,take->zt6z
open Option renaming map_eq_some_iff->zf1z
open Nat renaming mul_le_mul_right->zf4z,le_refl->zf7z,succ_mul->zg4z,lt_or_gt_of_ne->zg8z,add_zero->zt4z
open Array renaming length_toList->zf5z,getElem?_toList->zf8z,getElem?_range->zg6z,getElem?_map->zg7z
set_option linter.all false
namespace Go.Abs
open Go.RowKit (Below)
section
variable {E:Env} {P:Program} {fr:Fr} {a:Act} {o:Oper}
def Ed(P:Program)(a:Act)(o:Oper)(E:Env)(v:AV)(h':AH):Prop :=
 ∃nx u E',(execOp a.eval o).run P E.w=.ok nx E'.w/\(nx=.value u\/(nx=.skip/\u=undef))/\Ext E E'/\SR E'/\E'.h=h'/\VR E' v u
theorem AE.does{v:AV}(hS:SR E)(h:AE P a o E v):Ed P a o E v E.h:=by
 obtain⟨u,h1,h2⟩:=h;exact⟨_,u,E,h1,.inl rfl,Ext.refl E,hS,rfl,h2⟩
theorem Ml{aas bs:I7}{us vs:List Value}(h1:W5 E aas us)(h2:W5 E bs vs):W5 E (aas++bs) (us++vs):=by
 refine LB (by simp[EP h1,EP h2]) λj c u hc hu=>?_;have e:=EP h1;by_cases hj:j<aas.length
 .rw[zf3z hj]at hc;rw[zf3z (by omega)]at hu;obtain⟨u',h3,h4⟩:=(Bi h1).2 hc;rw[h3]at hu;cases hu;exact h4
 .rw[zf2z (by omega)]at hc;rw[zf2z (by omega),e]at hu;obtain⟨u',h3,h4⟩:=(Bi h2).2 hc;rw[h3]at hu;cases hu;exact h4
theorem Mm{cs ds:I7}{us vs:List Value}(h1:W5 E cs us)(h2:W5 E ds vs)(off:Nat):W5 E (Y0 cs off ds) (us.take off++vs++us.drop (off+vs.length)):=by
 unfold Y0;rw[EP h2];exact Ml (Ml (ZY h1 _) h2) (ZW h1 _)
theorem Ky{w:World}{ok:Nat->Nat->Prop}{x:AV}{v:Value}(h:PV w ok x v)(ht:x.isTup=false):Aj w ok x.cells v.cells.toList/\∀u∈v.cells.toList,u.oneCell'=true:=by
 cases x<;>simp only[PV]at h
 case tup=>simp[AV.isTup]at ht
 case agg cs=>obtain⟨us,rfl,h1,h2⟩:=h;exact⟨h2,h1⟩
 case junk =>
  have hc:v.cells=#[v]:=by cases v<;>simp_all [Value.oneCell',Value.cells]
  rw[hc];exact⟨by simp[AV.cells,Aj,PV,h],by simpa using h⟩
 case vs=>obtain⟨ad,len,cap,rfl,h'⟩:=h;exact⟨by simp only[AV.cells,Value.cells,Aj,PV];exact⟨_,_,rfl,⟨_,_,_,rfl,h'⟩,rfl⟩,by simp[Value.cells,Value.oneCell']⟩
 case pv=>obtain⟨b,q,rfl,h'⟩:=h;exact⟨by simp only[AV.cells,Value.cells,Aj,PV];exact⟨_,_,rfl,⟨_,_,rfl,h'⟩,rfl⟩,by simp[Value.cells,Value.oneCell']⟩
 case fn=>obtain⟨us,rfl,h'⟩:=h;exact⟨by simp only[AV.cells,Value.cells,Aj,PV];exact⟨_,_,rfl,⟨_,rfl,h'⟩,rfl⟩,by simp[Value.cells,Value.oneCell']⟩
 case vm=>obtain⟨b,es,clk,rfl,h1,h2,h3,h4⟩:=h;exact⟨by simp only[AV.cells,Value.cells,Aj];exact⟨_,_,rfl,by simp only[PV];exact⟨b,es,clk,rfl,h1,h2,h3,h4⟩,rfl⟩,by simp[Value.cells,Value.oneCell']⟩
 all_goals (subst h;exact⟨by simp[AV.cells,Value.cells,Aj,PV],by simp[Value.cells,Value.oneCell']⟩)
theorem CH{t:TypeId}{z:AV}(h:Program.zeroA P t=some z):∃i zv,P.info? t=some i/\i.zero=some zv/\zv.cells.size=i.size/\Ly zv=some z/\z.isTup=false:=by
 unfold Program.zeroA at h;split at h
 .rename_i i hi;split at h
  .rename_i zv hz;split at h
   .rename_i x hx;split at h
    .rename_i hc;cases h;exact⟨i,zv,hi,hz,hc.1,hx,hc.2⟩
    .cases h
   .cases h
  .cases h
 .cases h
theorem d_box{t:TypeId}{x:Operand}{x':Opd}(hS:SR E)(hf:FR E fr a.tmps)(ho:o.op=.box t x)(hx:C5 x=some x')(ht:(get fr x').isTup=false) :
  Ed P a o E (.ptr E.h.boxes.length 0) {E.h with boxes:=E.h.boxes++[(get fr x').cells]}:=by
 obtain⟨h1,h2⟩:=IN (C4 hf hx) ht;refine⟨_,.pointer (some ⟨E.w.heap.size,0,none⟩),E.newBox (a.eval x).cells t (get fr x').cells,?_,.inl rfl,EE hS _ _ _,Pe hS h1 h2,rfl,?_⟩
 .simp only[execOp,ho,Instr.box,newVar,newRow,Sem.run_bind,run_newObj,Result.andThen_ok,Sem.run_pure,World.alloc_eq,Env.newBox]
 .simp only[VR];exact⟨LP rfl (IP h1),by simp only[Env.newBox,V4]⟩
theorem vy{t:TypeId}{z:AV}(hS:SR E)(ho:o.op=.alloc t)(hz:Program.zeroA P t=some z) :
  Ed P a o E (.ptr E.h.boxes.length 0) {E.h with boxes:=E.h.boxes++[(Kk t z).cells]}:=by
 obtain⟨i,zv,h1,h2,h3,h4,h5⟩:=CH hz;obtain⟨h6,h7⟩:=IN (E:=E) (r9 _ _ (Aw h4)) h5;have run:(execOp a.eval o).run P E.w=.ok (.value (.pointer (some ⟨E.w.heap.size,0,none⟩))) (E.w.alloc (.cells zv.cells t)):=by
  simp only[execOp,ho,Instr.alloc,newVar,newRow,zeroValue,typeInfo,run_program,Sem.run_bind,h1,h2,run_newObj,Result.andThen_ok,Sem.run_pure,World.alloc_eq]
 unfold Kk;split
 .refine⟨_,.pointer (some ⟨E.w.heap.size,0,none⟩),E.newBox zv.cells t [.tbox t z.cells],run,.inl rfl,EE hS _ _ _,Se hS (Wr h6) h7,rfl,?_⟩;simp only[VR];exact⟨LP rfl rfl,by simp only[Env.newBox,V4]⟩
 .refine⟨_,.pointer (some ⟨E.w.heap.size,0,none⟩),E.newBox zv.cells t z.cells,run,.inl rfl,EE hS _ _ _,Pe hS h6 h7,rfl,?_⟩;simp only[VR];exact⟨LP rfl (IP h6),by simp only[Env.newBox,V4]⟩
theorem dl{E:Env}(h:SR E){p:Nat}{old:I7}(ho:E.h.boxes[p]?=some old)(hh:Ak old=true){us:Array Value}{t:TypeId}{cs ys:I7}(hform:cs=ys\/cs=[.tbox t ys])(hv:W5 E ys us.toList)(h1:∀v∈us.toList,v.oneCell'=true) :
  ∃E':Env,E'.w=E.w.alloc (.cells us t)/\E'.nb p=E.w.heap.size/\E'.h={E.h with boxes:=E.h.boxes.set p cs}/\Ext E E'/\SR E'/\E'.Live p:=by
 have o9:Ak cs=false:=by rcases hform with rfl|rfl<;>first|exact IP hv|rfl
 have hnl:¬E.Live p:=λhl=>by rw[hl.ne ho]at hh;cases hh
 have hp:=(zf0z.1 ho).1
 let E':Env:={E with w:=E.w.alloc (.cells us t),nb:=yx E.nb p E.w.heap.size,h:={E.h with boxes:=E.h.boxes.set p cs}}
 have mw:E'.Live p:=⟨cs,by show (E.h.boxes.set p cs)[p]?=_;rw[zf6z hp],o9⟩;have hun:∀i,E'.Live i->E.Live i\/i=p:=λi hi=>FC (E:=E) (E':=E') rfl hi;have hnb:∀i,E.Live i->E'.nb i=E.nb i:=λi hi=>BF _ _ λe=>hnl (e ▸ hi);have BZ:E'.nb p=E.w.heap.size:=V4 _ _ _;have hx:Ext E E':=by
  refine⟨λb o hb=>?_,by simp[E'],λi hi=>⟨OI (E:=E) (E':=E') rfl o9 hi,hnb i hi⟩,zf7z _,λk f f' hf hf'=>?_,rfl,rfl,⟨(Below.refl _ _).alloc h.basele _,λ_=>zf7z _⟩⟩
  .have G9:=OM h hb;refine⟨?_,Gb (Below.heap_alloc _ _ _ G9)⟩;rcases hb with hb|⟨g1,_,g3,g4⟩
   .exact .inl hb
   .refine .inr ⟨g1,by simp[E'];omega,λi hi e=>?_,g4⟩;rcases hun i hi with Ai|rfl
    .rw[hnb i Ai]at e;obtain⟨cs',hcs'⟩:=g3 i Ai e;have s9:p≠i:=λe'=>hnl (e' ▸ Ai);exact⟨cs',by show (E.h.boxes.set p cs)[i]?=_;rw[zf9z s9];exact hcs'⟩
    .rw[BZ]at e;omega
  .have:f=f':=by have:=hf.symm.trans hf';simpa using this
   subst this;exact⟨rfl,zf7z _,λ_=>rfl⟩
 refine⟨E',rfl,BZ,rfl,hx,⟨Nat.le_trans h.basele (by simp[E']),λi cs' hi hh'=>?_,λk f hk=>?_,λi j hi hj he=>?_,h.injf,λi k hi hk=>?_⟩,mw⟩
 .by_cases hn:p=i
  .subst hn;have:cs'=cs:=by
    have Ai:(E.h.boxes.set p cs)[p]?=some cs':=hi;rw[zf6z hp]at Ai;simpa using Ai.symm
   subst this;refine⟨by rw[BZ];exact h.basele,?_⟩;rcases hform with rfl|rfl
   .exact .inl ⟨us,t,by rw[BZ];exact heap_alloc_new _ _,CK hx _ _ hv,h1⟩
   .exact .inr (.inr (.inr ⟨t,ys,us,rfl,by rw[BZ];exact heap_alloc_new _ _,CK hx _ _ (Wr hv),h1⟩))
  .have Ai:E.h.boxes[i]?=some cs':=by
    have Ai:(E.h.boxes.set p cs)[i]?=some cs':=hi
    rwa [zf9z hn]at Ai
   have hl:=CM Ai hh';exact(h.boxes i cs' Ai hh').ext hx hl (Below.heap_alloc _ _ _ (h.nb_lt hl).2)
 .have DB:k<E.h.fams.length:=(zf0z.1 hk).1;exact(h.fams k f hk).ext hx rfl (Below.heap_alloc _ _ _ (h.im_lt DB).2)
 .rcases hun i hi with Ai|rfl<;>rcases hun j hj with hj' | rfl
  .rw[hnb i Ai,hnb j hj']at he;exact h.inj i j Ai hj' he
  .rw[hnb i Ai,BZ]at he;have:=(h.nb_lt Ai).2;omega
  .rw[hnb j hj',BZ]at he;have:=(h.nb_lt hj').2;omega
  .rfl
 .rcases hun i hi with Ai|rfl
  .rw[hnb i Ai];exact h.sep i k Ai hk
  .rw[BZ];have:=(h.im_lt hk).2;show E.w.heap.size≠(E.im k).b;omega
theorem kY{t:TypeId}{z v:AV}{r:Nat}{h':AH}(hS:SR E)(ho:o.op=.alloc t)(hz:Program.zeroA P t=some z)(E5:AF E.h r (Kk t z)=some (v,h')) :
  Ed P a o E v h':=by
 unfold AF at E5;split at E5
 case h_2=>cases E5
 rename_i cs o9;split at E5
 case isFalse=>cases E5
 rename_i hh;cases E5;obtain⟨i,zv,h1,h2,h3,h4,h5⟩:=CH hz;obtain⟨h6,h7⟩:=IN (E:=E) (r9 _ _ (Aw h4)) h5;obtain⟨E',k1,k2,k3,k4,k5,k6⟩:=dl hS o9 hh (t:=t) (cs:=(Kk t z).cells) (ys:=z.cells) (by unfold Kk;split<;>simp[AV.cells]) h6 h7;refine⟨_,.pointer (some ⟨E.w.heap.size,0,none⟩),E',?_,.inl rfl,k4,k5,k3,?_⟩
 .simp only[execOp,ho,Instr.alloc,newVar,newRow,zeroValue,typeInfo,run_program,Sem.run_bind,h1,h2,run_newObj,Result.andThen_ok,Sem.run_pure,World.alloc_eq,k1]
 .simp only[VR];exact⟨k6,by rw[k2]⟩
theorem Ki{t:TypeId}{b q:Nat}{v:Value}{cur:Array Value}{t':TypeId}{w:World}{n:Nat}(hn:Program.size? P t=some n)(hg:w.heap[b]?=some (.cells cur t' (0,0)))(hv:v.cells.size=n)(V6:q+n<=cur.size)
  (h1:∀u∈v.cells.toList,u.oneCell'=true) :
  (storeVar t ⟨b,q,none⟩ v).run P w=.ok () (w.setRow b (cur.toList.take q++v.cells.toList++cur.toList.drop (q+n)).toArray):=by
 have V8:=run_storeCells_at P b q t' v.cells.toList 0 cur w hg (by simp;omega) h1;simp only[zt4z,zf5z,hv]at V8;unfold storeVar;simp[DO hn,hv,V8]
theorem pG{t:TypeId}{x y:Operand}{x' y':Opd}{n b off:Nat}{cs:I7}(hS:SR E)(hf:FR E fr a.tmps)(ho:o.op=.store t x y)(hn:Program.size? P t=some n)(hx:C5 x=some x')(hy:C5 y=some y')
  (hg:get fr x'=.ptr b off) (o9:E.h.boxes[b]?=some cs) (hmb:u6 cs=false) (ht:(get fr y').isTup=false) (hl:(get fr y').cells.length=n) (V6:off+n<=cs.length) :
  Ed P a o E B4 {E.h with boxes:=E.h.boxes.set b (Y0 cs off (get fr y').cells)}:=by
 have hv:=C4 hf hx;rw[hg]at hv;simp only[VR]at hv;obtain⟨hb,e⟩:=hv;obtain⟨h1,h2⟩:=IN (C4 hf hy) ht;have hb1:=(hS.boxes b cs o9 (BK hmb)).1;obtain⟨cur,t',hc1,hc2,hc3⟩:=(hS.boxes b cs o9 (BK hmb)).row hmb;have Y3:(a.eval y).cells.size=n:=by have:=EP h1;simp at this;omega
 have Ev:cur.size=cs.length:=by have:=EP hc2;simpa using this
 have hrun:=Ki (P:=P) (q:=off) hn hc1 Y3 (by omega) h2;have GJ:=Mm hc2 h1 off;rw[show (a.eval y).cells.toList.length=n from by simp[Y3]]at GJ;refine⟨_,undef,E.setBox b (cur.toList.take off++(a.eval y).cells.toList++cur.toList.drop (off+n)).toArray (Y0 cs off (get fr y').cells),?_,.inr ⟨rfl,rfl⟩,TK hS o9 hmb _ _ (IP GJ),mR hS o9 hmb GJ ?_,rfl,DE _⟩
 .simp only[execOp,ho,Instr.storeAt,e,Instr.sureAddr,Sem.run_bind,Sem.run_pure,Result.andThen_ok,hrun];rfl
 .intro u hu;simp only[zg2z]at hu;rcases hu with (hu|hu)|hu
  .exact hc3 u (zg1z hu)
  .exact h2 u hu
  .exact hc3 u (zg0z hu)
theorem EI{α:Type}{l:List α}{off:Nat}{vs:List α}(V6:off+vs.length<=l.length)(j:Nat) :
  (l.take off++vs++l.drop (off+vs.length))[j]?=if j<off then l[j]? else if j<off+vs.length then vs[j-off]? else l[j]?:=by
 have hl:(l.take off).length=off:=by simp;omega
 by_cases h1:j<off
 .rw[if_pos h1,zg9z,zf3z (by omega),List.getElem?_take,if_pos h1]
 .rw[if_neg h1];by_cases h2:j<off+vs.length
  .rw[if_pos h2,zg9z,zf2z (by omega),hl,zf3z (by omega)]
  .rw[if_neg h2,zf2z (by simp;omega),List.getElem?_drop];congr 1;simp;omega
theorem kg{t T:TypeId}{x y:Operand}{x' y':Opd}{n b off:Nat}{cs:I7}(hS:SR E)(hf:FR E fr a.tmps)(ho:o.op=.store t x y)(hn:Program.size? P t=some n)(hx:C5 x=some x')(hy:C5 y=some y')
  (hg:get fr x'=.ptr b off) (o9:E.h.boxes[b]?=some [.tbox T cs]) (ht:(get fr y').isTup=false) (hl:(get fr y').cells.length=n) (V6:off+n<=cs.length) :
  Ed P a o E B4 {E.h with boxes:=E.h.boxes.set b [.tbox T (Y0 cs off (get fr y').cells)]}:=by
 have hv:=C4 hf hx;rw[hg]at hv;simp only[VR]at hv;obtain⟨hb,e⟩:=hv;obtain⟨h1,h2⟩:=IN (C4 hf hy) ht;obtain⟨cur,hc1,hc2,hc3⟩:=(hS.boxes b _ o9 rfl).typ;have Y3:(a.eval y).cells.size=n:=by have:=EP h1;simp at this;omega
 have Ev:cs.length<=cur.size:=by have:=EP hc2;simp at this;omega
 have hrun:=Ki (P:=P) (q:=off) hn hc1 Y3 (by omega) h2;have GJ:=Mm hc2 h1 off;rw[show (a.eval y).cells.toList.length=n from by simp[Y3]]at GJ;have hsl:(Y0 cs off (get fr y').cells).length=cs.length:=by unfold Y0;simp[hl];omega
 have hvl:(a.eval y).cells.toList.length=n:=by simp[Y3]
 have hcut:(cur.toList.take cs.length).take off++(a.eval y).cells.toList++(cur.toList.take cs.length).drop (off+n)=(cur.toList.take off++(a.eval y).cells.toList++cur.toList.drop (off+n)).take (Y0 cs off (get fr y').cells).length:=by
  have hto:(cur.toList.take off).length=off:=by rw[zt1z];simp;omega
  rw[hsl,List.take_append,zg5z,hto,hvl,List.take_of_length_le (l:=cur.toList.take off++(a.eval y).cells.toList) (by rw[zg5z,hto,hvl];exact V6),List.take_take,Nat.min_eq_left (by omega),List.drop_take]
 rw[hcut]at GJ;obtain⟨k1,k2⟩:=fH hS o9 (us:=(cur.toList.take off++(a.eval y).cells.toList++cur.toList.drop (off+n)).toArray) GJ (by
  intro v hv;simp only[zg2z]at hv;rcases hv with (hv|hv)|hv
  .exact hc3 v (zg1z hv)
  .exact h2 v hv
  .exact hc3 v (zg0z hv))
 refine⟨_,undef,E.setBox b (cur.toList.take off++(a.eval y).cells.toList++cur.toList.drop (off+n)).toArray [.tbox T (Y0 cs off (get fr y').cells)],?_,.inr ⟨rfl,rfl⟩,k2,k1,rfl,DE _⟩;simp only[execOp,ho,Instr.storeAt,e,Instr.sureAddr,Sem.run_bind,Sem.run_pure,Result.andThen_ok,hrun];rfl
theorem pH{t:TypeId}{x y:Operand}{x' y':Opd}{n k m i c sz:Nat}{f:Fam}{el u z:AV}(hS:SR E)(hf:FR E fr a.tmps)(ho:o.op=.store t x y)(hn:Program.size? P t=some n)(hx:C5 x=some x')(hy:C5 y=some y')
  (hg:get fr x'=.ep k m i c sz) (hfk:E.h.fams[k]?=some f) (hm:f.xs.length=m) (hmz:f.sz=sz) (hw:f.wr=true) (LN:f.xs[i]?=some el) (hu:frz E.h false (get fr y')=some u)
  (hl:u.cells.length=n) (V6:c+n<=el.cells.length) (hzc:z.cells=Y0 el.cells c u.cells) :
  Ed P a o E B4 {E.h with fams:=E.h.fams.set k {f with xs:=f.xs.set i z}}:=by
 have hv:=C4 hf hx;rw[hg]at hv;simp only[VR]at hv;obtain⟨b0,o0,f',e,hfk',_,had⟩:=hv;have:f'=f:=by rw[hfk]at hfk';simpa using hfk'.symm
 subst this;obtain⟨Na,hbo⟩:=had ⟨hm,hmz⟩;rw[hbo]at e;have hF:=hS.fams k f' hfk;obtain⟨cur,t',c1,c2,c3⟩:=hF.cells;obtain⟨e1,e2⟩:=c3 i el Na LN;obtain⟨hPu,hut⟩:=GH hS (am:=false) (ok':=E.ok) ⟨λ_ _ h=>h,λh=>by cases h⟩ (C4 hf hy) hu;obtain⟨h1,h2⟩:=Ky hPu hut;obtain⟨hul,hug⟩:=Eu h1;have Y3:(a.eval y).cells.size=n:=by simp at hul;omega
 have hi:i<f'.xs.length:=(zf0z.1 LN).1;have n8:=hF.room;have Z6:(E.im k).o+(i-(E.im k).lo)*f'.sz+f'.sz<=cur.size:=by
  have h3:(i-(E.im k).lo+1)*f'.sz<=(E.im k).cap*f'.sz:=zf4z _ (by omega);rw[zg4z]at h3;omega
 have hrun:=Ki (P:=P) (q:=(E.im k).o+(i-(E.im k).lo)*f'.sz+c) hn c1 Y3 (by omega) h2;obtain⟨us,Nb⟩:∃us:Array Value,us=(cur.toList.take ((E.im k).o+(i-(E.im k).lo)*f'.sz+c)++(a.eval y).cells.toList++cur.toList.drop ((E.im k).o+(i-(E.im k).lo)*f'.sz+c+n)).toArray:=⟨_,rfl⟩;rw[←Nb]at hrun;have hget:∀j:Nat,us[j]?=if j<(E.im k).o+(i-(E.im k).lo)*f'.sz+c then cur[j]? else if j<(E.im k).o+(i-(E.im k).lo)*f'.sz+c+n then (a.eval y).cells[j-((E.im k).o+(i-(E.im k).lo)*f'.sz+c)]? else cur[j]?:=by
  intro j;have:=EI (l:=cur.toList) (off:=(E.im k).o+(i-(E.im k).lo)*f'.sz+c) (vs:=(a.eval y).cells.toList) (by simp;omega) j;simp only[zf5z,Y3,zf8z]at this;rw[Nb,List.getElem?_toArray,this]
 have hussz:us.size=cur.size:=by rw[Nb];simp;omega
 refine⟨_,undef,E.setFam k us {f' with xs:=f'.xs.set i z},?_,.inr ⟨rfl,rfl⟩,
  GS hS hfk c1 rfl rfl (by simp) (λh=>by rw[hw]at h;cases h),KI hS hfk c1 rfl rfl (by simp) (λh=>by rw[hw]at h;cases h) (by simpa using n8) hussz ?_,rfl,DE _⟩
 .simp only[execOp,ho,Instr.storeAt,e,Instr.sureAddr,Sem.run_bind,Sem.run_pure,Result.andThen_ok,hrun];rfl
 .intro j x' hj hx';have hx'':(f'.xs.set i z)[j]?=some x':=hx';by_cases hij:i=j
  .subst hij;rw[zf6z hi]at hx'';cases hx'';refine⟨by rw[hzc];simp[Y0];omega,λq y' hq=>?_⟩;rw[hzc]at hq;unfold Y0 at hq;rw[EI (by omega)]at hq;have hq':q<f'.sz:=by
    rcases Nat.lt_or_ge q f'.sz with h|h
    .exact h
    .rw[if_neg (by omega),if_neg (by omega),List.getElem?_eq_none (by omega)]at hq;cases hq
   rw[hget];by_cases hqc:q<c
   .rw[if_pos hqc]at hq;rw[if_pos (by omega)];obtain⟨v,v1,v2,v3⟩:=e2 q y' hq;exact⟨v,by simpa using v1,v2,v3⟩
   .rw[if_neg hqc]at hq;by_cases hqn:q<c+u.cells.length
    .rw[if_pos hqn]at hq;rw[if_neg (by omega),if_pos (by omega)];obtain⟨v,v1,v2⟩:=hug hq;refine⟨v,?_,h2 v (zg3z v1),v2⟩;rw[show (E.im k).o+(i-(E.im k).lo)*f'.sz+q-((E.im k).o+(i-(E.im k).lo)*f'.sz+c)=q-c from by omega];simpa using v1
    .rw[if_neg hqn]at hq;rw[if_neg (by omega),if_neg (by omega)];obtain⟨v,v1,v2,v3⟩:=e2 q y' hq;exact⟨v,by simpa using v1,v2,v3⟩
  .rw[zf9z hij]at hx'';obtain⟨g1,g2⟩:=c3 j x' hj hx'';refine⟨g1,λq y' hq=>?_⟩;obtain⟨v,v1,v2,v3⟩:=g2 q y' hq;refine⟨v,?_,v2,v3⟩;have hqs:q<f'.sz:=by have:=(zf0z.1 hq).1;omega
   rw[hget];rcases zg8z (show j≠i from λe=>hij e.symm)with G9|hgt
   .have h3:(j-(E.im k).lo+1)*f'.sz<=(i-(E.im k).lo)*f'.sz:=zf4z _ (by omega);rw[zg4z]at h3;rw[if_pos (by omega)];simpa using v1
   .have h3:(i-(E.im k).lo+1)*f'.sz<=(j-(E.im k).lo)*f'.sz:=zf4z _ (by omega);rw[zg4z]at h3;rw[if_neg (by omega),if_neg (by omega)];simpa using v1
end
section
variable {E:Env} {P:Program} {fr:Fr} {a:Act} {o:Oper}
theorem aD(off:Nat):∀(l:List Value) (k:Nat) (cells:Array Value),off+k+l.length<=cells.size ->
  ((l.zipIdx k).foldl (λcs (x:Value×Nat)=>cs.setIfInBounds (off+x.2) x.1) cells).toList=cells.toList.take (off+k)++l++cells.toList.drop (off+k+l.length)
 | [],k,cells,_=>by simp
 |v::l,k,cells,h=>by
  simp only[zt0z]at h;simp only[List.zipIdx_cons,List.foldl_cons];rw[aD off l (k+1) _ (by simp;omega)];have:=list_seg_step cells.toList (off+k) v l (by simp;omega);simp only[Array.toList_setIfInBounds,zt0z];rw[show off+(k+1)=off+k+1 from by omega];exact this
theorem VI{place:Nat->Option (Nat×Nat)}{cells:Array Value}{i off size:Nat}{v:Value}{rest:List (Nat×Value)}(hp:place i=some (off,size))(hs:v.cells.size=size)(V6:off+size<=cells.size) :
  Instr.fill place cells ((i,v)::rest)=Instr.fill place (cells.toList.take off++v.cells.toList++cells.toList.drop (off+size)).toArray rest:=by
 have h:=aD off v.cells.toList 0 cells (by simp;omega);simp only[zt4z,zf5z,hs]at h;have h2:(v.cells.zipIdx.foldl (λcs (x:Value×Nat)=>cs.setIfInBounds (off+x.2) x.1) cells)=(cells.toList.take off++v.cells.toList++cells.toList.drop (off+size)).toArray:=by
  apply Array.ext';rw[←h,←Array.foldl_toList];simp
 simp only[Instr.fill,hp,hs];rw[if_neg (by simp;omega)];exact congrArg (λc=>Instr.fill place c rest) h2
theorem QE(hf:FR E fr a.tmps){fs:Array Field}{places:Nat->Option (Nat×Nat)}(hpl:∀(j:Nat) (f:Field) (n:Nat),fs[j]?=some f->Program.size? P f.type=some n->places j=some (f.offset,n)) :
  ∀{parts:List (Nat×Operand)} {ps:List (Nat×Nat×Opd)} {qs:List (Nat×AV)} {cells:Array Value} {zs:List AV},GK (RR P fs) parts=some ps->B6 fr zs.length ps=some qs->W5 E zs cells.toList->(∀u∈cells.toList,u.oneCell'=true) ->
   ∃us,Instr.fill places cells (parts.map λp=>(p.1,a.eval p.2))=some us/\W5 E (C9 zs qs) us.toList/\∀u∈us.toList,u.oneCell'=true
 | [],ps,qs,cells,zs,hp,hq,hz,h1=>by
  simp[GK]at hp;subst hp;simp[B6]at hq;subst hq;exact⟨cells,rfl,hz,h1⟩
 |(i,x)::parts,ps,qs,cells,zs,hp,hq,hz,h1=>by
  simp only[GK]at hp;split at hp
  .rename_i y ys hy Nc;cases hp;obtain⟨off,n,x'⟩:=y;unfold RR at hy;split at hy
   .rename_i f xx hfi vM;split at hy
    .rename_i n' hn';simp at hy;obtain⟨rfl,rfl,rfl⟩:=hy;simp only[B6]at hq;split at hq
     .rename_i hc;simp only[zf1z]at hq;obtain⟨qs',hqs',rfl⟩:=hq;obtain⟨g1,g2⟩:=IN (C4 hf vM) hc.1;have Y3:(a.eval x).cells.size=n':=by have:=EP g1;simp at this;omega
      have Ev:cells.size=zs.length:=by have:=EP hz;simpa using this
      have hstep:=VI (place:=places) (cells:=cells) (rest:=parts.map λp=>(p.1,a.eval p.2)) (hpl i f n' hfi hn') Y3 (by omega);have GJ:=Mm hz g1 f.offset;rw[show (a.eval x).cells.toList.length=n' from by simp[Y3]]at GJ;have J3:(Y0 zs f.offset (get fr xx).cells).length=zs.length:=by simp[Y0];omega
      obtain⟨us,k1,k2,k3⟩:=QE hf hpl (cells:=(cells.toList.take f.offset++(a.eval x).cells.toList++cells.toList.drop (f.offset+n')).toArray) (zs:=Y0 zs f.offset (get fr xx).cells) Nc (by rw[J3];exact hqs') (by simpa using GJ) (by
       intro u hu;simp only[zg2z]at hu;rcases hu with (hu|hu)|hu
       .exact h1 u (zg1z hu)
       .exact g2 u hu
       .exact h1 u (zg0z hu))
      refine⟨us,?_,?_,k3⟩
      .simp only[zt3z];rw[hstep];exact k1
      .simpa[C9]using k2
     .cases hq
    .cases hy
   .cases hy
  .cases hp
theorem ac{α β:Type}{f:α->Option β}:∀{l:List α} {r:List β},l.mapM f=some r->∀{j:Nat} {x:α},l[j]?=some x->∃y,f x=some y/\r[j]?=some y
 | [],r,_,j,x,hx=>by simp at hx
 |b::l,r,h,j,x,hx=>by
  simp only[List.mapM_cons,Option.bind_eq_bind,Option.pure_def,Option.bind_eq_some_iff]at h;obtain⟨y,hy,ys,Nc,hr⟩:=h;cases hr;cases j with
  |zero=>simp at hx;subst hx;exact⟨y,hy,rfl⟩
  |succ j=>simpa using ac Nc (j:=j) (x:=x) (by simpa using hx)
theorem xC{t:TypeId}{parts:Array (Nat×Operand)}{fs:Array Field}{zs:I7}{ps:List (Nat×Nat×Opd)}{qs:List (Nat×AV)}(hf:FR E fr a.tmps)(ho:o.op=.build t parts)(hu:P.underlying t=some (.struct fs))(hz:Program.zeroA P t=some (.agg zs))
  (hs:(fs.toList.mapM λf=>(P.info? f.type).map λi=>(f.offset,i.size)).isSome=true) (hp:GK (RR P fs) parts.toList=some ps) (hq:B6 fr zs.length ps=some qs):AE P a o E (.agg (C9 zs qs)):=by
 obtain⟨i,zv,h1,h2,h3,h4,h5⟩:=CH hz;obtain⟨places,hpl⟩:=Option.isSome_iff_exists.1 hs;obtain⟨g1,g2⟩:=IN (E:=E) (r9 _ _ (Aw h4)) h5;obtain⟨us,k1,k2,k3⟩:=QE (E:=E) (P:=P) hf (places:=λj=>places.toArray[j]?) (λj f n hj hn=>by
  obtain⟨y,hy,hy'⟩:=ac hpl (j:=j) (x:=f) (by simpa using hj);unfold Program.size? at hn;simp only[zf1z]at hn hy;obtain⟨i',Ai,rfl⟩:=hn;obtain⟨i'',hi'',rfl⟩:=hy;rw[Ai]at hi'';cases hi'';simpa using hy') hp hq g1 g2
 have hb:P.built t (parts.map λ(i,x)=>(i,a.eval x)).toList=some us:=by
  unfold Program.built;simp only[h1,hu,h2,hpl,Array.toList_map];exact k1
 refine⟨.agg us,?_,?_⟩
 .simp only[execOp,ho,Sem.run_bind,run_build E.w t _ us hb,Result.andThen_ok,Sem.run_pure]
 .simp only[VR];exact⟨us,rfl,k3,k2⟩
def Ee(E:Env)(us:List Value)(xs:List AV)(sz:Nat):Prop :=
 ∀(i:Nat) (x:AV),xs[i]?=some x->x.cells.length=sz/\∀(c:Nat) (y:AV),x.cells[c]?=some y->∃v,us[i*sz+c]?=some v/\v.oneCell'=true/\PV E.w E.ok y v
theorem UP(z:Array Value)(n:Nat)(i c:Nat)(hc:c<z.size)(hi:i<n):(madeCells z (n*z.size))[i*z.size+c]?=some z[c]:=by
 have G9:=BM hi hc;unfold madeCells;rw[zg7z,zg6z,if_pos G9];have:(i*z.size+c) % z.size=c:=by rw[Nat.add_comm,Nat.mul_comm,Nat.add_mul_mod_self_left,Nat.mod_eq_of_lt hc]
 simp[this,getElem!_pos,hc]
theorem Jx{t:TypeId}{z:AV}(hz:Program.zeroA P t=some z){n:Nat}{i:TypeInfo}(hi:P.info? t=some i)(Z6:0<i.size):∃zv,i.zero=some zv/\z.cells.length=i.size/\zv.cells.size=i.size/\Ee E (madeCells zv.cells (n*i.size)).toList (zt2z n z) i.size/\∀u∈(madeCells zv.cells (n*i.size)).toList,u.oneCell'=true:=by
 obtain⟨i',zv,h1,h2,h3,h4,h5⟩:=CH hz;rw[hi]at h1;cases h1;have hpv:=Aw (w:=E.w) (ok:=E.ok) h4;obtain⟨g1,g2⟩:=Ky hpv h5;obtain⟨gl,gg⟩:=Eu g1;have hl:z.cells.length=i.size:=by simp at gl;omega
 refine⟨zv,h2,hl,h3,λj x hx=>?_,λu hu=>?_⟩
 .rw[List.getElem?_replicate]at hx;split at hx
  .rename_i hj;cases hx;refine⟨hl,λc y hy=>?_⟩;have hc:c<zv.cells.size:=by have:=(zf0z.1 hy).1;omega
   obtain⟨v,v1,v2⟩:=gg hy;have:=UP zv.cells n j c hc hj;rw[h3]at this;refine⟨zv.cells[c],by rw[zf8z];exact this,g2 _ (by simp),?_⟩;have e:v=zv.cells[c]:=by
    rw[zf8z,Array.getElem?_eq_getElem hc]at v1;simpa using v1.symm
   rw[←e];exact v2
  .cases hx
 .obtain⟨j,hj⟩:=List.getElem?_of_mem hu;rw[zf8z]at hj;unfold madeCells at hj;rw[zg7z,zg6z]at hj;split at hj
  .simp at hj;have hm:j % zv.cells.size<zv.cells.size:=Nat.mod_lt _ (by omega);rw[getElem!_pos zv.cells _ hm]at hj;subst hj;exact g2 _ (by simp)
  .simp at hj
theorem eU(hS:SR E){x y:AV}{v:Value}(hv:VR E x v)(h:(frz E.h false x).or (OD E.h x)=some y):PV E.w E.ok y v/\y.isTup=false:=by
 cases he:frz E.h false x with
 |some z =>
  rw[he]at h;cases h;obtain⟨h1,h2⟩:=GH hS (am:=false) (ok':=E.ok) ⟨λ_ _ h=>h,λh=>by cases h⟩ hv he;exact⟨h1,h2⟩
 |none =>
  rw[he,Option.none_or]at h;unfold OD at h;split at h
  .rename_i cs;cases h;simp only[VR]at hv;obtain⟨us,rfl,h1,hu⟩:=hv;obtain⟨hl,hg⟩:=Bi hu;refine⟨?_,rfl⟩;simp only[PV];refine⟨us,rfl,h1,Rb (by rw[hl,List.length_map]) λj c u hc' hu'=>?_⟩;rw[List.getElem?_map,zf1z]at hc';obtain⟨c0,hc0,rfl⟩:=hc';obtain⟨u',h3,h4⟩:=hg hc0;have:u'=u:=by rw[hu']at h3;simpa using h3.symm
   subst this;cases hz:Bo E.h false c0 with
   |some z=>exact(Mw hS ⟨λ_ _ h=>h,λh=>by cases h⟩ h4 hz).1
   |none =>
    simp only[Option.getD_none,PV];exact h1 _ (zg3z hu')
  .cases h
theorem Qb(hS:SR E)(hf:FR E fr a.tmps){sz:Nat}(Z6:0<sz) :
  ∀{parts:List (Nat×Operand)} {ps:List (Nat×Opd)} {xs ys:List AV} {cells:Array Value},GK RP parts=some ps->B2 fr E.h xs ps=some ys->Ee E cells.toList xs sz->cells.size=xs.length*sz->(∀u∈cells.toList,u.oneCell'=true) ->
   ∃us,Instr.fill (λi=>some (i*sz,sz)) cells (parts.map λp=>(p.1,a.eval p.2))=some us/\Ee E us.toList ys sz/\us.size=ys.length*sz/\ys.length=xs.length
 | [],ps,xs,ys,cells,hp,hq,hr,hs,_=>by
  simp[GK]at hp;subst hp;simp[B2]at hq;subst hq;exact⟨cells,rfl,hr,hs,rfl⟩
 |(i,x)::parts,ps,xs,ys,cells,hp,hq,hr,hs,h1=>by
  simp only[GK]at hp;split at hp
  .rename_i y yr hy hyr;cases hp;unfold RP at hy;simp only[zf1z]at hy;obtain⟨x',hx',rfl⟩:=hy;simp only[B2]at hq;split at hq
   .rename_i z y hz hyy;split at hq
    .rename_i hc;obtain⟨hPu,hut⟩:=eU hS (C4 hf hx') hyy;obtain⟨g1,g2⟩:=Ky hPu hut;obtain⟨gl,gg⟩:=Eu g1;obtain⟨r1,r2⟩:=hr i z hz;have hi:i<xs.length:=(zf0z.1 hz).1;have Y3:(a.eval x).cells.size=sz:=by simp at gl;omega
     have V6:i*sz+sz<=cells.size:=by
      have:(i+1)*sz<=xs.length*sz:=zf4z _ hi;rw[zg4z]at this;omega
     have hstep:=VI (place:=λi=>some (i*sz,sz)) (cells:=cells) (i:=i) (rest:=parts.map λp=>(p.1,a.eval p.2)) rfl Y3 V6;have hget:=λj=>EI (l:=cells.toList) (off:=i*sz) (vs:=(a.eval x).cells.toList) (by simp;omega) j;simp only[zf5z,Y3]at hget;obtain⟨us,k1,k2,k3,k4⟩:=Qb hS hf Z6 (parts:=parts) (xs:=xs.set i y) (cells:=(cells.toList.take (i*sz)++(a.eval x).cells.toList++cells.toList.drop (i*sz+sz)).toArray) hyr hq (λj w hw=>by
      by_cases hij:i=j
      .subst hij;rw[zf6z hi]at hw;cases hw;refine⟨by omega,λc q hq'=>?_⟩;obtain⟨v,v1,v2⟩:=gg hq';have o9:c<sz:=by have:=(zf0z.1 hq').1;omega
       refine⟨v,?_,g2 v (zg3z v1),v2⟩;show (zt6z _ _++_++zt5z _ _)[_]?=some v;rw[hget,if_neg (by omega),if_pos (by omega),show i*sz+c-i*sz=c from by omega];exact v1
      .rw[zf9z hij]at hw;obtain⟨s1,s2⟩:=hr j w hw;refine⟨s1,λc q hq'=>?_⟩;obtain⟨v,v1,v2,v3⟩:=s2 c q hq';refine⟨v,?_,v2,v3⟩;have o9:c<sz:=by have:=(zf0z.1 hq').1;omega
       show (zt6z _ _++_++zt5z _ _)[_]?=some v;rw[hget];rcases zg8z (show j≠i from λe=>hij e.symm)with G9|hgt
       .have:=BM G9 o9;rw[if_pos this];exact v1
       .have h3:(i+1)*sz<=j*sz:=zf4z _ hgt;rw[zg4z]at h3;rw[if_neg (by omega),if_neg (by omega)];exact v1) (by
       simp only[List.size_toArray,zg5z,zt1z,List.length_drop,zf5z,Y3,List.length_set];omega) (by
       intro u hu;simp only[zg2z]at hu;rcases hu with (hu|hu)|hu
       .exact h1 u (zg1z hu)
       .exact g2 u hu
       .exact h1 u (zg0z hu))
     exact⟨us,by simp only[zt3z];rw[hstep];exact k1,k2,k3,by simpa using k4⟩
    .cases hq
   .cases hq
  .cases hp
theorem aG(hS:SR E){us:Array Value}{e:TypeId}{xs:I7}{sz:Nat}(Z6:0<sz)(hr:Ee E us.toList xs sz)(hm:xs.length<=maxLen) :
  PV (E.w.alloc (.cells us e)) ({E with w:=E.w.alloc (.cells us e)}:Env).ok (.vs true sz xs) (.slice (some ⟨E.w.heap.size,0,none⟩) xs.length xs.length):=by
 have hb:Bl E.w.heap.size E.w (E.w.alloc (.cells us e)):=⟨(Below.refl _ _).alloc (zf7z _) _,λ_=>zf7z _⟩;have hx:=AJ hS hb;simp only[PV];refine⟨_,_,_,rfl,rfl,zf7z _,hm,λ_=>rfl,⟨(λh=>nomatch h),⟨(λh=>nomatch h),λe=>absurd Z6 (by omega)⟩⟩,λ_=>⟨_,_,rfl,Z6,Nk λj x hj=>?_⟩⟩;obtain⟨r1,r2⟩:=hr j x hj;refine⟨r1,IC λc y hc=>?_⟩;obtain⟨v,v1,v2,v3⟩:=r2 c y hc;refine⟨v,?_,?_,v2,x7 hx.cells _ _ v3⟩
 .refine .inr ⟨hS.basele,by simp,λi hi=>?_,λk f hk he=>?_⟩
  .have:=(hS.nb_lt hi).2;intro e;have e':E.nb i=E.w.heap.size:=e;omega
  .have:=(hS.im_lt (zf0z.1 hk).1).2;have he':(E.im k).b=E.w.heap.size:=he;omega
 .rw[Nat.zero_add,cell_of_row _ _ _ _ _ _ (heap_alloc_new _ _)];simpa using v1
theorem ow{t e:TypeId}{len:Nat}{parts:Array (Nat×Operand)}{z:AV}{n:Nat}{ps:List (Nat×Opd)}{xs:I7}(hS:SR E)(hf:FR E fr a.tmps)(ho:o.op=.buildSlice t len parts)(hu:P.underlying t=some (.slice e))(hz:Program.zeroA P e=some z)(hn:Program.size? P e=some n)
  (Z6:0<n) (hlim:len*n<=2 ^ 24) (hp:GK RP parts.toList=some ps) (hq:B2 fr E.h (zt2z len z) ps=some xs):Ed P a o E (.vs true z.cells.length xs) E.h:=by
 have hn':=hn;unfold Program.size? at hn';simp only[zf1z]at hn';obtain⟨i,hi,rfl⟩:=hn';obtain⟨zv,h2,hl,h3,hr,h1⟩:=Jx (E:=E) hz (n:=len) hi Z6;obtain⟨us,k1,k2,k3,k4⟩:=Qb hS hf Z6 hp hq hr (by simp[madeCells]) h1;have J3:xs.length=len:=by simpa using k4
 have hmax:xs.length<=maxLen:=by
  have:len*1<=len*i.size:=Nat.mul_le_mul_left _ Z6;rw[J3];unfold maxLen;omega
 have hpv:=aG (e:=e) hS Z6 k2 hmax;have hb:Bl E.w.heap.size E.w (E.w.alloc (.cells us e)):=⟨(Below.refl _ _).alloc (zf7z _) _,λ_=>zf7z _⟩;rw[hl];refine⟨_,.slice (some ⟨E.w.heap.size,0,none⟩) xs.length xs.length,{E with w:=E.w.alloc (.cells us e)},?_,.inl rfl,AJ hS hb,Cm hS hb,rfl,?_⟩
 .have Ma:(sizeOf e).run P E.w=.ok i.size E.w:=DO hn _;by_cases h0:len*i.size=0
  .have hc0:madeCells zv.cells (len*i.size)=#[]:=by simp[h0,madeCells]
   rw[hc0]at k1;simp[execOp,ho,Instr.buildSlice,M8 hu,Ma,h0,newRow,J3,Array.range_zero',k1]
  .simp[execOp,ho,Instr.buildSlice,M8 hu,Ma,h0,show ¬(16777216<len*i.size) from by omega,zeroValue,typeInfo,hi,h2,newRow,J3];unfold madeCells at k1;simp[k1]
 .simp only[VR];exact hpv
end
end Go.Abs
