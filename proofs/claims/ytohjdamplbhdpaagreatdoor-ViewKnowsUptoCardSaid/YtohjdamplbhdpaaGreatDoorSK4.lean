/- A part of the proof. -/
import Derived.Test.YtohjdamplbhdpaaGreatDoorSK3
set_option linter.all false
open List renaming getElem?_eq_some_iff->A0A,getElem?_append_left->A0B,getElem?_append_right->A0C,eq_nil_of_length_eq_zero->A0E,replicate->A0G,getElem?_eq_getElem->A0H,getElem?_drop->A0L,getElem?_take->A0M,mem_of_mem_drop->A0O,mem_of_mem_take->A0P,length_append->A0R,getElem?_replicate->A0S,mem_append->A0T,getElem?_set_self->A0U,getElem?_eq_none->A0V,getElem?_toArray->A0W,getElem?_set_ne->A0Y,mem_of_getElem?->A0Z,map_cons->A0a,getElem?_range->A0b,append_assoc->A0h,getElem?_map->A0i,size_toArray->A0j,length_cons->A0k,drop->A0n,take->A0o
open Nat renaming mul_le_mul_right->A0D,add_mul->A0K,le_refl->A0N,succ_mul->A0Q,add_zero->A0d,eq_zero_or_pos->A0e,lt_or_gt_of_ne->A0f,mul_comm->A0g,zero_le->A0l,mod_lt->A0m
open Array renaming getElem?_toList->A0F,length_toList->A0I,getElem?_range->A0X,getElem?_map->A0c
open Option renaming map_eq_some_iff->A0J
namespace Go.Abs
open Go.RowKit (Below)
section
variable {E:Env} {P:Program} {fr:Fr} {a:Act} {o:Oper}
def NS (P:Program) (a:Act) (o:Oper) (E:Env) (v:AV) (h':AH):Prop :=
 ∃nx u E',(execOp a.eval o).run P E.w=.ok nx E'.w/\(nx=.value u\/(nx=.skip/\u=undef))/\Ext E E'/\SR E'/\E'.h=h'/\VR E' v u
theorem Ch.does {v:AV} (hS:SR E) (h:Ch P a o E v):NS P a o E v E.h:=by
 obtain⟨u,h1,h2⟩:=h;exact⟨_,u,E,h1,.inl rfl,Ext.refl E,hS,rfl,h2⟩
theorem JT {cs:G1} {us:List Value} (h:Au E cs us):us.length=cs.length:=(Gw h).1
theorem QY {aas bs:G1} {us vs:List Value} (h1:Au E aas us) (h2:Au E bs vs):Au E (aas++bs) (us++vs):=by
 refine SI (by simp[JT h1,JT h2]) λj c u hc hu=>?_;have e:=JT h1;by_cases hj:j<aas.length
 .rw[A0B hj]at hc;rw[A0B (by omega)]at hu;obtain⟨u',h3,h4⟩:=(Gw h1).2 hc;rw[h3]at hu;cases hu;exact h4
 .rw[A0C (by omega)]at hc;rw[A0C (by omega),e]at hu;obtain⟨u',h3,h4⟩:=(Gw h2).2 hc;rw[h3]at hu;cases hu;exact h4
theorem ju {aas:G1} {us:List Value} (h:Au E aas us) (n:Nat):Au E (aas.take n) (us.take n):=by
 refine SI (by simp[JT h]) λj c u hc hu=>?_;rw[A0M]at hc hu;split at hc
 .rename_i hj;rw[if_pos hj]at hu;obtain⟨u',h3,h4⟩:=(Gw h).2 hc;rw[h3]at hu;cases hu;exact h4
 .cases hc
theorem jt {aas:G1} {us:List Value} (h:Au E aas us) (n:Nat):Au E (aas.drop n) (us.drop n):=by
 refine SI (by simp[JT h]) λj c u hc hu=>?_;rw[A0L]at hc hu;obtain⟨u',h3,h4⟩:=(Gw h).2 hc;rw[h3]at hu;cases hu;exact h4
theorem Tz {cs ds:G1} {us vs:List Value} (h1:Au E cs us) (h2:Au E ds vs) (off:Nat):Au E (L9 cs off ds) (us.take off++vs++us.drop (off+vs.length)):=by
 unfold L9;rw[JT h2];exact QY (QY (ju h1 _) h2) (jt h1 _)
theorem Od {w:World} {ok:Nat->Nat->Prop} {x:AV} {v:Value} (h:PV w ok x v) (ht:x.isTup=false):Cg w ok x.cells v.cells.toList/\∀u∈v.cells.toList,u.oneCell'=true:=by
 cases x<;>simp only[PV]at h
 case tup=>simp[AV.isTup]at ht
 case agg cs=>obtain⟨us,rfl,h1,h2⟩:=h;exact⟨h2,h1⟩
 case junk =>
  have hc:v.cells=#[v]:=by cases v<;>simp_all [Value.oneCell',Value.cells]
  rw[hc];exact⟨by simp[AV.cells,Cg,PV,h],by simpa using h⟩
 case vs=>obtain⟨ad,len,cap,rfl,h'⟩:=h;exact⟨by simp only[AV.cells,Value.cells,Cg,PV];exact⟨_,_,rfl,⟨_,_,_,rfl,h'⟩,rfl⟩,by simp[Value.cells,Value.oneCell']⟩
 case pv=>obtain⟨b,q,rfl,h'⟩:=h;exact⟨by simp only[AV.cells,Value.cells,Cg,PV];exact⟨_,_,rfl,⟨_,_,rfl,h'⟩,rfl⟩,by simp[Value.cells,Value.oneCell']⟩
 case fn=>obtain⟨us,rfl,h'⟩:=h;exact⟨by simp only[AV.cells,Value.cells,Cg,PV];exact⟨_,_,rfl,⟨_,rfl,h'⟩,rfl⟩,by simp[Value.cells,Value.oneCell']⟩
 case vm=>obtain⟨b,es,clk,rfl,h1,h2,h3,h4⟩:=h;exact⟨by simp only[AV.cells,Value.cells,Cg];exact⟨_,_,rfl,by simp only[PV];exact⟨b,es,clk,rfl,h1,h2,h3,h4⟩,rfl⟩,by simp[Value.cells,Value.oneCell']⟩
 all_goals (subst h;exact⟨by simp[AV.cells,Value.cells,Cg,PV],by simp[Value.cells,Value.oneCell']⟩)
theorem HX {t:TypeId} {z:AV} (h:Program.zeroA P t=some z):∃i zv,P.info? t=some i/\i.zero=some zv/\zv.cells.size=i.size/\Pl zv=some z/\z.isTup=false:=by
 unfold Program.zeroA at h;split at h
 .rename_i i hi;split at h
  .rename_i zv hz;split at h
   .rename_i x hx;split at h
    .rename_i hc;cases h;exact⟨i,zv,hi,hz,hc.1,hx,hc.2⟩
    .cases h
   .cases h
  .cases h
 .cases h
theorem ue {t:TypeId} {x:Operand} {x':Opd} (hS:SR E) (hf:FR E fr a.tmps) (ho:o.op=.box t x) (hx:D3 x=some x') (ht:(get fr x').isTup=false) :
  NS P a o E (.ptr E.h.boxes.length 0) {E.h with boxes:=E.h.boxes++[(get fr x').cells]}:=by
 obtain⟨h1,h2⟩:=Og (D4 hf hx) ht;refine⟨_,.pointer (some ⟨E.w.heap.size,0,none⟩),E.newBox (a.eval x).cells t (get fr x').cells,?_,.inl rfl,Qn hS _ _ _,Wf hS h1 h2,rfl,?_⟩
 .simp only[execOp,ho,Instr.box,newVar,newRow,Sem.run_bind,run_newObj,Result.andThen_ok,Sem.run_pure,World.alloc_eq,Env.newBox]
 .simp only[VR,Env.newBox,j5];exact⟨by simp,trivial⟩
theorem nU {t:TypeId} {z:AV} (hS:SR E) (ho:o.op=.alloc t) (hz:Program.zeroA P t=some z) :
  NS P a o E (.ptr E.h.boxes.length 0) {E.h with boxes:=E.h.boxes++[z.cells]}:=by
 obtain⟨i,zv,h1,h2,h3,h4,h5⟩:=HX hz;obtain⟨h6,h7⟩:=Og (E:=E) (Du _ _ (EN h4)) h5;refine⟨_,.pointer (some ⟨E.w.heap.size,0,none⟩),E.newBox zv.cells t z.cells,?_,.inl rfl,Qn hS _ _ _,Wf hS h6 h7,rfl,?_⟩
 .simp only[execOp,ho,Instr.alloc,newVar,newRow,zeroValue,typeInfo,run_program,Sem.run_bind,h1,h2,run_newObj,Result.andThen_ok,Sem.run_pure,World.alloc_eq,Env.newBox]
 .simp only[VR,Env.newBox,j5];exact⟨by simp,trivial⟩
theorem Rp {t:TypeId} {b q:Nat} {v:Value} {cur:Array Value} {t':TypeId} {w:World} {n:Nat} (hn:Program.size? P t=some n) (hg:w.heap[b]?=some (.cells cur t' (0,0))) (hv:v.cells.size=n) (Cl:q+n<=cur.size)
  (h1:∀u∈v.cells.toList,u.oneCell'=true) :
  (storeVar t ⟨b,q,none⟩ v).run P w=.ok () (w.setRow b (cur.toList.take q++v.cells.toList++cur.toList.drop (q+n)).toArray):=by
 have Gx:=run_storeCells_at P b q t' v.cells.toList 0 cur w hg (by simp;omega) h1;simp only[A0d,A0I,hv]at Gx;unfold storeVar;simp[Gj hn,hv,Gx]
theorem kJ {t:TypeId} {x y:Operand} {x' y':Opd} {n b off:Nat} {cs:G1} (hS:SR E) (hf:FR E fr a.tmps) (ho:o.op=.store t x y) (hn:Program.size? P t=some n) (hx:D3 x=some x') (hy:D3 y=some y')
  (hg:get fr x'=.ptr b off) (KE:E.h.boxes[b]?=some cs) (hmb:EA cs=false) (ht:(get fr y').isTup=false) (hl:(get fr y').cells.length=n) (Cl:off+n<=cs.length) :
  NS P a o E C3 {E.h with boxes:=E.h.boxes.set b (L9 cs off (get fr y').cells)}:=by
 have hv:=D4 hf hx;rw[hg]at hv;simp only[VR]at hv;obtain⟨hb,e⟩:=hv;obtain⟨h1,h2⟩:=Og (D4 hf hy) ht;have hb1:=(hS.boxes b cs KE).1;obtain⟨cur,t',hc1,hc2,hc3⟩:=(hS.boxes b cs KE).row hmb;have I9:(a.eval y).cells.size=n:=by have:=JT h1;simp at this;omega
 have GF:cur.size=cs.length:=by have:=JT hc2;simpa using this
 have hrun:=Rp (P:=P) (q:=off) hn hc1 I9 (by omega) h2;have OX:=Tz hc2 h1 off;rw[show (a.eval y).cells.toList.length=n from by simp[I9]]at OX;refine⟨_,undef,E.setBox b (cur.toList.take off++(a.eval y).cells.toList++cur.toList.drop (off+n)).toArray (L9 cs off (get fr y').cells),?_,.inr ⟨rfl,rfl⟩,VO hS hb KE hmb _ _,jU hS KE hmb OX ?_,rfl,Dv _⟩
 .simp only[execOp,ho,Instr.storeAt,e,Instr.sureAddr,Sem.run_bind,Sem.run_pure,Result.andThen_ok,hrun];rfl
 .intro u hu;simp only[A0T]at hu;rcases hu with (hu|hu)|hu
  .exact hc3 u (A0P hu)
  .exact h2 u hu
  .exact hc3 u (A0O hu)
theorem JD {α:Type} {l:List α} {off:Nat} {vs:List α} (Cl:off+vs.length<=l.length) (j:Nat) :
  (l.take off++vs++l.drop (off+vs.length))[j]?=if j<off then l[j]? else if j<off+vs.length then vs[j-off]? else l[j]?:=by
 have hl:(l.take off).length=off:=by simp;omega
 by_cases h1:j<off
 .rw[if_pos h1,A0h,A0B (by omega),A0M,if_pos h1]
 .rw[if_neg h1];by_cases h2:j<off+vs.length
  .rw[if_pos h2,A0h,A0C (by omega),hl,A0B (by omega)]
  .rw[if_neg h2,A0C (by simp;omega),A0L];congr 1;simp;omega
theorem kK {t:TypeId} {x y:Operand} {x' y':Opd} {n k m i c sz:Nat} {f:Fam} {el u z:AV} (hS:SR E) (hf:FR E fr a.tmps) (ho:o.op=.store t x y) (hn:Program.size? P t=some n) (hx:D3 x=some x') (hy:D3 y=some y')
  (hg:get fr x'=.ep k m i c sz) (hfk:E.h.fams[k]?=some f) (hm:f.xs.length=m) (hmz:f.sz=sz) (hw:f.wr=true) (Rw:f.xs[i]?=some el) (hu:JW E.h false (get fr y')=some u)
  (hl:u.cells.length=n) (Cl:c+n<=el.cells.length) (hzc:z.cells=L9 el.cells c u.cells) :
  NS P a o E C3 {E.h with fams:=E.h.fams.set k {f with xs:=f.xs.set i z}}:=by
 have hv:=D4 hf hx;rw[hg]at hv;simp only[VR]at hv;obtain⟨b0,o0,f',e,hfk',_,had⟩:=hv;have:f'=f:=by rw[hfk]at hfk';simpa using hfk'.symm
 subst this;obtain⟨Ql,hbo⟩:=had ⟨hm,hmz⟩;rw[hbo]at e;have hF:=hS.fams k f' hfk;obtain⟨cur,t',c1,c2,c3⟩:=hF.cells;obtain⟨e1,e2⟩:=c3 i el Ql Rw;obtain⟨hPu,hut⟩:=Ks hS (am:=false) (ok':=E.ok) ⟨λ_ _ h=>h,λh=>by cases h⟩ (D4 hf hy) hu;obtain⟨h1,h2⟩:=Od hPu hut;obtain⟨hul,hug⟩:=Hk h1;have I9:(a.eval y).cells.size=n:=by simp at hul;omega
 have hi:i<f'.xs.length:=(A0A.1 Rw).1;have AY:=hF.room;have K1:(E.im k).o+(i-(E.im k).lo)*f'.sz+f'.sz<=cur.size:=by
  have h3:(i-(E.im k).lo+1)*f'.sz<=(E.im k).cap*f'.sz:=A0D _ (by omega);rw[A0Q]at h3;omega
 have hrun:=Rp (P:=P) (q:=(E.im k).o+(i-(E.im k).lo)*f'.sz+c) hn c1 I9 (by omega) h2;obtain⟨us,TU⟩:∃us:Array Value,us=(cur.toList.take ((E.im k).o+(i-(E.im k).lo)*f'.sz+c)++(a.eval y).cells.toList++cur.toList.drop ((E.im k).o+(i-(E.im k).lo)*f'.sz+c+n)).toArray:=⟨_,rfl⟩;rw[←TU]at hrun;have hget:∀j:Nat,us[j]?=if j<(E.im k).o+(i-(E.im k).lo)*f'.sz+c then cur[j]? else if j<(E.im k).o+(i-(E.im k).lo)*f'.sz+c+n then (a.eval y).cells[j-((E.im k).o+(i-(E.im k).lo)*f'.sz+c)]? else cur[j]?:=by
  intro j;have:=JD (l:=cur.toList) (off:=(E.im k).o+(i-(E.im k).lo)*f'.sz+c) (vs:=(a.eval y).cells.toList) (by simp;omega) j;simp only[A0I,I9,A0F]at this;rw[TU,A0W,this]
 have hussz:us.size=cur.size:=by rw[TU];simp;omega
 refine⟨_,undef,E.setFam k us {f' with xs:=f'.xs.set i z},?_,.inr ⟨rfl,rfl⟩,
  JA hS hfk c1 rfl rfl (by simp) (λh=>by rw[hw]at h;cases h),NM hS hfk c1 rfl rfl (by simp) (λh=>by rw[hw]at h;cases h) (by simpa using AY) hussz ?_,rfl,Dv _⟩
 .simp only[execOp,ho,Instr.storeAt,e,Instr.sureAddr,Sem.run_bind,Sem.run_pure,Result.andThen_ok,hrun];rfl
 .intro j x' hj hx';have hx'':(f'.xs.set i z)[j]?=some x':=hx';by_cases hij:i=j
  .subst hij;rw[A0U hi]at hx'';cases hx'';refine⟨by rw[hzc];simp[L9];omega,λq y' hq=>?_⟩;rw[hzc]at hq;unfold L9 at hq;rw[JD (by omega)]at hq;have hq':q<f'.sz:=by
    rcases Nat.lt_or_ge q f'.sz with h|h
    .exact h
    .rw[if_neg (by omega),if_neg (by omega),A0V (by omega)]at hq;cases hq
   rw[hget];by_cases hqc:q<c
   .rw[if_pos hqc]at hq;rw[if_pos (by omega)];obtain⟨v,v1,v2,v3⟩:=e2 q y' hq;exact⟨v,by simpa using v1,v2,v3⟩
   .rw[if_neg hqc]at hq;by_cases hqn:q<c+u.cells.length
    .rw[if_pos hqn]at hq;rw[if_neg (by omega),if_pos (by omega)];obtain⟨v,v1,v2⟩:=hug hq;refine⟨v,?_,h2 v (A0Z v1),v2⟩;rw[show (E.im k).o+(i-(E.im k).lo)*f'.sz+q-((E.im k).o+(i-(E.im k).lo)*f'.sz+c)=q-c from by omega];simpa using v1
    .rw[if_neg hqn]at hq;rw[if_neg (by omega),if_neg (by omega)];obtain⟨v,v1,v2,v3⟩:=e2 q y' hq;exact⟨v,by simpa using v1,v2,v3⟩
  .rw[A0Y hij]at hx'';obtain⟨g1,g2⟩:=c3 j x' hj hx'';refine⟨g1,λq y' hq=>?_⟩;obtain⟨v,v1,v2,v3⟩:=g2 q y' hq;refine⟨v,?_,v2,v3⟩;have hqs:q<f'.sz:=by have:=(A0A.1 hq).1;omega
   rw[hget];rcases A0f (show j≠i from λe=>hij e.symm)with A7|hgt
   .have h3:(j-(E.im k).lo+1)*f'.sz<=(i-(E.im k).lo)*f'.sz:=A0D _ (by omega);rw[A0Q]at h3;rw[if_pos (by omega)];simpa using v1
   .have h3:(i-(E.im k).lo+1)*f'.sz<=(j-(E.im k).lo)*f'.sz:=A0D _ (by omega);rw[A0Q]at h3;rw[if_neg (by omega),if_neg (by omega)];simpa using v1
end
section
variable {E:Env} {P:Program} {fr:Fr} {a:Act} {o:Oper}
theorem Zd (off:Nat):∀(l:List Value) (k:Nat) (cells:Array Value),off+k+l.length<=cells.size ->
  ((l.zipIdx k).foldl (λcs (x:Value×Nat)=>cs.setIfInBounds (off+x.2) x.1) cells).toList=cells.toList.take (off+k)++l++cells.toList.drop (off+k+l.length)
 | [],k,cells,_=>by simp
 |v::l,k,cells,h=>by
  simp only[A0k]at h;simp only[List.zipIdx_cons,List.foldl_cons];rw[Zd off l (k+1) _ (by simp;omega)];have:=list_seg_step cells.toList (off+k) v l (by simp;omega);simp only[Array.toList_setIfInBounds,A0k];rw[show off+(k+1)=off+k+1 from by omega];exact this
theorem WM {place:Nat->Option (Nat×Nat)} {cells:Array Value} {i off size:Nat} {v:Value} {rest:List (Nat×Value)} (hp:place i=some (off,size)) (hs:v.cells.size=size) (Cl:off+size<=cells.size) :
  Instr.fill place cells ((i,v)::rest)=Instr.fill place (cells.toList.take off++v.cells.toList++cells.toList.drop (off+size)).toArray rest:=by
 have h:=Zd off v.cells.toList 0 cells (by simp;omega);simp only[A0d,A0I,hs]at h;have h2:(v.cells.zipIdx.foldl (λcs (x:Value×Nat)=>cs.setIfInBounds (off+x.2) x.1) cells)=(cells.toList.take off++v.cells.toList++cells.toList.drop (off+size)).toArray:=by
  apply Array.ext';rw[←h,←Array.foldl_toList];simp
 simp only[Instr.fill,hp,hs];rw[if_neg (by simp;omega)];exact congrArg (λc=>Instr.fill place c rest) h2
theorem Sq (hf:FR E fr a.tmps) {fs:Array Field} {places:Nat->Option (Nat×Nat)} (hpl:∀(j:Nat) (f:Field) (n:Nat),fs[j]?=some f->Program.size? P f.type=some n->places j=some (f.offset,n)) :
  ∀{parts:List (Nat×Operand)} {ps:List (Nat×Nat×Opd)} {qs:List (Nat×AV)} {cells:Array Value} {zs:List AV},It (Tq P fs) parts=some ps->D2 fr zs.length ps=some qs->Au E zs cells.toList->(∀u∈cells.toList,u.oneCell'=true) ->
   ∃us,Instr.fill places cells (parts.map λp=>(p.1,a.eval p.2))=some us/\Au E (E7 zs qs) us.toList/\∀u∈us.toList,u.oneCell'=true
 | [],ps,qs,cells,zs,hp,hq,hz,h1=>by
  simp[It]at hp;subst hp;simp[D2]at hq;subst hq;exact⟨cells,rfl,hz,h1⟩
 |(i,x)::parts,ps,qs,cells,zs,hp,hq,hz,h1=>by
  simp only[It]at hp;split at hp
  .rename_i y ys hy Ti;cases hp;obtain⟨off,n,x'⟩:=y;unfold Tq at hy;split at hy
   .rename_i f xx hfi je;split at hy
    .rename_i n' hn';simp at hy;obtain⟨rfl,rfl,rfl⟩:=hy;simp only[D2]at hq;split at hq
     .rename_i hc;simp only[A0J]at hq;obtain⟨qs',hqs',rfl⟩:=hq;obtain⟨g1,g2⟩:=Og (D4 hf je) hc.1;have I9:(a.eval x).cells.size=n':=by have:=JT g1;simp at this;omega
      have GF:cells.size=zs.length:=by have:=JT hz;simpa using this
      have hstep:=WM (place:=places) (cells:=cells) (rest:=parts.map λp=>(p.1,a.eval p.2)) (hpl i f n' hfi hn') I9 (by omega);have OX:=Tz hz g1 f.offset;rw[show (a.eval x).cells.toList.length=n' from by simp[I9]]at OX;have B8:(L9 zs f.offset (get fr xx).cells).length=zs.length:=by simp[L9];omega
      obtain⟨us,k1,k2,k3⟩:=Sq hf hpl (cells:=(cells.toList.take f.offset++(a.eval x).cells.toList++cells.toList.drop (f.offset+n')).toArray) (zs:=L9 zs f.offset (get fr xx).cells) Ti (by rw[B8];exact hqs') (by simpa using OX) (by
       intro u hu;simp only[A0T]at hu;rcases hu with (hu|hu)|hu
       .exact h1 u (A0P hu)
       .exact g2 u hu
       .exact h1 u (A0O hu))
      refine⟨us,?_,?_,k3⟩
      .simp only[A0a];rw[hstep];exact k1
      .simpa[E7]using k2
     .cases hq
    .cases hy
   .cases hy
  .cases hp
theorem aK {α β:Type} {f:α->Option β}:∀{l:List α} {r:List β},l.mapM f=some r->∀{j:Nat} {x:α},l[j]?=some x->∃y,f x=some y/\r[j]?=some y
 | [],r,_,j,x,hx=>by simp at hx
 |b::l,r,h,j,x,hx=>by
  simp only[List.mapM_cons,Option.bind_eq_bind,Option.pure_def,Option.bind_eq_some_iff]at h;obtain⟨y,hy,ys,Ti,hr⟩:=h;cases hr;cases j with
  |zero=>simp at hx;subst hx;exact⟨y,hy,rfl⟩
  |succ j=>simpa using aK Ti (j:=j) (x:=x) (by simpa using hx)
theorem pf {t:TypeId} {parts:Array (Nat×Operand)} {fs:Array Field} {zs:G1} {ps:List (Nat×Nat×Opd)} {qs:List (Nat×AV)} (hf:FR E fr a.tmps) (ho:o.op=.build t parts) (hu:P.underlying t=some (.struct fs)) (hz:Program.zeroA P t=some (.agg zs))
  (hs:(fs.toList.mapM λf=>(P.info? f.type).map λi=>(f.offset,i.size)).isSome=true) (hp:It (Tq P fs) parts.toList=some ps) (hq:D2 fr zs.length ps=some qs):Ch P a o E (.agg (E7 zs qs)):=by
 obtain⟨i,zv,h1,h2,h3,h4,h5⟩:=HX hz;obtain⟨places,hpl⟩:=Option.isSome_iff_exists.1 hs;obtain⟨g1,g2⟩:=Og (E:=E) (Du _ _ (EN h4)) h5;obtain⟨us,k1,k2,k3⟩:=Sq (E:=E) (P:=P) hf (places:=λj=>places.toArray[j]?) (λj f n hj hn=>by
  obtain⟨y,hy,hy'⟩:=aK hpl (j:=j) (x:=f) (by simpa using hj);unfold Program.size? at hn;simp only[A0J]at hn hy;obtain⟨i',CW,rfl⟩:=hn;obtain⟨i'',hi'',rfl⟩:=hy;rw[CW]at hi'';cases hi'';simpa using hy') hp hq g1 g2
 have hb:P.built t (parts.map λ(i,x)=>(i,a.eval x)).toList=some us:=by
  unfold Program.built;simp only[h1,hu,h2,hpl,Array.toList_map];exact k1
 refine⟨.agg us,?_,?_⟩
 .simp only[execOp,ho,Sem.run_bind,run_build E.w t _ us hb,Result.andThen_ok,Sem.run_pure]
 .simp only[VR];exact⟨us,rfl,k3,k2⟩
def If (E:Env) (us:List Value) (xs:List AV) (sz:Nat):Prop :=
 ∀(i:Nat) (x:AV),xs[i]?=some x->x.cells.length=sz/\∀(c:Nat) (y:AV),x.cells[c]?=some y->∃v,us[i*sz+c]?=some v/\v.oneCell'=true/\PV E.w E.ok y v
theorem Vm (z:Array Value) (n:Nat) (i c:Nat) (hc:c<z.size) (hi:i<n):(madeCells z (n*z.size))[i*z.size+c]?=some z[c]:=by
 have A7:=CC hi hc;unfold madeCells;rw[A0c,A0X,if_pos A7];have:(i*z.size+c) % z.size=c:=by rw[Nat.add_comm,A0g,Nat.add_mul_mod_self_left,Nat.mod_eq_of_lt hc]
 simp[this,getElem!_pos,hc]
theorem Pr {t:TypeId} {z:AV} (hz:Program.zeroA P t=some z) {n:Nat} {i:TypeInfo} (hi:P.info? t=some i) (K1:0<i.size):∃zv,i.zero=some zv/\z.cells.length=i.size/\zv.cells.size=i.size/\If E (madeCells zv.cells (n*i.size)).toList (A0G n z) i.size/\∀u∈(madeCells zv.cells (n*i.size)).toList,u.oneCell'=true:=by
 obtain⟨i',zv,h1,h2,h3,h4,h5⟩:=HX hz;rw[hi]at h1;cases h1;have hpv:=EN (w:=E.w) (ok:=E.ok) h4;obtain⟨g1,g2⟩:=Od hpv h5;obtain⟨gl,gg⟩:=Hk g1;have hl:z.cells.length=i.size:=by simp at gl;omega
 refine⟨zv,h2,hl,h3,λj x hx=>?_,λu hu=>?_⟩
 .rw[A0S]at hx;split at hx
  .rename_i hj;cases hx;refine⟨hl,λc y hy=>?_⟩;have hc:c<zv.cells.size:=by have:=(A0A.1 hy).1;omega
   obtain⟨v,v1,v2⟩:=gg hy;have:=Vm zv.cells n j c hc hj;rw[h3]at this;refine⟨zv.cells[c],by rw[A0F];exact this,g2 _ (by simp),?_⟩;have e:v=zv.cells[c]:=by
    rw[A0F,Array.getElem?_eq_getElem hc]at v1;simpa using v1.symm
   rw[←e];exact v2
  .cases hx
 .obtain⟨j,hj⟩:=List.getElem?_of_mem hu;rw[A0F]at hj;unfold madeCells at hj;rw[A0c,A0X]at hj;split at hj
  .simp at hj;have hm:j % zv.cells.size<zv.cells.size:=A0m _ (by omega);rw[getElem!_pos zv.cells _ hm]at hj;subst hj;exact g2 _ (by simp)
  .simp at hj
theorem TP (hS:SR E) (hf:FR E fr a.tmps) {sz:Nat} (K1:0<sz) :
  ∀{parts:List (Nat×Operand)} {ps:List (Nat×Opd)} {xs ys:List AV} {cells:Array Value},It Tp parts=some ps->A5 fr E.h xs ps=some ys->If E cells.toList xs sz->cells.size=xs.length*sz->(∀u∈cells.toList,u.oneCell'=true) ->
   ∃us,Instr.fill (λi=>some (i*sz,sz)) cells (parts.map λp=>(p.1,a.eval p.2))=some us/\If E us.toList ys sz/\us.size=ys.length*sz/\ys.length=xs.length
 | [],ps,xs,ys,cells,hp,hq,hr,hs,_=>by
  simp[It]at hp;subst hp;simp[A5]at hq;subst hq;exact⟨cells,rfl,hr,hs,rfl⟩
 |(i,x)::parts,ps,xs,ys,cells,hp,hq,hr,hs,h1=>by
  simp only[It]at hp;split at hp
  .rename_i y yr hy hyr;cases hp;unfold Tp at hy;simp only[A0J]at hy;obtain⟨x',hx',rfl⟩:=hy;simp only[A5]at hq;split at hq
   .rename_i z y hz hyy;split at hq
    .rename_i hc;obtain⟨hPu,hut⟩:=Ks hS (am:=false) (ok':=E.ok) ⟨λ_ _ h=>h,λh=>by cases h⟩ (D4 hf hx') hyy;obtain⟨g1,g2⟩:=Od hPu hut;obtain⟨gl,gg⟩:=Hk g1;obtain⟨r1,r2⟩:=hr i z hz;have hi:i<xs.length:=(A0A.1 hz).1;have I9:(a.eval x).cells.size=sz:=by simp at gl;omega
     have Cl:i*sz+sz<=cells.size:=by
      have:(i+1)*sz<=xs.length*sz:=A0D _ hi;rw[A0Q]at this;omega
     have hstep:=WM (place:=λi=>some (i*sz,sz)) (cells:=cells) (i:=i) (rest:=parts.map λp=>(p.1,a.eval p.2)) rfl I9 Cl;have hget:=λj=>JD (l:=cells.toList) (off:=i*sz) (vs:=(a.eval x).cells.toList) (by simp;omega) j;simp only[A0I,I9]at hget;obtain⟨us,k1,k2,k3,k4⟩:=TP hS hf K1 (parts:=parts) (xs:=xs.set i y) (cells:=(cells.toList.take (i*sz)++(a.eval x).cells.toList++cells.toList.drop (i*sz+sz)).toArray) hyr hq (λj w hw=>by
      by_cases hij:i=j
      .subst hij;rw[A0U hi]at hw;cases hw;refine⟨by omega,λc q hq'=>?_⟩;obtain⟨v,v1,v2⟩:=gg hq';have KE:c<sz:=by have:=(A0A.1 hq').1;omega
       refine⟨v,?_,g2 v (A0Z v1),v2⟩;show (A0o _ _++_++A0n _ _)[_]?=some v;rw[hget,if_neg (by omega),if_pos (by omega),show i*sz+c-i*sz=c from by omega];exact v1
      .rw[A0Y hij]at hw;obtain⟨s1,s2⟩:=hr j w hw;refine⟨s1,λc q hq'=>?_⟩;obtain⟨v,v1,v2,v3⟩:=s2 c q hq';refine⟨v,?_,v2,v3⟩;have KE:c<sz:=by have:=(A0A.1 hq').1;omega
       show (A0o _ _++_++A0n _ _)[_]?=some v;rw[hget];rcases A0f (show j≠i from λe=>hij e.symm)with A7|hgt
       .have:=CC A7 KE;rw[if_pos this];exact v1
       .have h3:(i+1)*sz<=j*sz:=A0D _ hgt;rw[A0Q]at h3;rw[if_neg (by omega),if_neg (by omega)];exact v1) (by
       simp only[A0j,A0R,List.length_take,List.length_drop,A0I,I9,List.length_set];omega) (by
       intro u hu;simp only[A0T]at hu;rcases hu with (hu|hu)|hu
       .exact h1 u (A0P hu)
       .exact g2 u hu
       .exact h1 u (A0O hu))
     exact⟨us,by simp only[A0a];rw[hstep];exact k1,k2,k3,by simpa using k4⟩
    .cases hq
   .cases hq
  .cases hp
theorem Ze (hS:SR E) {us:Array Value} {e:TypeId} {xs:G1} {sz:Nat} (K1:0<sz) (hr:If E us.toList xs sz) (hm:xs.length<=maxLen) :
  PV (E.w.alloc (.cells us e)) ({E with w:=E.w.alloc (.cells us e)}:Env).ok (.vs true sz xs) (.slice (some ⟨E.w.heap.size,0,none⟩) xs.length xs.length):=by
 have hb:Bl E.w.heap.size E.w (E.w.alloc (.cells us e)):=⟨(Below.refl _ _).alloc (A0N _) _,A0N _⟩;have hx:=Az hS hb;simp only[PV];refine⟨_,_,_,rfl,rfl,A0N _,hm,λ_=>rfl,⟨(λh=>nomatch h),⟨(λh=>nomatch h),λe=>absurd K1 (by omega)⟩⟩,λ_=>⟨_,_,rfl,K1,Tb λj x hj=>?_⟩⟩;obtain⟨r1,r2⟩:=hr j x hj;refine⟨r1,Mx λc y hc=>?_⟩;obtain⟨v,v1,v2,v3⟩:=r2 c y hc;refine⟨v,?_,?_,v2,Co hx.cells _ _ v3⟩
 .refine .inr ⟨hS.basele,by simp,λi hi=>?_,λk f hk he=>?_⟩
  .have:=(hS.nb_lt hi).2;intro e;have e':E.nb i=E.w.heap.size:=e;omega
  .have:=(hS.im_lt (A0A.1 hk).1).2;have he':(E.im k).b=E.w.heap.size:=he;omega
 .rw[Nat.zero_add,cell_of_row _ _ _ _ _ _ (heap_alloc_new _ _)];simpa using v1
theorem kH {t e:TypeId} {len:Nat} {parts:Array (Nat×Operand)} {z:AV} {n:Nat} {ps:List (Nat×Opd)} {xs:G1} (hS:SR E) (hf:FR E fr a.tmps) (ho:o.op=.buildSlice t len parts) (hu:P.underlying t=some (.slice e)) (hz:Program.zeroA P e=some z) (hn:Program.size? P e=some n)
  (K1:0<n) (hlim:len*n<=2 ^ 24) (hp:It Tp parts.toList=some ps) (hq:A5 fr E.h (A0G len z) ps=some xs):NS P a o E (.vs true z.cells.length xs) E.h:=by
 have hn':=hn;unfold Program.size? at hn';simp only[A0J]at hn';obtain⟨i,hi,rfl⟩:=hn';obtain⟨zv,h2,hl,h3,hr,h1⟩:=Pr (E:=E) hz (n:=len) hi K1;obtain⟨us,k1,k2,k3,k4⟩:=TP hS hf K1 hp hq hr (by simp[madeCells]) h1;have B8:xs.length=len:=by simpa using k4
 have hmax:xs.length<=maxLen:=by
  have:len*1<=len*i.size:=Nat.mul_le_mul_left _ K1;rw[B8];unfold maxLen;omega
 have hpv:=Ze (e:=e) hS K1 k2 hmax;have hb:Bl E.w.heap.size E.w (E.w.alloc (.cells us e)):=⟨(Below.refl _ _).alloc (A0N _) _,A0N _⟩;rw[hl];refine⟨_,.slice (some ⟨E.w.heap.size,0,none⟩) xs.length xs.length,{E with w:=E.w.alloc (.cells us e)},?_,.inl rfl,Az hS hb,Ff hS hb,rfl,?_⟩
 .have WZ:(sizeOf e).run P E.w=.ok i.size E.w:=Gj hn _;by_cases h0:len*i.size=0
  .have hc0:madeCells zv.cells (len*i.size)=#[]:=by simp[h0,madeCells]
   rw[hc0]at k1;simp[execOp,ho,Instr.buildSlice,M6 hu,WZ,h0,newRow,B8,Array.range_zero',k1]
  .simp[execOp,ho,Instr.buildSlice,M6 hu,WZ,h0,show ¬(16777216<len*i.size) from by omega,zeroValue,typeInfo,hi,h2,newRow,B8];unfold madeCells at k1;simp[k1]
 .simp only[VR];exact hpv
end
section
variable {E:Env} {P:Program} {fr:Fr} {a:Act} {o:Oper}
theorem QX {us:Array Value} {xs:G1} {sz:Nat} (h:If E us.toList xs sz) (i:Nat) (x:AV) (hx:xs[i]?=some x):Ls E us (i*sz) sz x:=by
 obtain⟨h1,h2⟩:=h i x hx;exact⟨h1,λc y hc=>by obtain⟨v,v1,v2,v3⟩:=h2 c y hc;exact⟨v,by simpa using v1,v2,v3⟩⟩
theorem gX {t e:TypeId} {l c:Operand} {l' c':Opd} {z:AV} {i:TypeInfo} {k1 k2:IntKind} {x y:Int} (hS:SR E) (hf:FR E fr a.tmps) (ho:o.op=.makeSlice t l c) (hu:P.underlying t=some (.slice e)) (hi:P.info? e=some i) (hz:Program.zeroA P e=some z)
  (K1:0<i.size) (hl:D3 l=some l') (hc:D3 c=some c') (hx:get fr l'=.int k1 x) (hy:get fr c'=.int k2 y) (h0:0<=x) (hxy:x<=y) (hb:y*i.bytes<=H6) (hm:y<=maxLen) :
  NS P a o E (.sl E.h.fams.length x.toNat 0 x.toNat) {E.h with fams:=E.h.fams++[⟨A0G x.toNat z,z.cells.length,true⟩]}:=by
 have e1:=D4 hf hl;have e2:=D4 hf hc;rw[hx]at e1;rw[hy]at e2;simp only[VR]at e1 e2;obtain⟨zv,h2,rO,h3,hr,h1⟩:=Pr (E:=E) hz (n:=y.toNat) hi K1;have hrun:=run_make (P:=P) E.w t e i zv hu hi h2 k1 k2 x y h0 hxy (by rw[Int.mul_comm];unfold H6 at hb;omega) (by unfold maxLen at hm;omega);have B8:(A0G x.toNat z).length=x.toNat:=by simp
 have Rw:∀(j:Nat) (w:AV),(A0G x.toNat z)[j]?=some w->Ls E (madeCells zv.cells (y.toNat*i.size)) (j*z.cells.length) z.cells.length w:=by
  intro j w hw;rw[rO];refine QX hr j w ?_;rw[A0S]at hw ⊢;split at hw
  .rename_i hj;cases hw;rw[if_pos (by omega)]
  .cases hw
 refine⟨_,.slice (some ⟨E.w.heap.size,0,none⟩) x.toNat y.toNat,E.newFam (madeCells zv.cells (y.toNat*i.size)) e y.toNat ⟨A0G x.toNat z,z.cells.length,true⟩,?_,.inl rfl,Ix hS _ _ _ _,
  NK hS (by simpa[rO]using K1) (by simp;omega) (by omega) (by simp[size_madeCells,rO]) Rw,rfl,?_⟩
 .simp only[execOp,ho,e1,e2,Sem.run_bind,hrun,Result.andThen_ok,Sem.run_pure,Env.newFam]
 .simp only[VR,Env.newFam,j5];refine⟨_,_,⟨A0G x.toNat z,z.cells.length,true⟩,rfl,by simp,⟨by simp,λ_=>⟨_,_,rfl⟩⟩,λ_=>⟨A0l _,by simp,by simp,(λh=>nomatch h),λ_=>by simp⟩⟩
theorem eY {n sz j:Nat} (I9:0<sz) (hj:j<n*sz):j / sz<n/\j % sz<sz/\j / sz*sz+j % sz=j :=
 ⟨Nat.div_lt_of_lt_mul (by rwa [A0g]),A0m _ I9,by rw[A0g];exact Nat.div_add_mod j sz⟩
def jo (E:Env) (b q sz:Nat) (ys:List AV):Prop :=
 ∀(i:Nat) (x:AV),ys[i]?=some x->x.cells.length=sz/\∀(c:Nat) (y:AV),x.cells[c]?=some y->∃v,E.w.cell? ⟨b,q+i*sz+c,none⟩=some v/\v.oneCell'=true/\PV E.w E.ok y v
theorem Lv {b q sz:Nat} {ys:G1} (I9:0<sz) (h:jo E b q sz ys) :
  ∃news:List Value,news.length=ys.length*sz/\(∀(j:Nat) (u:Value),news[j]?=some u->E.w.cell? ((⟨b,q,none⟩:Addr).add j)=some u)/\(∀u∈news,u.oneCell'=true)/\If E news ys sz:=by
 have hex:∀j,j<ys.length*sz->∃u,E.w.cell? ⟨b,q+j,none⟩=some u/\u.oneCell'=true/\∃y x,ys[j / sz]?=some x/\x.cells[j % sz]?=some y/\PV E.w E.ok y u:=by
  intro j hj;obtain⟨h1,h2,h3⟩:=eY I9 hj;obtain⟨g1,g2⟩:=h (j / sz) _ (A0H h1);obtain⟨v,v1,v2,v3⟩:=g2 (j % sz) _ (A0H (by omega));rw[show q+j / sz*sz+j % sz=q+j from by omega]at v1;exact⟨v,v1,v2,_,_,A0H h1,A0H _,v3⟩
 have hpick:∃g:Nat->Value,∀j,j<ys.length*sz->E.w.cell? ⟨b,q+j,none⟩=some (g j)/\(g j).oneCell'=true/\∃y x,ys[j / sz]?=some x/\x.cells[j % sz]?=some y/\PV E.w E.ok y (g j):=by
  refine⟨λj=>if hj:j<ys.length*sz then Classical.choose (hex j hj)else default,λj hj=>?_⟩
  simp only[hj,dif_pos];exact Classical.choose_spec (hex j hj)
 obtain⟨g,hg⟩:=hpick;refine⟨(List.range (ys.length*sz)).map g,by simp,λj u hu=>?_,λu hu=>?_,λi x hx=>?_⟩
 .rw[A0i]at hu;by_cases hj:j<ys.length*sz
  .rw[A0b hj]at hu;simp at hu;subst hu;rw[Dw];exact(hg j hj).1
  .rw[A0V (by simpa using hj)]at hu;simp at hu
 .simp at hu;obtain⟨j,hj,rfl⟩:=hu;exact(hg j hj).2.1
 .obtain⟨g1,g2⟩:=h i x hx;refine⟨g1,λc y hc=>?_⟩;obtain⟨v,v1,v2,v3⟩:=g2 c y hc;have hi:i<ys.length:=(A0A.1 hx).1;have KE:c<sz:=by have:=(A0A.1 hc).1;omega
  have A7:=CC hi KE;refine⟨v,?_,v2,v3⟩;rw[A0i,A0b A7];have:=(hg _ A7).1;rw[show q+(i*sz+c)=q+i*sz+c from by omega]at this;rw[this]at v1;simpa using v1
theorem Jo (hS:SR E) {sz:Nat} (I9:0<sz) {x:AV} {v:Value} {ys:G1} (hv:VR E x v) (h:y8 E.h sz x=some ys) :
  ∃ad c,v=.slice ad ys.length c/\(ad=none->ys.length=0)/\(ys≠[]->∃b q,ad=some ⟨b,q,none⟩/\jo E b q sz ys):=by
 unfold y8 at h;split at h
 .rename_i full z xs;split at h
  .rename_i hz;cases h;simp only[VR,PV]at hv;obtain⟨ad,len,cap,rfl,rfl,h2,h3,h4,h5,h6⟩:=hv;refine⟨ad,cap,rfl,λhn=>by have:=h5.1 hn;omega,λP1=>?_⟩;obtain⟨b,q,rfl,_,hels⟩:=h6 P1;have:z=sz:=by
    rcases hz with hz|hz
    .exact hz
    .exact absurd (A0E hz) P1
   subst this;refine⟨b,q,rfl,λi x hx=>?_⟩;obtain⟨p1,p2⟩:=Oc hels hx;refine⟨p1,λc y hc=>?_⟩;obtain⟨u,_,u2,u3,u4⟩:=Ip p2 hc;exact⟨u,u2,u3,u4⟩
  .cases h
 .rename_i k n off len;split at h
  .rename_i f hfk;split at h
   .rename_i hc;cases h;obtain⟨hn,hz,ho⟩:=hc;simp only[VR]at hv;obtain⟨ad,cap,f',rfl,hf',_,hcc⟩:=hv;have:f'=f:=by rw[hfk]at hf';simpa using hf'.symm
    subst this;obtain⟨l1,l2,l3,l4,l5⟩:=hcc hn;have hF:=hS.fams k f' hfk;have AY:=hF.room;have B8:((f'.xs.drop off).take len).length=len:=by simp;omega
    refine⟨ad,cap,by rw[B8],λh=>absurd h l4,λP1=>?_⟩;have K1:0<len:=by
     rcases A0e len with h0|h0
     .subst h0;simp at P1
     .exact h0
    refine⟨_,_,l5 (by omega),λi x hx=>?_⟩;have hi:i<len:=by have:=(A0A.1 hx).1;omega
    have hx':f'.xs[off+i]?=some x:=by
     rw[A0M,if_pos hi,A0L]at hx;exact hx
    obtain⟨cur,t,c1,c2,c3⟩:=hF.cells;obtain⟨e1,e2⟩:=c3 (off+i) x (by omega) hx';refine⟨by omega,λc y hc=>?_⟩;obtain⟨u,u1,u2,u3⟩:=e2 c y hc;refine⟨u,?_,u2,u3⟩;rw[cell_of_row _ _ _ _ _ _ c1];rw[show (E.im k).o+(off-(E.im k).lo)*f'.sz+i*sz+c=(E.im k).o+(off+i-(E.im k).lo)*f'.sz+c from by
     rw[show off+i-(E.im k).lo=(off-(E.im k).lo)+i from by omega,A0K,hz];omega]
    exact u1
   .cases h
  .cases h
 .cases h
theorem OR (t ty e:TypeId) (i:TypeInfo) (ht:P.underlying t=some (.slice e)) (hi:P.info? e=some i) (base ad:Option Addr) (n c m:Nat) (hnc:n<=c) (w:World) :
  (Builtin.append_ #[t,t] ty #[.slice base n c,.slice ad 0 m]).run P w=.ok (.slice base n c) w:=by
 have hf:(Builtin.firstCells i.size 0 (.slice ad 0 m)).run P w=.ok #[] w:=by
  cases ad<;>simp[Builtin.firstCells,loadCells,loadCellsFrom]
 cases base<;>simp[Builtin.append_,run_underlying ht,sizeOf,typeInfo,hi,Builtin.lenOf,hnc,hf,storeCells]
theorem Vx (t ty e:TypeId) (i:TypeInfo) (ht:P.underlying t=some (.slice e)) (hi:P.info? e=some i)
  (g q sLen sCap:Nat) (cur:Array Value) (t':TypeId) (w:World) (hg:w.heap[g]?=some (.cells cur t' (0,0)))
  (a:Addr) (m c:Nat) (news:List Value) (hl:news.length=m*i.size) (hnews:∀j u,news[j]?=some u->w.cell? (a.add j)=some u) (h1:∀u∈news,u.oneCell'=true)
  (AY:sLen+m<=sCap) (Cl:q+sLen*i.size+news.length<=cur.size) :
  (Builtin.append_ #[t,t] ty #[.slice (some ⟨g,q,none⟩) sLen sCap,.slice (some a) m c]).run P w =
   .ok (.slice (some ⟨g,q,none⟩) (sLen+m) sCap) (w.setRow g (cur.toList.take (q+sLen*i.size)++news++cur.toList.drop (q+sLen*i.size+news.length)).toArray):=by
 have hf:=run_firstCells_some (P:=P) w i.size m a m c news hl hnews;have Gx:=run_storeCells_at P g (q+sLen*i.size) t' news 0 cur w hg (by simpa using Cl) h1;simp only[A0d]at Gx;simp[Builtin.append_,run_underlying ht,sizeOf,typeInfo,hi,Builtin.lenOf,AY,hf,Dw,Gx]
theorem Qa {B:Nat} (w:World):Bl B w w.drew:=⟨(Below.refl B w).drew,Nat.le_succ _⟩
theorem Lx {us vs:List Value} {xs ys:G1} {sz:Nat} (h1:If E us xs sz) (hl:us.length=xs.length*sz) (h2:If E vs ys sz):If E (us++vs) (xs++ys) sz:=by
 intro i x hx;by_cases hi:i<xs.length
 .rw[A0B hi]at hx;obtain⟨g1,g2⟩:=h1 i x hx;refine⟨g1,λc y hc=>?_⟩;obtain⟨v,v1,v2⟩:=g2 c y hc;exact⟨v,by rw[A0B (A0A.1 v1).1];exact v1,v2⟩
 .rw[A0C (by omega)]at hx;obtain⟨g1,g2⟩:=h2 _ x hx;refine⟨g1,λc y hc=>?_⟩;obtain⟨v,v1,v2⟩:=g2 c y hc;refine⟨v,?_,v2⟩;have:xs.length*sz<=i*sz:=A0D _ (by omega);rw[A0C (by omega),hl,show i*sz+c-xs.length*sz=(i-xs.length)*sz+c from by rw[Nat.sub_mul];omega];exact v1
theorem gC {us vs:List Value} {xs:G1} {sz:Nat} (h1:If E us xs sz):If E (us++vs) xs sz:=by
 intro i x hx;obtain⟨g1,g2⟩:=h1 i x hx;refine⟨g1,λc y hc=>?_⟩;obtain⟨v,v1,v2⟩:=g2 c y hc;exact⟨v,by rw[A0B (A0A.1 v1).1];exact v1,v2⟩
theorem Of {E':Env} (h:Ext E E') {us:List Value} {xs:G1} {sz:Nat} (h1:If E us xs sz):If E' us xs sz:=by
 intro i x hx;obtain⟨g1,g2⟩:=h1 i x hx;refine⟨g1,λc y hc=>?_⟩;obtain⟨v,v1,v2,v3⟩:=g2 c y hc;exact⟨v,v1,v2,Co h.cells _ _ v3⟩
end
section
variable {E:Env} {P:Program} {fr:Fr} {a:Act} {o:Oper}
theorem Jq {args:Array Operand} {ats:Array TypeId} {s x:Operand} {t:TypeId} (ho:o.op=.call {callee:=.builtin .append,args:=args,argTypes:=ats}) (h1:args.toList=[s,x]) (h2:ats.toList=[t,t]) {v:Value} {w w':World}
  (h:(Builtin.append_ #[t,t] o.type #[a.eval s,a.eval x]).run P w=.ok v w'):(execOp a.eval o).run P w=.ok (.value v) w':=by
 rw[XZ h1,XZ h2]at ho;simp only[execOp,ho,resolve,invoke,builtin,Sem.run_bind,Sem.run_pure,Result.andThen_ok,List.map_toArray,A0a,List.map_nil,h]
theorem WW {us:List Value} {xs:G1} {sz n cap:Nat} (hr:If E us xs sz) (hl:us.length=n*sz) (z:Array Value) (hz:z.size=sz) (hcap:n<=cap) :
  If E (us.toArray++Builtin.zeroCells z (cap-n)).toList xs sz/\cap*sz<=(us.toArray++Builtin.zeroCells z (cap-n)).size:=by
 refine⟨?_,?_⟩
 .rw[Array.toList_append];exact gC hr
 .rw[Array.size_append,size_zeroCells,hz,A0j,hl,←A0K];exact A0D _ (by omega)
theorem PO {t ty e:TypeId} {i:TypeInfo} {z:Value} (ht:P.underlying t=some (.slice e)) (hi:P.info? e=some i) (hz:i.zero=some z) (hzs:z.cells.size=i.size)
  {base:Option Addr} {n cap:Nat} {olds:List Value} {xs:List AV} (hb:base=none->cap=0) (hnc:n<=cap) (hold:olds.length=n*i.size) (tH:xs.length=n)
  (holds:∀b,base=some b->∀(j:Nat) (u:Value),olds[j]?=some u->E.w.cell? (b.add j)=some u) (hro:If E olds xs i.size)
  {ad:Addr} {ys:List AV} {c:Nat} {news:List Value} (hl:news.length=ys.length*i.size) (hnews:∀(j:Nat) (u:Value),news[j]?=some u->E.w.cell? (ad.add j)=some u) (hrn:If E news ys i.size)
  (hg:cap<n+ys.length) (hm:n+ys.length<=maxLen) (hbytes:(n+ys.length)*i.bytes<=H6) :
  ∃us newCap,(Builtin.append_ #[t,t] ty #[.slice base n cap,.slice (some ad) ys.length c]).run P E.w=.ok (.slice (some ⟨E.w.heap.size,0,none⟩) (n+ys.length) newCap) (E.w.drew.alloc (.cells us e)) /\
   n+ys.length<=newCap/\newCap<=maxLen/\newCap*i.size<=us.size/\If E us.toList (xs++ys) i.size:=by
 have Cl:=growslice_fits hg hbytes;have h63:((n+ys.length:Nat):Int)<=9223372036854775807:=by unfold maxLen at hm;omega
 refine⟨(olds++news).toArray++Builtin.zeroCells z.cells (grownCap E.w (n+ys.length) cap e-(n+ys.length)),grownCap E.w (n+ys.length) cap e,?_,grownCap_ge _ _ _ _,grownCap_le_maxLen _ _ _ _ hm,?_,?_⟩
 rotate_left 1
 .exact(WW (us:=olds++news) (xs:=xs++ys) (n:=n+ys.length) (Lx hro (by rw[hold,tH]) hrn) (by rw[A0R,hold,hl,A0K]) z.cells hzs (grownCap_ge E.w _ cap e)).2
 .exact(WW (us:=olds++news) (xs:=xs++ys) (n:=n+ys.length) (Lx hro (by rw[hold,tH]) hrn) (by rw[A0R,hold,hl,A0K]) z.cells hzs (grownCap_ge E.w _ cap e)).1
 .cases base with
  |none =>
   have hc:=hb rfl;subst hc;have hn0:n=0:=by omega
   subst hn0;have ho0:olds=[]:=A0E (by simpa using hold);subst ho0;have:=run_append_nil (P:=P) E.w t ty e i z ht hi hz ad ys.length c news hl hnews (by omega) (by simpa using h63) (by simp at hbytes;unfold H6 at hbytes;omega);simpa using this
  |some b =>
   have:=run_append_grow (P:=P) E.w t ty e i z ht hi hz b n cap olds hold (holds b rfl) ad ys.length c news hl hnews hg h63 Cl;rw[this];simp
theorem ZR (hS:SR E):Ext E {E with w:=E.w.drew}:=Az hS (Qa _)
theorem eZ (hS:SR E):SR {E with w:=E.w.drew}:=Ff hS (Qa _)
theorem cP {c:Ctx} {args:Array Operand} {ats:Array TypeId} {s x:Operand} {s' x':Opd} {t e:TypeId} {i:TypeInfo} {z:AV} {z0:Nat} {xs ys:G1} (hS:SR E) (hf:FR E fr a.tmps)
  (ho:o.op=.call {callee:=.builtin .append,args:=args,argTypes:=ats}) (h1:args.toList=[s,x]) (h2:ats.toList=[t,t]) (ht:P.underlying t=some (.slice e)) (hi:P.info? e=some i) (hz:Program.zeroA P e=some z) (K1:0<i.size)
  (hs:D3 s=some s') (hx:D3 x=some x') (hg:get fr s'=.vs true z0 xs) (Ti:y8 E.h i.size (get fr x')=some ys) (P1:ys.length≠0) (hz0:z0=i.size\/xs.length=0)
  (hb:(xs.length+ys.length)*i.bytes<=H6) (hm:xs.length+ys.length<=maxLen) :
  NS P a o E (.sl E.h.fams.length (xs.length+ys.length) 0 (xs.length+ys.length)) {E.h with fams:=E.h.fams++[⟨xs++ys,i.size,c.mutApp⟩]}:=by
 obtain⟨i',zv,q1,q2,q3,q4,q5⟩:=HX hz;rw[hi]at q1;cases q1;have e1:=D4 hf hs;rw[hg]at e1;simp only[VR,PV]at e1;obtain⟨base,len,cap,e2,rfl,e4,e5,e6,e7,e8⟩:=e1;have ecap:cap=xs.length:=e6 trivial;obtain⟨ad,cx,f1,f2,f3⟩:=Jo hS K1 (D4 hf hx) Ti;obtain⟨b,q,rfl,f4⟩:=f3 (by intro h;subst h;simp at P1);obtain⟨news,n1,n2,_,n4⟩:=Lv K1 f4;have hold:∃olds:List Value,olds.length=xs.length*i.size/\(∀b,base=some b->∀(j:Nat) (u:Value),olds[j]?=some u->E.w.cell? (b.add j)=some u)/\If E olds xs i.size:=by
  by_cases hxe:xs=[]
  .subst hxe;exact⟨[],by simp,λb _ j u h=>by simp at h,λj x h=>by simp at h⟩
  .obtain⟨b',q',rfl,_,hels⟩:=e8 hxe;have:z0=i.size:=by
    rcases hz0 with h|h
    .exact h
    .exact absurd (A0E h) hxe
   subst this;obtain⟨olds,o1,o2,_,o4⟩:=Lv (E:=E) (b:=b') (q:=q') K1 (ys:=xs) (λj x hj=>by
    obtain⟨p1,p2⟩:=Oc hels hj;refine⟨p1,λc y hc=>?_⟩;obtain⟨u,_,u2,u3,u4⟩:=Ip p2 hc;exact⟨u,u2,u3,u4⟩)
   exact⟨olds,o1,λb'' hb''=>by cases hb'';exact o2,o4⟩
 obtain⟨olds,o1,o2,o3⟩:=hold;obtain⟨us,newCap,r1,r2,r3,r4,r5⟩:=PO (P:=P) (ty:=o.type) ht hi q2 q3 e7.1 e4 o1 rfl o2 o3 n1 n2 n4 (c:=cx) (by omega) hm hb;have hE1:=eZ hS;have hx1:=ZR hS;refine⟨_,.slice (some ⟨E.w.heap.size,0,none⟩) (xs.length+ys.length) newCap,({E with w:=E.w.drew}:Env).newFam us e newCap ⟨xs++ys,i.size,c.mutApp⟩,?_,.inl rfl,hx1.trans (Ix hE1 _ _ _ _),
  NK hE1 K1 (by simpa using r2) r3 r4 (λj x hj=>QX (Of hx1 r5) j x hj),rfl,?_⟩
 .refine Jq ho h1 h2 ?_;rw[e2,f1,r1];rfl
 .simp only[VR,Env.newFam,j5];exact⟨_,_,⟨xs++ys,i.size,c.mutApp⟩,rfl,by simp,⟨by simp,λ_=>⟨_,_,rfl⟩⟩,λ_=>⟨A0l _,by simp,by simp,(λh=>nomatch h),λ_=>by simp⟩⟩
theorem DC {α:Type} {l:List α} {k:Nat} {x:α} (h:l[k]?=some x):l.set k x=l:=by
 apply List.ext_getElem?;intro j;rw[List.getElem?_set];split
 .rename_i hj;subst hj;have:=(A0A.1 h).1;rw[if_pos this];exact h.symm
 .rfl
theorem gW {args:Array Operand} {ats:Array TypeId} {s x:Operand} {s' x':Opd} {t e:TypeId} {i:TypeInfo} {z:AV} {k n off len:Nat} {f:Fam} {ys:G1} (hS:SR E) (hf:FR E fr a.tmps)
  (ho:o.op=.call {callee:=.builtin .append,args:=args,argTypes:=ats}) (h1:args.toList=[s,x]) (h2:ats.toList=[t,t]) (ht:P.underlying t=some (.slice e)) (hi:P.info? e=some i) (hz:Program.zeroA P e=some z) (K1:0<i.size)
  (hs:D3 s=some s') (hx:D3 x=some x') (hg:get fr s'=.sl k n off len) (Ti:y8 E.h i.size (get fr x')=some ys) (hfk:E.h.fams[k]?=some f) (hn:f.xs.length=n) (I9:f.sz=i.size) (hoff:off+len=n)
  (hb:(n+ys.length)*i.bytes<=H6) (hm:n+ys.length<=maxLen) :
  NS P a o E (.sl k (n+ys.length) off (len+ys.length)) {E.h with fams:=E.h.fams.set k {f with xs:=f.xs++ys}}:=by
 obtain⟨i',zv,q1,q2,q3,q4,q5⟩:=HX hz;rw[hi]at q1;cases q1;have e1:=D4 hf hs;rw[hg]at e1;have e1':=e1;simp only[VR]at e1;obtain⟨base,cap,f',e2,hf',e4,e5⟩:=e1;have:f'=f:=by rw[hfk]at hf';simpa using hf'.symm
 subst this;obtain⟨l1,l2,l3,l4,l5⟩:=e5 hn;have hF:=hS.fams k f' hfk;have AY:=hF.room;have Dd:=(A0A.1 hfk).1;obtain⟨ad,cx,f1,f2,f3⟩:=Jo hS K1 (D4 hf hx) Ti;have hlencap:len<=cap:=by omega
 by_cases h0:ys=[]
 .subst h0;have LA:E.h.fams.set k {f' with xs:=f'.xs++[]}=E.h.fams:=DC (by rw[List.append_nil];exact hfk)
  refine⟨_,.slice base len cap,E,Jq ho h1 h2 ?_,.inl rfl,Ext.refl E,hS,by rw[LA],by rw[e2]at e1';simpa using e1'⟩;rw[e2,f1];exact OR t _ e i ht hi base ad len cap cx hlencap E.w
 have hylen:0<ys.length:=by
  rcases A0e ys.length with h|h
  .exact absurd (A0E h) h0
  .exact h
 obtain⟨b,q,rfl,f4⟩:=f3 h0;obtain⟨news,n1,n2,n3,n4⟩:=Lv K1 f4;by_cases Ys:len+ys.length<=cap
 ·-- there is room
  have hbase:=l5 (by omega);obtain⟨cur,t',c1,c2,c3⟩:=hF.cells;have hnl:off-(E.im k).lo+len=n-(E.im k).lo:=by omega
  have epos:(E.im k).o+(off-(E.im k).lo)*f'.sz+len*i.size=(E.im k).o+(n-(E.im k).lo)*f'.sz:=by
   rw[←hnl,A0K,I9];omega
  have Cl:(E.im k).o+(n-(E.im k).lo)*f'.sz+news.length<=cur.size:=by
   have h3:(n-(E.im k).lo+ys.length)*f'.sz<=(E.im k).cap*f'.sz:=A0D _ (by omega);rw[A0K]at h3;rw[n1,←I9];omega
  have hrun:=Vx (P:=P) t o.type e i ht hi (E.im k).b ((E.im k).o+(off-(E.im k).lo)*f'.sz) len cap cur t' E.w c1 ⟨b,q,none⟩ ys.length cx news n1 n2 n3 Ys (by rw[epos];exact Cl);rw[epos]at hrun;obtain⟨us,TU⟩:∃us:Array Value,us=(cur.toList.take ((E.im k).o+(n-(E.im k).lo)*f'.sz)++news++cur.toList.drop ((E.im k).o+(n-(E.im k).lo)*f'.sz+news.length)).toArray:=⟨_,rfl⟩;rw[←TU]at hrun;have hget:∀j:Nat,us[j]?=if j<(E.im k).o+(n-(E.im k).lo)*f'.sz then cur[j]? else if j<(E.im k).o+(n-(E.im k).lo)*f'.sz+news.length then news[j-((E.im k).o+(n-(E.im k).lo)*f'.sz)]? else cur[j]?:=by
   intro j;have:=JD (l:=cur.toList) (off:=(E.im k).o+(n-(E.im k).lo)*f'.sz) (vs:=news) (by simpa using Cl) j;simp only[A0F]at this;rw[TU,A0W,this]
  have hkeep:f'.wr=false->∀j,j<(E.im k).o+(f'.xs.length-(E.im k).lo)*f'.sz->us[j]?=cur[j]?:=by
   intro _ j hj;rw[hn]at hj;rw[hget,if_pos hj]
  refine⟨_,.slice base (len+ys.length) cap,E.setFam k us {f' with xs:=f'.xs++ys},Jq ho h1 h2 ?_,.inl rfl,JA hS hfk c1 rfl rfl (by simp) hkeep,
   NM hS hfk c1 rfl rfl (by simp) hkeep (by simp;omega) (by rw[TU];simp;omega) ?_,rfl,?_⟩
  .rw[e2,f1,hbase,hrun];rfl
  .intro j x' hj hx';have hx'':(f'.xs++ys)[j]?=some x':=hx';by_cases hjn:j<n
   .rw[A0B (by omega)]at hx'';obtain⟨g1,g2⟩:=c3 j x' hj hx'';refine⟨g1,λc y hc=>?_⟩;obtain⟨v,v1,v2⟩:=g2 c y hc;have KE:c<f'.sz:=by have:=(A0A.1 hc).1;omega
    have:=CC (show j-(E.im k).lo<n-(E.im k).lo by omega) KE;exact⟨v,by rw[hget,if_pos (by omega)];exact v1,v2⟩
   .rw[A0C (by omega),hn]at hx'';obtain⟨g1,g2⟩:=n4 _ x' hx'';refine⟨by omega,λc y hc=>?_⟩;obtain⟨v,v1,v2⟩:=g2 c y hc;have KE:c<f'.sz:=by have:=(A0A.1 hc).1;omega
    have hjy:j-n<ys.length:=by have:=(A0A.1 hx'').1;omega
    have h5:=CC hjy KE;have ej:(j-(E.im k).lo)*f'.sz=(n-(E.im k).lo)*f'.sz+(j-n)*f'.sz:=by
     rw[←A0K];congr 1;omega
    refine⟨v,?_,v2⟩;rw[hget,ej,if_neg (by omega),if_pos (by rw[n1,←I9];omega)];rw[show (E.im k).o+((n-(E.im k).lo)*f'.sz+(j-n)*f'.sz)+c-((E.im k).o+(n-(E.im k).lo)*f'.sz)=(j-n)*i.size+c from by rw[←I9];omega];exact v1
  .simp only[VR,Env.setFam];refine⟨base,cap,{f' with xs:=f'.xs++ys},rfl,by simp[Dd],⟨by simp[hn],λ_=>?_⟩,λ_=>⟨l1,by omega,l3,l4,l5⟩⟩
   by_cases hc0:cap=0
   .exfalso;omega
   .exact⟨_,_,l5 hc0⟩
 ·-- there is none
  have hold:∃olds:List Value,olds.length=len*i.size/\(∀b,base=some b->∀(j:Nat) (u:Value),olds[j]?=some u->E.w.cell? (b.add j)=some u)/\If E olds ((f'.xs.drop off).take len) i.size:=by
   have hll:((f'.xs.drop off).take len).length=len:=by simp;omega
   by_cases hl0:len=0
   .subst hl0;exact⟨[],by simp,λb _ j u h=>by simp at h,λj x h=>by simp at h⟩
   .obtain⟨ad',cx',g1,g2,g3⟩:=Jo hS (sz:=i.size) K1 e1' (ys:=(f'.xs.drop off).take len) (by simp only[y8,hfk];rw[if_pos ⟨hn,I9,by omega⟩]);obtain⟨b',q',rfl,g4⟩:=g3 (by intro h;rw[h]at hll;simp at hll;omega);obtain⟨olds,o1,o2,_,o4⟩:=Lv K1 g4;rw[e2]at g1;have:base=some ⟨b',q',none⟩:=by simp at g1;exact g1.1
    subst this;exact⟨olds,by rw[o1,hll],λb'' hb''=>by cases hb'';exact o2,o4⟩
  obtain⟨olds,o1,o2,o3⟩:=hold;have hll:((f'.xs.drop off).take len).length=len:=by simp;omega
  obtain⟨us,newCap,r1,r2,r3,r4,r5⟩:=PO (P:=P) (ty:=o.type) ht hi q2 q3 (λe=>absurd e l4) hlencap o1 hll o2 o3 n1 n2 n4 (c:=cx) (by omega) (by omega) (by
   refine Nat.le_trans (A0D _ ?_) hb;omega)
  have hE1:=eZ hS;have hx1:=ZR hS;refine⟨_,.slice (some ⟨E.w.heap.size,0,none⟩) (len+ys.length) newCap,({E with w:=E.w.drew}:Env).moveFam k us e off newCap {f' with xs:=f'.xs++ys},Jq ho h1 h2 ?_,.inl rfl,
   hx1.trans (PA hE1 hfk _ _ _ _ rfl (by simp;omega)),
   Uf hE1 hfk rfl (by simp;omega) (by simp;omega) (by simp;omega) r3 (by rw[I9];exact r4) ?_,rfl,?_⟩
  .rw[e2,f1,r1];rfl
  .intro j x' hj hx';have hx'':(f'.xs++ys)[j]?=some x':=hx';rw[I9];refine QX (Of hx1 r5) (j-off) x' ?_;by_cases hjn:j<n
   .rw[A0B (by omega)]at hx'';rw[A0B (by omega),A0M,if_pos (by omega),A0L,show off+(j-off)=j from by omega];exact hx''
   .rw[A0C (by omega)]at hx'';rw[A0C (by omega),hll,show j-off-len=j-f'.xs.length from by omega];exact hx''
  .simp only[VR,Env.moveFam,j5];refine⟨_,_,{f' with xs:=f'.xs++ys},rfl,by simp[Dd],⟨by simp[hn],λ_=>⟨_,_,rfl⟩⟩,λ_=>⟨A0N _,by omega,by omega,(λh=>nomatch h),λ_=>by simp⟩⟩
end
end Go.Abs
