/- A part of the proof. -/
import Derived.Test.YtohjdamplbhdpaaGreatDoorSG3
set_option linter.all false
open List renaming getElem?_append_right->xk,getElem?_append_left->xl,getElem?_eq_some_iff->xm,getElem?_drop->xn,getElem?_take->xo,mem_of_mem_drop->xr,mem_of_mem_take->xt,append_assoc->xy
open Nat renaming mul_le_mul_right->xp,succ_mul->xw,add_mul->xz,le_refl->yA,add_zero->yC,lt_or_ge->yD
open Array renaming toList_extract->xq,length_toList->xu
open Option renaming map_some->yB
namespace Go.Abs
open Go.RowKit (Below)
section
variable {E:Env} {P:Program} {fr:Fr} {a:Act} {o:Oper}
theorem lw {x:Operand} {y:Opd} (hf:FR E fr a.tmps) (ho:o.op=.move x\/o.op=.assign x) (hx:C5 x=some y):Bd P a o E (get fr y):=by
 refine⟨a.eval x,?_,C6 hf hx⟩;rcases ho with ho|ho<;>simp[execOp,ho]
theorem nj {c x y:Operand} {c' x' y':Opd} {t:Bool} (hf:FR E fr a.tmps) (ho:o.op=.pick c x y) (hc:C5 c=some c') (hx:C5 x=some x') (hy:C5 y=some y') (hg:get fr c'=.bool t) :
  Bd P a o E (if t then get fr x' else get fr y'):=by
 have h:=C6 hf hc;rw[hg]at h;simp only[VR]at h;refine⟨if t then a.eval x else a.eval y,?_,?_⟩
 .cases t<;>simp[execOp,ho,h,asBool]
 .cases t
  .exact C6 hf hy
  .exact C6 hf hx
theorem wd {t:TypeId} {x:Operand} {x':Opd} {b:Bool} {n:Nat} {v:AV} (hS:SR E) (hf:FR E fr a.tmps) (ho:o.op=.load t x) (hb:Program.agg? P t=some b) (hn:Program.size? P t=some n) (hx:C5 x=some x')
  (h:DS E.h b n (get fr x')=some v):Bd P a o E v:=by
 obtain⟨bl,of,cs,e1,e2,e3⟩:=Qa hS (C6 hf hx) h;obtain⟨u,h1,h2⟩:=Mk (P:=P) e2 e3 hb hn;exact⟨u,by simp[execOp,ho,Instr.loadAt,Instr.sureAddr,e1,h1],h2⟩
theorem lG {x:Operand} {x':Opd} {v:AV} (hf:FR E fr a.tmps) (ho:o.op=.nilCheck x) (hx:C5 x=some x')
  (h:(match get fr x' with | .pv cs=>some (AV.pv cs,E.h) | .ptr b o=>some (.ptr b o,E.h) | .ep k n i q s=>some (.ep k n i q s,E.h) | .fn f cs=>some (.fn f cs,E.h)|_=>none)=some (v,E.h)):Bd P a o E v:=by
 have hv:=C6 hf hx;refine⟨a.eval x,?_,?_⟩
 .split at h
  .rename_i hg;rw[hg]at hv;simp only[VR,PV]at hv;obtain⟨b,o',e,_⟩:=hv;simp[execOp,ho,e]
  .rename_i hg;rw[hg]at hv;simp only[VR]at hv;obtain⟨_,e⟩:=hv;simp[execOp,ho,e]
  .rename_i hg;rw[hg]at hv;simp only[VR]at hv;obtain⟨a',o',f,e,_⟩:=hv;simp[execOp,ho,e]
  .rename_i hg;rw[hg]at hv;simp only[VR]at hv;obtain⟨us,e,_⟩:=hv;simp[execOp,ho,e]
  .cases h
 .split at h<;>first|(cases h;done)|(rename_i hg;rw[hg]at hv;simp at h;rw[←h];exact hv)
theorem tD {op:BinOp} {t t':TypeId} {x y:Operand} {x' y':Opd} {v:AV} (hf:FR E fr a.tmps) (ho:o.op=.binOp op t x y t') (hx:C5 x=some x') (hy:C5 y=some y')
  (h:D6 op (get fr x') (get fr y')=some v):Bd P a o E v:=by
 obtain⟨u,h1,h2⟩:=cY (P:=P) (t:=t) (C6 hf hx) (C6 hf hy) x y E.w h;refine⟨u,?_,h2⟩;simp only[execOp,ho,Sem.run_bind]at h1 ⊢;rw[h1];rfl
theorem lu {neg:Bool} {t t':TypeId} {x y:Operand} {x' y':Opd} {i j:Bool} (hf:FR E fr a.tmps) (ho:o.op=.binOp (if neg then .neq else .eql) t x y t') (ht:P.underlying t=some .bool) (hx:C5 x=some x') (hy:C5 y=some y')
  (hi:get fr x'=.bool i) (hj:get fr y'=.bool j):Bd P a o E (.bool (if neg then !(i == j)else i == j)):=by
 have e1:=C6 hf hx;have e2:=C6 hf hy;rw[hi]at e1;rw[hj]at e2;simp only[VR]at e1 e2;refine⟨_,?_,Oa _⟩;have h:=cW (neg:=neg) (i:=i) (j:=j) ht x y E.w;simp only[execOp,ho,Sem.run_bind,e1,e2]at h ⊢;rw[h];rfl
theorem be {neg:Bool} {t e t':TypeId} {x y:Operand} {x':Opd} {full:Bool} {z:Nat} {xs:E6} (hf:FR E fr a.tmps) (ho:o.op=.binOp (if neg then .neq else .eql) t x y t') (ht:P.underlying t=some (.slice e)) (hx:C5 x=some x') (hy:C5 y=some (.c (.vs true 0 [])))
  (hi:get fr x'=.vs full z xs):Bd P a o E (.bool (if neg then !(z == 0)else z == 0)):=by
 have e1:=C6 hf hx;have e2:=C6 hf hy;rw[hi]at e1;simp only[get,VR,PV]at e1 e2;obtain⟨ad,len,cap,e3,e4,e5,e6,e7,e8,e9⟩:=e1;obtain⟨ad',len',cap',k3,k4,k5,k6,k7,k8,k9⟩:=e2;obtain rfl:ad'=none:=k8.2.2 trivial;obtain rfl:len'=0:=k4;obtain rfl:cap'=0:=k8.1 rfl;refine⟨_,?_,Oa _⟩;have h:=Xf (neg:=neg) (ad:=ad) (len:=len) (cap:=cap) ht x y E.w;have hz:ad.isNone=(z == 0):=by
  cases ad with
  |none=>simp[e8.2.1 rfl]
  |some a =>
        have:z≠0:=λhz=>by have:=e8.2.2 hz;cases this
        simp[this]
 rw[hz]at h;simp only[execOp,ho,Sem.run_bind,e3,k3]at h ⊢;rw[h];rfl
theorem wg {op:UnOp} {t:TypeId} {x:Operand} {x':Opd} {v:AV} (hf:FR E fr a.tmps) (ho:o.op=.unOp op t x) (hx:C5 x=some x') (h:Ny op (get fr x')=some v):Bd P a o E v:=by
 have hv:=C6 hf hx;generalize get fr x'=y at h hv;cases y<;>cases op<;>simp only[Ny]at h<;>cases h
 .simp only[VR]at hv;refine⟨_,?_,Oa _⟩;simp only[execOp,ho,hv,Op.unary,Sem.run_bind,Sem.run_pure,Result.andThen_ok]
 .simp only[VR]at hv;refine⟨_,?_,GV _ _⟩;simp only[execOp,ho,hv,Op.unary,Op.intArith,Sem.run_bind,Sem.run_pure,Result.andThen_ok]
theorem nh {s d:TypeId} {k k0:IntKind} {x:Operand} {x':Opd} {q:IntKind} {n:Int} (hf:FR E fr a.tmps) (ho:o.op=.convert s d x) (hs:P.underlying s=some (.int k0)) (hd:P.underlying d=some (.int k)) (hx:C5 x=some x')
  (hg:get fr x'=.int q n):Bd P a o E (.int k (k.wrap n)):=by
 have hv:=C6 hf hx;rw[hg]at hv;simp only[VR]at hv;exact⟨_,by simp[execOp,ho,convert,K2 hs,K2 hd,hv,Conv.intToInt],GV _ _⟩
theorem ni {s d:TypeId} {x:Operand} {x':Opd} {n:H7} (hf:FR E fr a.tmps) (ho:o.op=.convert s d x) (hs:P.underlying s=some .string) (hd:P.underlying d=some .string) (hx:C5 x=some x')
  (hg:get fr x'=.str n):Bd P a o E (.str n):=by
 have hv:=C6 hf hx;rw[hg]at hv;simp only[VR]at hv;exact⟨_,by simp[execOp,ho,convert,K2 hs,K2 hd,hv],ZC _⟩
theorem ng {f:FuncId} {first caps:Array Operand} {cs:List Opd} (hf:FR E fr a.tmps) (ho:o.op=.makeFunc (.func f) first caps) (h0:first.size=0) (hc:GZ C5 caps.toList=some cs) :
  Bd P a o E (.fn f (cs.map (get fr))):=by
 have:first=#[]:=Array.size_eq_zero_iff.1 h0
 subst this;refine⟨.func (.func f) #[] (caps.map a.eval),by simp[execOp,ho,Instr.makeFunc],?_⟩;simp only[VR];exact⟨_,rfl,LG hf hc⟩
theorem lE {s:TypeId} {x:Operand} {x':Opd} {i n:Nat} {fs:Array Field} {f:Field} {v:AV} (hf:FR E fr a.tmps) (ho:o.op=.fieldAddr s x i) (hs:P.underlying s=some (.struct fs)) (hi:fs[i]?=some f)
  (hn:Program.size? P f.type=some n) (N7:0<n) (hx:C5 x=some x')
  (h:(match get fr x' with | .pv cs=>some (AV.pv (cs.drop f.offset),E.h) | .ptr b o=>some (.ptr b (o+f.offset),E.h) | .ep k n i q s=>some (.ep k n i (q+f.offset) s,E.h)|_=>none)=some (v,E.h)):Bd P a o E v:=by
 have hv:=C6 hf hx;have hp:∀b q,(fieldPlace ⟨b,q,none⟩ f).run P E.w=.ok ⟨b,q+f.offset,none⟩ E.w:=by
  intro b q;unfold fieldPlace;simp[Db hn,show ¬n=0 from by omega,Bm]
 split at h
 .rename_i cs hg;rw[hg]at hv;simp only[VR,PV]at hv;obtain⟨b,q,e,hc⟩:=hv;simp at h;subst h;refine⟨.pointer (some ⟨b,q+f.offset,none⟩),by simp[execOp,ho,Instr.fieldAt,K2 hs,hi,e,Instr.sureAddr,hp],?_⟩;simp only[VR,PV];refine⟨b,q+f.offset,rfl,IA λj c hc'=>?_⟩;rw[xn]at hc';have:=GU hc hc'
  rwa [show q+(f.offset+j)=q+f.offset+j from by omega]at this
 .rename_i b q hg;rw[hg]at hv;simp only[VR]at hv;obtain⟨hb,e⟩:=hv;simp at h;subst h;exact⟨.pointer (some ⟨E.nb b,q+f.offset,none⟩),by simp[execOp,ho,Instr.fieldAt,K2 hs,hi,e,Instr.sureAddr,hp],by simp only[VR];exact⟨hb,trivial⟩⟩
 .rename_i k m j q sz hg;rw[hg]at hv;simp only[VR]at hv;obtain⟨b,q',g,e,hg1,hg2,hg3⟩:=hv;simp at h;subst h;refine⟨.pointer (some ⟨b,q'+f.offset,none⟩),by simp[execOp,ho,Instr.fieldAt,K2 hs,hi,e,Instr.sureAddr,hp],?_⟩;simp only[VR];refine⟨b,_,g,rfl,hg1,hg2,λhm=>?_⟩;obtain⟨h1,h2⟩:=hg3 hm;simp only[Addr.mk.injEq]at h2 ⊢;exact⟨h1,h2.1,by omega,trivial⟩
 .cases h
theorem bg {t:TypeId} {b:Bool} (ha:Program.agg? P t=some b) (w:World):(isAgg t).run P w=.ok b w:=by
 unfold Program.agg? at ha;unfold isAgg underlying;split at ha<;>simp_all
theorem je {cs:E6} {us:Array Value} {off n:Nat} (h:x6 E cs us.toList) (h1:∀u∈us.toList,u.oneCell'=true) {b:Bool} {v:AV} (hv:d5 b n (cs.drop off)=some v) :
  (b=true->VR E v (.agg (us.extract off (off+n))))/\(b=false->∃u,us[off]?=some u/\VR E v u):=by
 obtain⟨hl,hg⟩:=Ej h;cases b with
 |true =>
  refine⟨λ_=>?_,λh=>by cases h⟩;simp only[d5]at hv;split at hv
  .rename_i Nh;cases hv;simp only[VR];have C2:us.size=cs.length:=by simpa using hl
   simp at Nh;refine⟨_,rfl,λu hu=>h1 u ?_,Nr (by simp;omega) λj c u hc hu=>?_⟩
   .rw[xq]at hu;exact xr (xt hu)
   .have hj:j<n:=by have:=(xm.1 hc).1;simp at this;omega
    rw[xo,if_pos hj,xn]at hc;obtain⟨u',h2,h3⟩:=hg hc;have:u=u':=by
     have h4:us.toList[off+j]?=some u:=by
      simp only[xq,List.extract_eq_take_drop,xo,xn]at hu;split at hu
      .exact hu
      .cases hu
     rw[h4]at h2;simpa using h2
    subst this;exact h3
  .cases hv
 |false =>
  refine⟨λh=>by (cases h),λ_=>?_⟩;simp only[d5]at hv;have h0:cs[off]?=some v:=by rw[←hv,List.head?_drop]
  obtain⟨u,h2,h3⟩:=hg h0;exact⟨u,by simpa using h2,h3⟩
theorem tF {s:TypeId} {x:Operand} {x':Opd} {i n:Nat} {fs:Array Field} {f:Field} {b:Bool} {cs:E6} {v:AV} (hf:FR E fr a.tmps) (ho:o.op=.field s x i) (hs:P.underlying s=some (.struct fs)) (hi:fs[i]?=some f)
  (hb:Program.agg? P f.type=some b) (hn:Program.size? P f.type=some n) (hx:C5 x=some x') (hg:get fr x'=.agg cs) (h:d5 b n (cs.drop f.offset)=some v):Bd P a o E v:=by
 have hv:=C6 hf hx;rw[hg]at hv;simp only[VR]at hv;obtain⟨us,e,h1,h2⟩:=hv;obtain⟨t1,t2⟩:=je h2 h1 h;cases b with
 |true=>exact⟨_,by simp[execOp,ho,Instr.field,K2 hs,hi,e,asAgg,part,bg hb,Db hn],t1 rfl⟩
 |false =>
  obtain⟨u,h3,h4⟩:=t2 rfl;exact⟨u,by simp[execOp,ho,Instr.field,K2 hs,hi,e,asAgg,part,bg hb,h3],h4⟩
theorem lF {t e:TypeId} {x i:Operand} {x' i':Opd} {n:Nat} {v:AV} (hS:SR E) (hf:FR E fr a.tmps) (ho:o.op=.indexAddr t x i) (ht:P.underlying t=some (.slice e)) (hn:Program.size? P e=some n)
  (hx:C5 x=some x') (hi:C5 i=some i')
  (h:(match get fr x',get fr i' with
   | .vs _ z xs,.int _ j=>if 0<=j/\z=n then (match xs[j.toNat]? with|some e=>some (AV.pv e.cells,E.h)|none=>none)else none
   | .sl k m off len,.int _ j=>if 0<=j/\j<len then some (.ep k m (off+j.toNat) 0 n,E.h)else none
   | .bsl b s off len,.int _ j=>if 0<=j/\j<len/\s=n then some (.ptr b (off+j.toNat*n),E.h)else none
   |_,_=>none)=some (v,E.h)):Bd P a o E v:=by
 have hv:=C6 hf hx;have hw:=C6 hf hi;split at h
 .rename_i full z xs q j hg hj;rw[hg]at hv;rw[hj]at hw;simp only[VR,PV]at hv hw;split at h
  .rename_i hc;split at h
   .rename_i el Pj;obtain⟨ad,len,cap,e1,e2,e3,e4,e5,e6,e7⟩:=hv;have A6:=(xm.1 Pj).1;obtain⟨b,q',rfl,_,hels⟩:=e7 (by intro hn;subst hn;simp at A6);have hp:=Lu hels Pj;simp at h;subst h;have hjl:j<(len:Int):=by omega
    refine⟨.pointer (some ⟨b,q'+j.toNat*n,none⟩),?_,?_⟩
    .simp[execOp,ho,Instr.indexAt,hw,asIntOf,K2 ht,e1,hc.1,hjl,Db hn,Bm]
    .simp only[VR,PV];rw[hc.2]at hp;exact⟨b,_,rfl,hp.2⟩
   .cases h
  .cases h
 .rename_i k m off len q j hg hj;rw[hg]at hv;rw[hj]at hw;simp only[VR]at hv hw;split at h
  .rename_i hc;obtain⟨hj0,hjl⟩:=hc;obtain⟨ad,cap,f',e1,e2,⟨e3,e5⟩,e4⟩:=hv;obtain⟨b,q',rfl⟩:=e5 (by omega);simp at h;subst h;refine⟨.pointer (some ⟨b,q'+j.toNat*n,none⟩),?_,?_⟩
   .simp[execOp,ho,Instr.indexAt,hw,asIntOf,K2 ht,e1,hj0,hjl,Db hn,Bm]
   .simp only[VR];refine⟨_,_,f',rfl,e2,e3,λhm=>?_⟩;obtain⟨l1,l2,l3,l4,l5⟩:=e4 hm.1;have hF:=hS.fams k f' e2;have t6:=hF.room;have ead:=l5 (by omega);simp only[Option.some.injEq,Addr.mk.injEq]at ead;obtain⟨rfl,rfl,_⟩:=ead;refine⟨by omega,?_⟩;rw[←hm.2,yC,show off+j.toNat-(E.im k).lo=(off-(E.im k).lo)+j.toNat from by omega,xz,←Nat.add_assoc]
  .cases h
 .rename_i b s off len q j hg hj;rw[hg]at hv;rw[hj]at hw;simp only[VR]at hv hw;split at h
  .rename_i hc;obtain⟨hj0,hjl,rfl⟩:=hc;obtain⟨hb,cap,e1,e2,e3⟩:=hv;simp at h;subst h;refine⟨.pointer (some ⟨E.nb b,off+j.toNat*s,none⟩),?_,?_⟩
   .simp[execOp,ho,Instr.indexAt,hw,asIntOf,K2 ht,e1,hj0,hjl,Db hn,Bm]
   .simp only[VR];exact⟨hb,trivial⟩
  .cases h
 .cases h
theorem tG {t:TypeId} {x i:Operand} {x' i':Opd} {s:H7} {q:IntKind} {j:Int} {b:UInt8} (hf:FR E fr a.tmps) (ho:o.op=.index t x i) (ht:P.underlying t=some .string) (hx:C5 x=some x') (hi:C5 i=some i')
  (hg:get fr x'=.str s) (hj:get fr i'=.int q j) (h0:0<=j) (hb:s[j.toNat]?=some b):Bd P a o E (.int .u8 b.toNat):=by
 have hv:=C6 hf hx;have hw:=C6 hf hi;rw[hg]at hv;rw[hj]at hw;simp only[VR]at hv hw;exact⟨_,by simp[execOp,ho,Instr.index,hw,hv,asIntOf,K2 ht,h0,hb],GV _ _⟩
theorem tE {x:Operand} {x':Opd} {i:Nat} {vs:E6} {v:AV} (hf:FR E fr a.tmps) (ho:o.op=.extract x i) (hx:C5 x=some x') (hg:get fr x'=.tup vs) (h:vs[i]?=some v):Bd P a o E v:=by
 have hv:=C6 hf hx;rw[hg]at hv;simp only[VR]at hv;obtain⟨us,e,h2⟩:=hv;obtain⟨u,h3,h4⟩:=(Ej h2).2 h;have h3':us[i]?=some u:=by simpa using h3
 exact⟨u,by simp[execOp,ho,Instr.extract,e,h3'],h4⟩
end
section
variable {E:Env} {P:Program} {fr:Fr} {a:Act} {o:Oper}
theorem Qy {α:Type} {aas:Array α} {x:α} (h:aas.toList=[x]):aas=#[x]:=by cases aas;simp_all
theorem VE {α:Type} {aas:Array α} {x y:α} (h:aas.toList=[x,y]):aas=#[x,y]:=by cases aas;simp_all
theorem eR {args:Array Operand} {ats:Array TypeId} {x:Operand} {t:TypeId} {x':Opd} {s:H7} (hf:FR E fr a.tmps) (ho:o.op=.call {callee:=.builtin .len,args:=args,argTypes:=ats}) (h1:args.toList=[x]) (h2:ats.toList=[t])
  (hts:P.underlying t=some .string) (hx:C5 x=some x') (hs:get fr x'=.str s):Bd P a o E (.int .i64 s.size):=by
 have hv:=C6 hf hx;rw[Qy h1,Qy h2]at ho;rw[hs]at hv;simp only[VR]at hv;exact⟨_,by simp[execOp,ho,resolve,invoke,builtin,Builtin.len_,hv,K2 hts,goInt],GV _ _⟩
theorem tH {args:Array Operand} {ats:Array TypeId} {x:Operand} {t e:TypeId} {x':Opd} {v:AV} (hf:FR E fr a.tmps) (ho:o.op=.call {callee:=.builtin .len,args:=args,argTypes:=ats}) (h1:args.toList=[x]) (h2:ats.toList=[t])
  (hts:P.underlying t=some (.slice e)) (hx:C5 x=some x')
  (h:(match get fr x' with | .vs _ _ xs=>some (AV.int .i64 xs.length,E.h) | .sl _ _ _ len=>some (.int .i64 len,E.h) | .bsl _ _ _ len=>some (.int .i64 len,E.h)|_=>none)=some (v,E.h)):Bd P a o E v:=by
 have hv:=C6 hf hx;rw[Qy h1,Qy h2]at ho;split at h
 .rename_i full z xs hg;rw[hg]at hv;simp only[VR,PV]at hv;obtain⟨ad,len,cap,e1,rfl,_⟩:=hv;simp at h;subst h;exact⟨_,by simp[execOp,ho,resolve,invoke,builtin,Builtin.len_,e1,K2 hts,goInt],GV _ _⟩
 .rename_i k n off len hg;rw[hg]at hv;simp only[VR]at hv;obtain⟨ad,cap,f,e1,_⟩:=hv;simp at h;subst h;exact⟨_,by simp[execOp,ho,resolve,invoke,builtin,Builtin.len_,e1,K2 hts,goInt],GV _ _⟩
 .rename_i b s off len hg;rw[hg]at hv;simp only[VR]at hv;obtain⟨_,cap,e1,_⟩:=hv;simp at h;subst h;exact⟨_,by simp[execOp,ho,resolve,invoke,builtin,Builtin.len_,e1,K2 hts,goInt],GV _ _⟩
 .cases h
theorem tI {args:Array Operand} {ats:Array TypeId} {x y:Operand} {x' y':Opd} {k k':IntKind} {i j:Int} (hf:FR E fr a.tmps) (ho:o.op=.call {callee:=.builtin .max,args:=args,argTypes:=ats}) (h1:args.toList=[x,y])
  (hx:C5 x=some x') (hy:C5 y=some y') (hi:get fr x'=.int k i) (hj:get fr y'=.int k' j):Bd P a o E (.int k (if j > i then j else i)):=by
 have e1:=C6 hf hx;have e2:=C6 hf hy;rw[hi]at e1;rw[hj]at e2;simp only[VR]at e1 e2;rw[VE h1]at ho;exact⟨_,by simp[execOp,ho,resolve,invoke,builtin,Builtin.max_,Builtin.max2,e1,e2],GV _ _⟩
theorem fO {w:World} {ok:Nat->Nat->Prop} {sz b o:Nat} {xs:E6} (h:NV w ok sz b o xs) (l n:Nat):NV w ok sz b (o+l*sz) ((xs.drop l).take n):=by
 refine OY λj x hx=>?_;have hj:(xs.drop l)[j]?=some x:=by
  rw[xo]at hx;split at hx
  .exact hx
  .cases hx
 rw[xn]at hj;have:=Lu h hj
 rwa [show o+(l+j)*sz=o+l*sz+j*sz from by rw[xz];omega]at this
theorem jM {w:World} {ok:Nat->Nat->Prop} {full full':Bool} {z sz:Nat} {xs:E6} {ad:Option Addr} {len cap l h m:Nat} (hv:PV w ok (.vs full z xs) (.slice ad len cap)) (hz:z=sz\/xs.length=0)
  (h1:l<=h) (h2:h<=len) (h3:h<=m) (h4:m<=cap) (hfull:full'=true->m=h) :
  PV w ok (.vs full' z ((xs.drop l).take (h-l))) (.slice (if m=l then ad else ad.map (·.add (l*sz))) (h-l) (m-l)):=by
 simp only[PV]at hv ⊢;obtain⟨ad',len',cap',e,e2,e3,e4,e5,e6,e7⟩:=hv;obtain⟨rfl,rfl,rfl⟩:ad=ad'/\len=len'/\cap=cap':=by simpa using e
 refine⟨_,_,_,rfl,by simp;omega,by omega,by omega,λhf=>by rw[hfull hf],?_,λM5=>?_⟩
 .have pd:(if m=l then ad else ad.map (·.add (l*sz)))=none↔ad=none:=by split<;>simp
  refine⟨λhn=>?_,pd.trans e6.2⟩;have:=e6.1 (pd.1 hn);omega
 .have A6:l<h:=by
   rcases yD l h with h' | h'
   .exact h'
   .exact absurd (by simp[show h-l=0 from by omega]) M5
  have rd:xs≠[]:=by intro hn;subst hn;simp at e2;omega
  obtain⟨b,q,rfl,hp,hels⟩:=e7 rd;rw[if_neg (by omega)];have Rp:z=sz:=by
   rcases hz with hz|hz
   .exact hz
   .exact absurd (List.eq_nil_of_length_eq_zero hz) rd
  subst Rp;exact⟨b,q+l*z,by simp[Bm],hp,fO hels l (h-l)⟩
theorem eS {t:TypeId} {x:Operand} {lo hi:Option Operand} {x':Opd} {lo' BV:Option Opd} {s:H7} {l u:Option Int} (hf:FR E fr a.tmps) (ho:o.op=.slice t x lo hi none) (ht:P.underlying t=some .string)
  (hx:C5 x=some x') (OE:Ev lo=some lo') (UO:Ev hi=some BV) (hg:get fr x'=.str s) (hl:O8 fr lo'=some l) (hu:O8 fr BV=some u)
  (h0:0<=l.getD 0) (h1:l.getD 0<=u.getD s.size) (h2:u.getD s.size<=s.size):Bd P a o E (.str (s.extract (l.getD 0).toNat (u.getD s.size).toNat)):=by
 have hv:=C6 hf hx;rw[hg]at hv;simp only[VR]at hv;have hb:=Gg (P:=P) (b:=false) E.w (R7 hf OE hl) (R7 hf UO hu) h0 h1 h2 (yA _);exact⟨_,by simp[execOp,ho,Instr.sliceAt,Instr.slice,K2 ht,hv,hb],ZC _⟩
theorem YJ {t e:TypeId} {x:Operand} {lo hi mx:Option Operand} {x':Opd} {lo' BV mx':Option Opd} {full full':Bool} {z n:Nat} {xs:E6} {l u m:Option Int} (hf:FR E fr a.tmps) (ho:o.op=.slice t x lo hi mx) (ht:P.underlying t=some (.slice e)) (hn:Program.size? P e=some n)
  (hx:C5 x=some x') (OE:Ev lo=some lo') (UO:Ev hi=some BV) (hmx:Ev mx=some mx') (hg:get fr x'=.vs full z xs) (hl:O8 fr lo'=some l) (hu:O8 fr BV=some u) (hm:O8 fr mx'=some m)
  (hz:z=n\/xs.length=0) (h0:0<=l.getD 0) (h1:l.getD 0<=u.getD xs.length)
  (hc:(m=none/\u.getD xs.length<=xs.length/\full'=(full&&decide (u.getD xs.length=xs.length)))\/(∃q,m=some q/\u.isSome=true/\u.getD xs.length<=q/\q<=xs.length/\full'=decide (q=u.getD xs.length))) :
  Bd P a o E (.vs full' z ((xs.drop (l.getD 0).toNat).take (u.getD xs.length-l.getD 0).toNat)):=by
 have hv:=C6 hf hx;rw[hg]at hv;simp only[VR]at hv;have hv':=hv;simp only[PV]at hv';obtain⟨ad,len,cap,e1,e2,e3,e4,e5,e6,e7⟩:=hv';rw[e1]at hv;subst e2;have etn:(u.getD xs.length-l.getD 0).toNat=(u.getD (xs.length:Int)).toNat-(l.getD 0).toNat:=by omega
 rw[etn];rcases hc with ⟨rfl,h2,hfull⟩|⟨q,rfl,hs,h2,h3,hfull⟩
 .have hmn:mx.map a.eval=none:=by
   rcases R7 hf hmx hm with ⟨_,h⟩|⟨k,i,h,_⟩
   .exact h
   .cases h
  have hb:=Gg (P:=P) (b:=true) (cap:=cap) E.w (R7 hf OE hl) (R7 hf UO hu) h0 h1 h2 e3;refine⟨_,by simp[execOp,ho,Instr.sliceAt,Instr.slice,K2 ht,e1,hmn,hb,Db hn];rfl,?_⟩;simp only[VR];refine jM hv hz (by omega) (by omega) (by omega) (yA _) λhf'=>?_;rw[hfull]at hf';simp at hf';have:=e5 hf'.1;omega
 .have hms:∃k,mx.map a.eval=some (.int k q):=by
   rcases R7 hf hmx hm with ⟨h,_⟩|⟨k,i,h,h'⟩
   .cases h
   .cases h;exact⟨k,h'⟩
  have hb:=KW (P:=P) (b:=true) (len:=xs.length) (cap:=cap) E.w (R7 hf OE hl) (R7 hf UO hu) hms hs h0 h1 h2 (by omega);refine⟨_,by simp[execOp,ho,Instr.sliceAt,Instr.slice,K2 ht,e1,hb,Db hn];rfl,?_⟩;simp only[VR];refine jM hv hz (by omega) (by omega) (by omega) (by omega) λhf'=>?_;rw[hfull]at hf';simp at hf';omega
theorem YI {t e:TypeId} {x:Operand} {lo hi mx:Option Operand} {x':Opd} {lo' BV mx':Option Opd} {n k m off len:Nat} {f:Fam} {l u q:Option Int} {v:AV} (hS:SR E) (hf:FR E fr a.tmps) (ho:o.op=.slice t x lo hi mx) (ht:P.underlying t=some (.slice e)) (hn:Program.size? P e=some n)
  (hx:C5 x=some x') (OE:Ev lo=some lo') (UO:Ev hi=some BV) (hmx:Ev mx=some mx') (hg:get fr x'=.sl k m off len) (hl:O8 fr lo'=some l) (hu:O8 fr BV=some u) (hm:O8 fr mx'=some q)
  (hfk:E.h.fams[k]?=some f) (hz:f.sz=n) (C2:f.xs.length=m)
  (hc:(q=none/\0<=l.getD 0/\l.getD 0<=u.getD len/\u.getD len<=len/\v=.sl k m (off+(l.getD 0).toNat) (u.getD len-l.getD 0).toNat)\/(q=some 0/\u.isSome=true/\l.getD 0=0/\u.getD len=0/\v=.vs true n [])) :
  Bd P a o E v:=by
 have hv:=C6 hf hx;rw[hg]at hv;simp only[VR]at hv;obtain⟨ad,cap,f',e1,e2,e3,e4⟩:=hv;have:f'=f:=by rw[hfk]at e2;simpa using e2.symm
 subst this;obtain⟨l1,l2,l3,l4,l5⟩:=e4 C2;have t6:=(hS.fams k f' hfk).room;rcases hc with ⟨rfl,h0,h1,h2,rfl⟩|⟨rfl,hs,h0,h1,rfl⟩
 .have hmn:mx.map a.eval=none:=by
   rcases R7 hf hmx hm with ⟨_,h⟩|⟨k,i,h,_⟩
   .exact h
   .cases h
  have hb:=Gg (P:=P) (b:=true) (len:=len) (cap:=cap) E.w (R7 hf OE hl) (R7 hf UO hu) h0 h1 h2 (by omega);have etn:(u.getD len-l.getD 0).toNat=(u.getD (len:Int)).toNat-(l.getD 0).toNat:=by omega
  rw[etn];refine⟨_,by simp[execOp,ho,Instr.sliceAt,Instr.slice,K2 ht,e1,hmn,hb,Db hn];rfl,?_⟩;simp only[VR];refine⟨_,_,f',rfl,hfk,⟨e3.1,λhlen0=>?_⟩,λ_=>⟨by omega,by omega,by omega,λhnone=>?_,λM5=>?_⟩⟩
  .obtain⟨b,q',had⟩:=e3.2 (by omega);rw[if_neg (by omega),had];simp only[yB,Bm];exact⟨_,_,rfl⟩
  .split at hnone
   .exact l4 hnone
   .exact l4 (by simpa using hnone)
  .rw[if_neg (by omega),l5 (by omega)];simp only[yB,Bm];congr 2;rw[show off+(l.getD 0).toNat-(E.im k).lo=(off-(E.im k).lo)+(l.getD 0).toNat from by omega,xz,hz];omega
 .have hms:∃k,mx.map a.eval=some (.int k 0):=by
   rcases R7 hf hmx hm with ⟨h,_⟩|⟨k,i,h,h'⟩
   .cases h
   .cases h;exact⟨k,h'⟩
  have hb:=KW (P:=P) (b:=true) (len:=len) (cap:=cap) E.w (R7 hf OE hl) (R7 hf UO hu) hms hs (by omega) (by omega) (by omega) (by omega);refine⟨.slice ad 0 0,by simp[execOp,ho,Instr.sliceAt,Instr.slice,K2 ht,e1,hb,Db hn,h0,h1],?_⟩;simp only[VR,PV];exact⟨_,_,_,rfl,rfl,yA _,by simp,λ_=>rfl,⟨λ_=>rfl,⟨λe=>absurd e l4,λe=>absurd (hS.fams k f' hfk).sz (by omega)⟩⟩,λh=>absurd rfl h⟩
end
section
variable {E:Env} {P:Program} {fr:Fr} {a:Act} {o:Oper}
def JZ (P:Program) (a:Act) (o:Oper) (E:Env) (v:AV) (h':AH):Prop :=
 ∃nx u E',(execOp a.eval o).run P E.w=.ok nx E'.w/\(nx=.value u\/(nx=.skip/\u=undef))/\Ext E E'/\SR E'/\E'.h=h'/\VR E' v u
theorem Bd.does {v:AV} (hS:SR E) (h:Bd P a o E v):JZ P a o E v E.h:=by
 obtain⟨u,h1,h2⟩:=h;exact⟨_,u,E,h1,.inl rfl,Ext.refl E,hS,rfl,h2⟩
theorem Nq {aas bs:E6} {us vs:List Value} (h1:x6 E aas us) (h2:x6 E bs vs):x6 E (aas++bs) (us++vs):=by
 refine Nr (by simp[FW h1,FW h2]) λj c u hc hu=>?_;have e:=FW h1;by_cases hj:j<aas.length
 .rw[xl hj]at hc;rw[xl (by omega)]at hu;obtain⟨u',h3,h4⟩:=(Ej h1).2 hc;rw[h3]at hu;cases hu;exact h4
 .rw[xk (by omega)]at hc;rw[xk (by omega),e]at hu;obtain⟨u',h3,h4⟩:=(Ej h2).2 hc;rw[h3]at hu;cases hu;exact h4
theorem RX {cs ds:E6} {us vs:List Value} (h1:x6 E cs us) (h2:x6 E ds vs) (off:Nat):x6 E (I9 cs off ds) (us.take off++vs++us.drop (off+vs.length)):=by
 unfold I9;rw[FW h2];exact Nq (Nq (Wc h1 _) h2) (Wb h1 _)
theorem Lv {w:World} {ok:Nat->Nat->Prop} {x:AV} {v:Value} (h:PV w ok x v) (ht:x.isTup=false):BT w ok x.cells v.cells.toList/\∀u∈v.cells.toList,u.oneCell'=true:=by
 cases x<;>simp only[PV]at h
 case tup=>simp[AV.isTup]at ht
 case agg cs=>obtain⟨us,rfl,h1,h2⟩:=h;exact⟨h2,h1⟩
 case junk =>
  have hc:v.cells=#[v]:=by cases v<;>simp_all [Value.oneCell',Value.cells]
  rw[hc];exact⟨by simp[AV.cells,BT,PV,h],by simpa using h⟩
 case vs=>obtain⟨ad,len,cap,rfl,h'⟩:=h;exact⟨by simp only[AV.cells,Value.cells,BT,PV];exact⟨_,_,rfl,⟨_,_,_,rfl,h'⟩,rfl⟩,by simp[Value.cells,Value.oneCell']⟩
 case pv=>obtain⟨b,q,rfl,h'⟩:=h;exact⟨by simp only[AV.cells,Value.cells,BT,PV];exact⟨_,_,rfl,⟨_,_,rfl,h'⟩,rfl⟩,by simp[Value.cells,Value.oneCell']⟩
 case fn=>obtain⟨us,rfl,h'⟩:=h;exact⟨by simp only[AV.cells,Value.cells,BT,PV];exact⟨_,_,rfl,⟨_,rfl,h'⟩,rfl⟩,by simp[Value.cells,Value.oneCell']⟩
 case vm=>obtain⟨b,es,clk,rfl,h1,h2,h3,h4⟩:=h;exact⟨by simp only[AV.cells,Value.cells,BT];exact⟨_,_,rfl,by simp only[PV];exact⟨b,es,clk,rfl,h1,h2,h3,h4⟩,rfl⟩,by simp[Value.cells,Value.oneCell']⟩
 all_goals (subst h;exact⟨by simp[AV.cells,Value.cells,BT,PV],by simp[Value.cells,Value.oneCell']⟩)
theorem FH {t:TypeId} {z:AV} (h:Program.zeroA P t=some z):∃i zv,P.info? t=some i/\i.zero=some zv/\zv.cells.size=i.size/\NF zv=some z/\z.isTup=false:=by
 unfold Program.zeroA at h;split at h
 .rename_i i hi;split at h
  .rename_i zv hz;split at h
   .rename_i x hx;split at h
    .rename_i hc;cases h;exact⟨i,zv,hi,hz,hc.1,hx,hc.2⟩
    .cases h
   .cases h
  .cases h
 .cases h
theorem rH {t:TypeId} {x:Operand} {x':Opd} (hS:SR E) (hf:FR E fr a.tmps) (ho:o.op=.box t x) (hx:C5 x=some x') (ht:(get fr x').isTup=false) :
  JZ P a o E (.ptr E.h.boxes.length 0) {E.h with boxes:=E.h.boxes++[(get fr x').cells]}:=by
 obtain⟨h1,h2⟩:=Ly (C6 hf hx) ht;refine⟨_,.pointer (some ⟨E.w.heap.size,0,none⟩),E.newBox (a.eval x).cells t (get fr x').cells,?_,.inl rfl,LF hS _ _ _,Pq hS h1 h2,rfl,?_⟩
 .simp only[execOp,ho,Instr.box,newVar,newRow,Sem.run_bind,run_newObj,Result.andThen_ok,Sem.run_pure,World.alloc_eq,Env.newBox]
 .simp only[VR,Env.newBox,X3];exact⟨by simp,trivial⟩
theorem jo {t:TypeId} {z:AV} (hS:SR E) (ho:o.op=.alloc t) (hz:Program.zeroA P t=some z) :
  JZ P a o E (.ptr E.h.boxes.length 0) {E.h with boxes:=E.h.boxes++[z.cells]}:=by
 obtain⟨i,zv,h1,h2,h3,h4,h5⟩:=FH hz;obtain⟨h6,h7⟩:=Ly (E:=E) (Bk _ _ (Cq h4)) h5;refine⟨_,.pointer (some ⟨E.w.heap.size,0,none⟩),E.newBox zv.cells t z.cells,?_,.inl rfl,LF hS _ _ _,Pq hS h6 h7,rfl,?_⟩
 .simp only[execOp,ho,Instr.alloc,newVar,newRow,zeroValue,typeInfo,run_program,Sem.run_bind,h1,h2,run_newObj,Result.andThen_ok,Sem.run_pure,World.alloc_eq,Env.newBox]
 .simp only[VR,Env.newBox,X3];exact⟨by simp,trivial⟩
theorem PM {t:TypeId} {b q:Nat} {v:Value} {cur:Array Value} {t':TypeId} {w:World} {n:Nat} (hn:Program.size? P t=some n) (hg:w.heap[b]?=some (.cells cur t' (0,0))) (hv:v.cells.size=n) (BU:q+n<=cur.size)
  (h1:∀u∈v.cells.toList,u.oneCell'=true) :
  (storeVar t ⟨b,q,none⟩ v).run P w=.ok () (w.setRow b (cur.toList.take q++v.cells.toList++cur.toList.drop (q+n)).toArray):=by
 have DH:=run_storeCells_at P b q t' v.cells.toList 0 cur w hg (by simp;omega) h1;simp only[yC,xu,hv]at DH;unfold storeVar;simp[Db hn,hv,DH]
theorem fk {t:TypeId} {x y:Operand} {x' y':Opd} {n b off:Nat} {cs:E6} (hS:SR E) (hf:FR E fr a.tmps) (ho:o.op=.store t x y) (hn:Program.size? P t=some n) (hx:C5 x=some x') (hy:C5 y=some y')
  (hg:get fr x'=.ptr b off) (HM:E.h.boxes[b]?=some cs) (hmb:CJ cs=false) (ht:(get fr y').isTup=false) (hl:(get fr y').cells.length=n) (BU:off+n<=cs.length) :
  JZ P a o E A9 {E.h with boxes:=E.h.boxes.set b (I9 cs off (get fr y').cells)}:=by
 have hv:=C6 hf hx;rw[hg]at hv;simp only[VR]at hv;obtain⟨hb,e⟩:=hv;obtain⟨h1,h2⟩:=Ly (C6 hf hy) ht;have hb1:=(hS.boxes b cs HM).1;obtain⟨cur,t',hc1,hc2,hc3⟩:=(hS.boxes b cs HM).row hmb;have K4:(a.eval y).cells.size=n:=by have:=FW h1;simp at this;omega
 have Cc:cur.size=cs.length:=by have:=FW hc2;simpa using this
 have hrun:=PM (P:=P) (q:=off) hn hc1 K4 (by omega) h2;have Lg:=RX hc2 h1 off;rw[show (a.eval y).cells.toList.length=n from by simp[K4]]at Lg;refine⟨_,undef,E.setBox b (cur.toList.take off++(a.eval y).cells.toList++cur.toList.drop (off+n)).toArray (I9 cs off (get fr y').cells),?_,.inr ⟨rfl,rfl⟩,Sm hS hb HM hmb _ _,ei hS HM hmb Lg ?_,rfl,Cd _⟩
 .simp only[execOp,ho,Instr.storeAt,e,Instr.sureAddr,Sem.run_bind,Sem.run_pure,Result.andThen_ok,hrun];rfl
 .intro u hu;simp only[List.mem_append]at hu;rcases hu with (hu|hu)|hu
  .exact hc3 u (xt hu)
  .exact h2 u hu
  .exact hc3 u (xr hu)
theorem Gh {α:Type} {l:List α} {off:Nat} {vs:List α} (BU:off+vs.length<=l.length) (j:Nat) :
  (l.take off++vs++l.drop (off+vs.length))[j]?=if j<off then l[j]? else if j<off+vs.length then vs[j-off]? else l[j]?:=by
 have hl:(l.take off).length=off:=by simp;omega
 by_cases h1:j<off
 .rw[if_pos h1,xy,xl (by omega),xo,if_pos h1]
 .rw[if_neg h1];by_cases h2:j<off+vs.length
  .rw[if_pos h2,xy,xk (by omega),hl,xl (by omega)]
  .rw[if_neg h2,xk (by simp;omega),xn];congr 1;simp;omega
theorem fl {t:TypeId} {x y:Operand} {x' y':Opd} {n k m i c sz:Nat} {f:Fam} {el u z:AV} (hS:SR E) (hf:FR E fr a.tmps) (ho:o.op=.store t x y) (hn:Program.size? P t=some n) (hx:C5 x=some x') (hy:C5 y=some y')
  (hg:get fr x'=.ep k m i c sz) (hfk:E.h.fams[k]?=some f) (hm:f.xs.length=m) (hmz:f.sz=sz) (hw:f.wr=true) (Pj:f.xs[i]?=some el) (hu:frz E.h false (get fr y')=some u)
  (hl:u.cells.length=n) (BU:c+n<=el.cells.length) (hzc:z.cells=I9 el.cells c u.cells) :
  JZ P a o E A9 {E.h with fams:=E.h.fams.set k {f with xs:=f.xs.set i z}}:=by
 have hv:=C6 hf hx;rw[hg]at hv;simp only[VR]at hv;obtain⟨b0,o0,f',e,hfk',_,had⟩:=hv;have:f'=f:=by rw[hfk]at hfk';simpa using hfk'.symm
 subst this;obtain⟨OE,hbo⟩:=had ⟨hm,hmz⟩;rw[hbo]at e;have hF:=hS.fams k f' hfk;obtain⟨cur,t',c1,c2,c3⟩:=hF.cells;obtain⟨e1,e2⟩:=c3 i el OE Pj;obtain⟨hPu,hut⟩:=IC hS (am:=false) (ok':=E.ok) ⟨λ_ _ h=>h,λh=>by cases h⟩ (C6 hf hy) hu;obtain⟨h1,h2⟩:=Lv hPu hut;obtain⟨hul,hug⟩:=Ei h1;have K4:(a.eval y).cells.size=n:=by simp at hul;omega
 have hi:i<f'.xs.length:=(xm.1 Pj).1;have t6:=hF.room;have N7:(E.im k).o+(i-(E.im k).lo)*f'.sz+f'.sz<=cur.size:=by
  have h3:(i-(E.im k).lo+1)*f'.sz<=(E.im k).cap*f'.sz:=xp _ (by omega);rw[xw]at h3;omega
 have hrun:=PM (P:=P) (q:=(E.im k).o+(i-(E.im k).lo)*f'.sz+c) hn c1 K4 (by omega) h2;obtain⟨us,Qq⟩:∃us:Array Value,us=(cur.toList.take ((E.im k).o+(i-(E.im k).lo)*f'.sz+c)++(a.eval y).cells.toList++cur.toList.drop ((E.im k).o+(i-(E.im k).lo)*f'.sz+c+n)).toArray:=⟨_,rfl⟩;rw[←Qq]at hrun;have hget:∀j:Nat,us[j]?=if j<(E.im k).o+(i-(E.im k).lo)*f'.sz+c then cur[j]? else if j<(E.im k).o+(i-(E.im k).lo)*f'.sz+c+n then (a.eval y).cells[j-((E.im k).o+(i-(E.im k).lo)*f'.sz+c)]? else cur[j]?:=by
  intro j;have:=Gh (l:=cur.toList) (off:=(E.im k).o+(i-(E.im k).lo)*f'.sz+c) (vs:=(a.eval y).cells.toList) (by simp;omega) j;simp only[xu,K4,Array.getElem?_toList]at this;rw[Qq,List.getElem?_toArray,this]
 have hussz:us.size=cur.size:=by rw[Qq];simp;omega
 refine⟨_,undef,E.setFam k us {f' with xs:=f'.xs.set i z},?_,.inr ⟨rfl,rfl⟩,
  Gf hS hfk c1 rfl rfl (by simp) (λh=>by rw[hw]at h;cases h),KT hS hfk c1 rfl rfl (by simp) (λh=>by rw[hw]at h;cases h) (by simpa using t6) hussz ?_,rfl,Cd _⟩
 .simp only[execOp,ho,Instr.storeAt,e,Instr.sureAddr,Sem.run_bind,Sem.run_pure,Result.andThen_ok,hrun];rfl
 .intro j x' hj hx';have hx'':(f'.xs.set i z)[j]?=some x':=hx';by_cases hij:i=j
  .subst hij;rw[List.getElem?_set_self hi]at hx'';cases hx'';refine⟨by rw[hzc];simp[I9];omega,λq y' hq=>?_⟩;rw[hzc]at hq;unfold I9 at hq;rw[Gh (by omega)]at hq;have hq':q<f'.sz:=by
    rcases yD q f'.sz with h|h
    .exact h
    .rw[if_neg (by omega),if_neg (by omega),List.getElem?_eq_none (by omega)]at hq;cases hq
   rw[hget];by_cases hqc:q<c
   .rw[if_pos hqc]at hq;rw[if_pos (by omega)];obtain⟨v,v1,v2,v3⟩:=e2 q y' hq;exact⟨v,by simpa using v1,v2,v3⟩
   .rw[if_neg hqc]at hq;by_cases hqn:q<c+u.cells.length
    .rw[if_pos hqn]at hq;rw[if_neg (by omega),if_pos (by omega)];obtain⟨v,v1,v2⟩:=hug hq;refine⟨v,?_,h2 v (List.mem_of_getElem? v1),v2⟩;rw[show (E.im k).o+(i-(E.im k).lo)*f'.sz+q-((E.im k).o+(i-(E.im k).lo)*f'.sz+c)=q-c from by omega];simpa using v1
    .rw[if_neg hqn]at hq;rw[if_neg (by omega),if_neg (by omega)];obtain⟨v,v1,v2,v3⟩:=e2 q y' hq;exact⟨v,by simpa using v1,v2,v3⟩
  .rw[List.getElem?_set_ne hij]at hx'';obtain⟨g1,g2⟩:=c3 j x' hj hx'';refine⟨g1,λq y' hq=>?_⟩;obtain⟨v,v1,v2,v3⟩:=g2 q y' hq;refine⟨v,?_,v2,v3⟩;have hqs:q<f'.sz:=by have:=(xm.1 hq).1;omega
   rw[hget];rcases Nat.lt_or_gt_of_ne (show j≠i from λe=>hij e.symm)with A6|hgt
   .have h3:(j-(E.im k).lo+1)*f'.sz<=(i-(E.im k).lo)*f'.sz:=xp _ (by omega);rw[xw]at h3;rw[if_pos (by omega)];simpa using v1
   .have h3:(i-(E.im k).lo+1)*f'.sz<=(j-(E.im k).lo)*f'.sz:=xp _ (by omega);rw[xw]at h3;rw[if_neg (by omega),if_neg (by omega)];simpa using v1
end
end Go.Abs
