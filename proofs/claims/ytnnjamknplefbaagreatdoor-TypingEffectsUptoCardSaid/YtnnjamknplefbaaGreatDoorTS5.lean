/- A part of the proof. -/
import Derived.Test.YtnnjamknplefbaaGreatDoorTS4
set_option linter.all false
open List renaming getElem?_drop->zf0z,getElem?_take->zf1z,getElem?_eq_some_iff->zf2z
open Array renaming toList_extract->zf3z
open Nat renaming add_mul->zf4z,le_refl->zf5z
open Option renaming map_some->zf6z
set_option linter.all false
namespace Go.Abs
open Go.RowKit (Below)
section
variable {E:Env} {P:Program} {fr:Fr} {a:Act} {o:Oper}
theorem zo{x:Operand}{y:Opd}(hf:FR E fr a.tmps)(ho:o.op=.move x\/o.op=.assign x)(hx:C5 x=some y):AE P a o E (get fr y):=by
 refine⟨a.eval x,?_,C4 hf hx⟩;rcases ho with ho|ho<;>simp[execOp,ho]
theorem q_pick{c x y:Operand}{c' x' y':Opd}{t:Bool}(hf:FR E fr a.tmps)(ho:o.op=.pick c x y)(hc:C5 c=some c')(hx:C5 x=some x')(hy:C5 y=some y')(hg:get fr c'=.bool t) :
  AE P a o E (if t then get fr x' else get fr y'):=by
 have h:=C4 hf hc;rw[hg]at h;simp only[VR]at h;refine⟨if t then a.eval x else a.eval y,?_,?_⟩
 .cases t<;>simp[execOp,ho,h,asBool]
 .cases t
  .exact C4 hf hy
  .exact C4 hf hx
theorem q_ld{t:TypeId}{x:Operand}{x':Opd}{b:Bool}{n:Nat}{v:AV}(hS:SR E)(hf:FR E fr a.tmps)(ho:o.op=.load t x)(hb:Program.agg? P t=some b)(hn:Program.size? P t=some n)(hx:C5 x=some x')
  (h:U4 E.h b n (get fr x')=some v):AE P a o E v:=by
 obtain⟨bl,of,cs,e1,e2,e3⟩:=QP hS (C4 hf hx) h;obtain⟨u,h1,h2⟩:=La (P:=P) e2 e3 hb hn;exact⟨u,by simp[execOp,ho,Instr.loadAt,Instr.sureAddr,e1,h1],h2⟩
theorem xI{x:Operand}{x':Opd}{v:AV}(hf:FR E fr a.tmps)(ho:o.op=.nilCheck x)(hx:C5 x=some x')
  (h:(match get fr x' with | .pv cs=>some (AV.pv cs,E.h) | .ptr b o=>some (.ptr b o,E.h) | .ep k n i q s=>some (.ep k n i q s,E.h) | .fn f cs=>some (.fn f cs,E.h)|_=>none)=some (v,E.h)):AE P a o E v:=by
 have hv:=C4 hf hx;refine⟨a.eval x,?_,?_⟩
 .split at h
  .rename_i hg;rw[hg]at hv;simp only[VR,PV]at hv;obtain⟨b,o',e,_⟩:=hv;simp[execOp,ho,e]
  .rename_i hg;rw[hg]at hv;simp only[VR]at hv;obtain⟨_,e⟩:=hv;simp[execOp,ho,e]
  .rename_i hg;rw[hg]at hv;simp only[VR]at hv;obtain⟨a',o',f,e,_⟩:=hv;simp[execOp,ho,e]
  .rename_i hg;rw[hg]at hv;simp only[VR]at hv;obtain⟨us,e,_⟩:=hv;simp[execOp,ho,e]
  .cases h
 .split at h<;>first|(cases h;done)|(rename_i hg;rw[hg]at hv;simp at h;rw[←h];exact hv)
theorem q_bin{op:BinOp}{t t':TypeId}{x y:Operand}{x' y':Opd}{v:AV}(hf:FR E fr a.tmps)(ho:o.op=.binOp op t x y t')(hx:C5 x=some x')(hy:C5 y=some y')
  (h:P0 op (get fr x') (get fr y')=some v):AE P a o E v:=by
 obtain⟨u,h1,h2⟩:=kN (P:=P) (t:=t) (C4 hf hx) (C4 hf hy) x y E.w h;refine⟨u,?_,h2⟩;simp only[execOp,ho,Sem.run_bind]at h1 ⊢;rw[h1];rfl
theorem zn{neg:Bool}{t t':TypeId}{x y:Operand}{x' y':Opd}{i j:Bool}(hf:FR E fr a.tmps)(ho:o.op=.binOp (if neg then .neq else .eql) t x y t')(ht:P.underlying t=some .bool)(hx:C5 x=some x')(hy:C5 y=some y')
  (hi:get fr x'=.bool i) (hj:get fr y'=.bool j):AE P a o E (.bool (if neg then !(i == j)else i == j)):=by
 have e1:=C4 hf hx;have e2:=C4 hf hy;rw[hi]at e1;rw[hj]at e2;simp only[VR]at e1 e2;refine⟨_,?_,Lv _⟩;have h:=kM (neg:=neg) (i:=i) (j:=j) ht x y E.w;simp only[execOp,ho,Sem.run_bind,e1,e2]at h ⊢;rw[h];rfl
theorem xJ{neg:Bool}{t e t':TypeId}{x y:Operand}{x':Opd}{full:Bool}{z:Nat}{xs:I7}(hf:FR E fr a.tmps)(ho:o.op=.binOp (if neg then .neq else .eql) t x y t')(ht:P.underlying t=some (.slice e))(hx:C5 x=some x')(hy:C5 y=some (.c (.vs true 0 [])))
  (hi:get fr x'=.vs full z xs):AE P a o E (.bool (if neg then !(z == 0)else z == 0)):=by
 have e1:=C4 hf hx;have e2:=C4 hf hy;rw[hi]at e1;simp only[get,VR,PV]at e1 e2;obtain⟨ad,len,cap,e3,e4,e5,e6,e7,e8,e9⟩:=e1;obtain⟨ad',len',cap',k3,k4,k5,k6,k7,k8,k9⟩:=e2;obtain rfl:ad'=none:=k8.2.2 trivial;obtain rfl:len'=0:=k4;obtain rfl:cap'=0:=k8.1 rfl;refine⟨_,?_,Lv _⟩;have h:=QR (neg:=neg) (ad:=ad) (len:=len) (cap:=cap) ht x y E.w;have hz:ad.isNone=(z == 0):=by
  cases ad with
  |none=>simp[e8.2.1 rfl]
  |some a =>
        have:z≠0:=λhz=>by have:=e8.2.2 hz;cases this
        simp[this]
 rw[hz]at h;simp only[execOp,ho,Sem.run_bind,e3,k3]at h ⊢;rw[h];rfl
theorem ik{neg:Bool}{t e t':TypeId}{x y:Operand}{x':Opd}{ad:Addr}{len cap:Nat}(hf:FR E fr a.tmps)(ho:o.op=.binOp (if neg then .neq else .eql) t x y t')(ht:P.underlying t=some (.slice e))(hx:C5 x=some x')(hy:C5 y=some (.c (.vs true 0 [])))
  (hi:a.eval x=.slice (some ad) len cap):AE P a o E (.bool neg):=by
 have e2:=C4 hf hy;simp only[get,VR,PV]at e2;obtain⟨ad',len',cap',k3,k4,k5,k6,k7,k8,k9⟩:=e2;obtain rfl:ad'=none:=k8.2.2 trivial;obtain rfl:len'=0:=k4;obtain rfl:cap'=0:=k8.1 rfl;refine⟨_,?_,Lv _⟩;have h:=QR (neg:=neg) (ad:=some ad) (len:=len) (cap:=cap) ht x y E.w;simp only[Option.isNone_some,Bool.not_false]at h;have hb:(if neg=true then true else false)=neg:=by cases neg<;>rfl
 rw[hb]at h;simp only[execOp,ho,Sem.run_bind,hi,k3]at h ⊢;rw[h];rfl
theorem q_nq{neg:Bool}{t e t':TypeId}{x y:Operand}{x':Opd}{v:AV}{h1:AH}(hf:FR E fr a.tmps)(ho:o.op=.binOp (if neg then .neq else .eql) t x y t')(ht:P.underlying t=some (.slice e))(hx:C5 x=some x')(hy:C5 y=some (.c (.vs true 0 [])))
  (hi:wi neg E.h (get fr x')=some (v,h1)):h1=E.h/\AE P a o E v:=by
 have e1:=C4 hf hx;unfold wi at hi;split at hi
 .rename_i hg;cases hi;exact⟨rfl,xJ hf ho ht hx hy hg⟩
 .rename_i hg;split at hi
  .cases hi
  .rename_i hl;cases hi;rw[hg]at e1;simp only[VR]at e1;obtain⟨ad,cap,f,e2,-,⟨-,e3⟩,-⟩:=e1;obtain⟨b,o',rfl⟩:=e3 hl;exact⟨rfl,ik hf ho ht hx hy e2⟩
 .rename_i hg;cases hi;rw[hg]at e1;simp only[VR]at e1;obtain⟨-,cap,e2,-⟩:=e1;exact⟨rfl,ik hf ho ht hx hy e2⟩
 .cases hi
theorem q_un{op:UnOp}{t:TypeId}{x:Operand}{x':Opd}{v:AV}(hf:FR E fr a.tmps)(ho:o.op=.unOp op t x)(hx:C5 x=some x')(h:LL op (get fr x')=some v):AE P a o E v:=by
 have hv:=C4 hf hx;generalize get fr x'=y at h hv;cases y<;>cases op<;>simp only[LL]at h<;>cases h
 .simp only[VR]at hv;refine⟨_,?_,Lv _⟩;simp only[execOp,ho,hv,Op.unary,Sem.run_bind,Sem.run_pure,Result.andThen_ok]
 .simp only[VR]at hv;refine⟨_,?_,Ef _ _⟩;simp only[execOp,ho,hv,Op.unary,Op.intArith,Sem.run_bind,Sem.run_pure,Result.andThen_ok]
theorem q_conv{s d:TypeId}{k k0:IntKind}{x:Operand}{x':Opd}{q:IntKind}{n:Int}(hf:FR E fr a.tmps)(ho:o.op=.convert s d x)(hs:P.underlying s=some (.int k0))(hd:P.underlying d=some (.int k))(hx:C5 x=some x')
  (hg:get fr x'=.int q n):AE P a o E (.int k (k.wrap n)):=by
 have hv:=C4 hf hx;rw[hg]at hv;simp only[VR]at hv;exact⟨_,by simp[execOp,ho,convert,M8 hs,M8 hd,hv,Conv.intToInt],Ef _ _⟩
theorem q_cstr{s d:TypeId}{x:Operand}{x':Opd}{n:AD}(hf:FR E fr a.tmps)(ho:o.op=.convert s d x)(hs:P.underlying s=some .string)(hd:P.underlying d=some .string)(hx:C5 x=some x')
  (hg:get fr x'=.str n):AE P a o E (.str n):=by
 have hv:=C4 hf hx;rw[hg]at hv;simp only[VR]at hv;exact⟨_,by simp[execOp,ho,convert,M8 hs,M8 hd,hv],dK _⟩
theorem q_clos{f:FuncId}{first caps:Array Operand}{cs:List Opd}(hf:FR E fr a.tmps)(ho:o.op=.makeFunc (.func f) first caps)(h0:first.size=0)(hc:GK C5 caps.toList=some cs) :
  AE P a o E (.fn f (cs.map (get fr))):=by
 have:first=#[]:=Array.size_eq_zero_iff.1 h0
 subst this;refine⟨.func (.func f) #[] (caps.map a.eval),by simp[execOp,ho,Instr.makeFunc],?_⟩;simp only[VR];exact⟨_,rfl,Ke hf hc⟩
theorem xE{s:TypeId}{x:Operand}{x':Opd}{i n:Nat}{fs:Array Field}{f:Field}{v:AV}(hf:FR E fr a.tmps)(ho:o.op=.fieldAddr s x i)(hs:P.underlying s=some (.struct fs))(hi:fs[i]?=some f)
  (hn:Program.size? P f.type=some n) (Z6:0<n) (hx:C5 x=some x')
  (h:(match get fr x' with | .pv cs=>some (AV.pv (cs.drop f.offset),E.h) | .ptr b o=>some (.ptr b (o+f.offset),E.h) | .ep k n i q s=>some (.ep k n i (q+f.offset) s,E.h)|_=>none)=some (v,E.h)):AE P a o E v:=by
 have hv:=C4 hf hx;have hp:∀b q,(fieldPlace ⟨b,q,none⟩ f).run P E.w=.ok ⟨b,q+f.offset,none⟩ E.w:=by
  intro b q;unfold fieldPlace;simp[DO hn,show ¬n=0 from by omega,Bj]
 split at h
 .rename_i cs hg;rw[hg]at hv;simp only[VR,PV]at hv;obtain⟨b,q,e,hc⟩:=hv;simp at h;subst h;refine⟨.pointer (some ⟨b,q+f.offset,none⟩),by simp[execOp,ho,Instr.fieldAt,M8 hs,hi,e,Instr.sureAddr,hp],?_⟩;simp only[VR,PV];refine⟨b,q+f.offset,rfl,IC λj c hc'=>?_⟩;rw[zf0z]at hc';have:=Af hc hc'
  rwa [show q+(f.offset+j)=q+f.offset+j from by omega]at this
 .rename_i b q hg;rw[hg]at hv;simp only[VR]at hv;obtain⟨hb,e⟩:=hv;simp at h;subst h;exact⟨.pointer (some ⟨E.nb b,q+f.offset,none⟩),by simp[execOp,ho,Instr.fieldAt,M8 hs,hi,e,Instr.sureAddr,hp],by simp only[VR];exact⟨hb,trivial⟩⟩
 .rename_i k m j q sz hg;rw[hg]at hv;simp only[VR]at hv;obtain⟨b,q',g,e,hg1,hg2,hg3⟩:=hv;simp at h;subst h;refine⟨.pointer (some ⟨b,q'+f.offset,none⟩),by simp[execOp,ho,Instr.fieldAt,M8 hs,hi,e,Instr.sureAddr,hp],?_⟩;simp only[VR];refine⟨b,_,g,rfl,hg1,hg2,λhm=>?_⟩;obtain⟨h1,h2⟩:=hg3 hm;simp only[Addr.mk.injEq]at h2 ⊢;exact⟨h1,h2.1,by omega,trivial⟩
 .cases h
theorem jH{t:TypeId}{b:Bool}(ha:Program.agg? P t=some b)(w:World):(isAgg t).run P w=.ok b w:=by
 unfold Program.agg? at ha;unfold isAgg underlying;split at ha<;>simp_all
theorem vd{cs:I7}{us:Array Value}{off n:Nat}(h:W5 E cs us.toList)(h1:∀u∈us.toList,u.oneCell'=true){b:Bool}{v:AV}(hv:P9 b n (cs.drop off)=some v) :
  (b=true->VR E v (.agg (us.extract off (off+n))))/\(b=false->∃u,us[off]?=some u/\VR E v u):=by
 obtain⟨hl,hg⟩:=Bi h;cases b with
 |true =>
  refine⟨λ_=>?_,λh=>by cases h⟩;simp only[P9]at hv;split at hv
  .rename_i Ju;cases hv;simp only[VR];have J3:us.size=cs.length:=by simpa using hl
   simp at Ju;refine⟨_,rfl,λu hu=>h1 u ?_,LB (by simp;omega) λj c u hc hu=>?_⟩
   .rw[zf3z]at hu;exact List.mem_of_mem_drop (List.mem_of_mem_take hu)
   .have hj:j<n:=by have:=(zf2z.1 hc).1;simp at this;omega
    rw[zf1z,if_pos hj,zf0z]at hc;obtain⟨u',h2,h3⟩:=hg hc;have:u=u':=by
     have h4:us.toList[off+j]?=some u:=by
      simp only[zf3z,List.extract_eq_take_drop,zf1z,zf0z]at hu;split at hu
      .exact hu
      .cases hu
     rw[h4]at h2;simpa using h2
    subst this;exact h3
  .cases hv
 |false =>
  refine⟨λh=>by (cases h),λ_=>?_⟩;simp only[P9]at hv;have h0:cs[off]?=some v:=by rw[←hv,List.head?_drop]
  obtain⟨u,h2,h3⟩:=hg h0;exact⟨u,by simpa using h2,h3⟩
theorem q_fld{s:TypeId}{x:Operand}{x':Opd}{i n:Nat}{fs:Array Field}{f:Field}{b:Bool}{cs:I7}{v:AV}(hf:FR E fr a.tmps)(ho:o.op=.field s x i)(hs:P.underlying s=some (.struct fs))(hi:fs[i]?=some f)
  (hb:Program.agg? P f.type=some b) (hn:Program.size? P f.type=some n) (hx:C5 x=some x') (hg:get fr x'=.agg cs) (h:P9 b n (cs.drop f.offset)=some v):AE P a o E v:=by
 have hv:=C4 hf hx;rw[hg]at hv;simp only[VR]at hv;obtain⟨us,e,h1,h2⟩:=hv;obtain⟨t1,t2⟩:=vd h2 h1 h;cases b with
 |true=>exact⟨_,by simp[execOp,ho,Instr.field,M8 hs,hi,e,asAgg,part,jH hb,DO hn],t1 rfl⟩
 |false =>
  obtain⟨u,h3,h4⟩:=t2 rfl;exact⟨u,by simp[execOp,ho,Instr.field,M8 hs,hi,e,asAgg,part,jH hb,h3],h4⟩
theorem xG{t e:TypeId}{x i:Operand}{x' i':Opd}{n:Nat}{v:AV}(hS:SR E)(hf:FR E fr a.tmps)(ho:o.op=.indexAddr t x i)(ht:P.underlying t=some (.slice e))(hn:Program.size? P e=some n)
  (hx:C5 x=some x') (hi:C5 i=some i')
  (h:(match get fr x',get fr i' with
   | .vs _ z xs,.int _ j=>if 0<=j/\z=n then (match xs[j.toNat]? with|some e=>some (AV.pv e.cells,E.h)|none=>none)else none
   | .sl k m off len,.int _ j=>if 0<=j/\j<len then some (.ep k m (off+j.toNat) 0 n,E.h)else none
   | .bsl b s off len,.int _ j=>if 0<=j/\j<len/\s=n then some (.ptr b (off+j.toNat*n),E.h)else none
   |_,_=>none)=some (v,E.h)):AE P a o E v:=by
 have hv:=C4 hf hx;have hw:=C4 hf hi;split at h
 .rename_i full z xs q j hg hj;rw[hg]at hv;rw[hj]at hw;simp only[VR,PV]at hv hw;split at h
  .rename_i hc;split at h
   .rename_i el LN;obtain⟨ad,len,cap,e1,e2,e3,e4,e5,e6,e7⟩:=hv;have G9:=(zf2z.1 LN).1;obtain⟨b,q',rfl,_,hels⟩:=e7 (by intro hn;subst hn;simp at G9);have hp:=IM hels LN;simp at h;subst h;have hjl:j<(len:Int):=by omega
    refine⟨.pointer (some ⟨b,q'+j.toNat*n,none⟩),?_,?_⟩
    .simp[execOp,ho,Instr.indexAt,hw,asIntOf,M8 ht,e1,hc.1,hjl,DO hn,Bj]
    .simp only[VR,PV];rw[hc.2]at hp;exact⟨b,_,rfl,hp.2⟩
   .cases h
  .cases h
 .rename_i k m off len q j hg hj;rw[hg]at hv;rw[hj]at hw;simp only[VR]at hv hw;split at h
  .rename_i hc;obtain⟨hj0,hjl⟩:=hc;obtain⟨ad,cap,f',e1,e2,⟨e3,e5⟩,e4⟩:=hv;obtain⟨b,q',rfl⟩:=e5 (by omega);simp at h;subst h;refine⟨.pointer (some ⟨b,q'+j.toNat*n,none⟩),?_,?_⟩
   .simp[execOp,ho,Instr.indexAt,hw,asIntOf,M8 ht,e1,hj0,hjl,DO hn,Bj]
   .simp only[VR];refine⟨_,_,f',rfl,e2,e3,λhm=>?_⟩;obtain⟨l1,l2,l3,l4,l5⟩:=e4 hm.1;have hF:=hS.fams k f' e2;have n8:=hF.room;have ead:=l5 (by omega);simp only[Option.some.injEq,Addr.mk.injEq]at ead;obtain⟨rfl,rfl,_⟩:=ead;refine⟨by omega,?_⟩;rw[←hm.2,Nat.add_zero,show off+j.toNat-(E.im k).lo=(off-(E.im k).lo)+j.toNat from by omega,zf4z,←Nat.add_assoc]
  .cases h
 .rename_i b s off len q j hg hj;rw[hg]at hv;rw[hj]at hw;simp only[VR]at hv hw;split at h
  .rename_i hc;obtain⟨hj0,hjl,rfl⟩:=hc;obtain⟨hb,cap,e1,e2,e3⟩:=hv;simp at h;subst h;refine⟨.pointer (some ⟨E.nb b,off+j.toNat*s,none⟩),?_,?_⟩
   .simp[execOp,ho,Instr.indexAt,hw,asIntOf,M8 ht,e1,hj0,hjl,DO hn,Bj]
   .simp only[VR];exact⟨hb,trivial⟩
  .cases h
 .cases h
theorem q_idx{t:TypeId}{x i:Operand}{x' i':Opd}{s:AD}{q:IntKind}{j:Int}{b:UInt8}(hf:FR E fr a.tmps)(ho:o.op=.index t x i)(ht:P.underlying t=some .string)(hx:C5 x=some x')(hi:C5 i=some i')
  (hg:get fr x'=.str s) (hj:get fr i'=.int q j) (h0:0<=j) (hb:s[j.toNat]?=some b):AE P a o E (.int .u8 b.toNat):=by
 have hv:=C4 hf hx;have hw:=C4 hf hi;rw[hg]at hv;rw[hj]at hw;simp only[VR]at hv hw;exact⟨_,by simp[execOp,ho,Instr.index,hw,hv,asIntOf,M8 ht,h0,hb],Ef _ _⟩
theorem q_ext{x:Operand}{x':Opd}{i:Nat}{vs:I7}{v:AV}(hf:FR E fr a.tmps)(ho:o.op=.extract x i)(hx:C5 x=some x')(hg:get fr x'=.tup vs)(h:vs[i]?=some v):AE P a o E v:=by
 have hv:=C4 hf hx;rw[hg]at hv;simp only[VR]at hv;obtain⟨us,e,h2⟩:=hv;obtain⟨u,h3,h4⟩:=(Bi h2).2 h;have h3':us[i]?=some u:=by simpa using h3
 exact⟨u,by simp[execOp,ho,Instr.extract,e,h3'],h4⟩
end
section
variable {E:Env} {P:Program} {fr:Fr} {a:Act} {o:Oper}
theorem Lx{α:Type}{aas:Array α}{x:α}(h:aas.toList=[x]):aas=#[x]:=by cases aas;simp_all
theorem Qz{α:Type}{aas:Array α}{x y:α}(h:aas.toList=[x,y]):aas=#[x,y]:=by cases aas;simp_all
theorem lk{args:Array Operand}{ats:Array TypeId}{x:Operand}{t:TypeId}{x':Opd}{s:AD}(hf:FR E fr a.tmps)(ho:o.op=.call {callee:=.builtin .len,args:=args,argTypes:=ats})(h1:args.toList=[x])(h2:ats.toList=[t])
  (hts:P.underlying t=some .string) (hx:C5 x=some x') (hs:get fr x'=.str s):AE P a o E (.int .i64 s.size):=by
 have hv:=C4 hf hx;rw[Lx h1,Lx h2]at ho;rw[hs]at hv;simp only[VR]at hv;exact⟨_,by simp[execOp,ho,resolve,invoke,builtin,Builtin.len_,hv,M8 hts,goInt],Ef _ _⟩
theorem q_len{args:Array Operand}{ats:Array TypeId}{x:Operand}{t e:TypeId}{x':Opd}{v:AV}(hf:FR E fr a.tmps)(ho:o.op=.call {callee:=.builtin .len,args:=args,argTypes:=ats})(h1:args.toList=[x])(h2:ats.toList=[t])
  (hts:P.underlying t=some (.slice e)) (hx:C5 x=some x')
  (h:(match get fr x' with | .vs _ _ xs=>some (AV.int .i64 xs.length,E.h) | .sl _ _ _ len=>some (.int .i64 len,E.h) | .bsl _ _ _ len=>some (.int .i64 len,E.h)|_=>none)=some (v,E.h)):AE P a o E v:=by
 have hv:=C4 hf hx;rw[Lx h1,Lx h2]at ho;split at h
 .rename_i full z xs hg;rw[hg]at hv;simp only[VR,PV]at hv;obtain⟨ad,len,cap,e1,rfl,_⟩:=hv;simp at h;subst h;exact⟨_,by simp[execOp,ho,resolve,invoke,builtin,Builtin.len_,e1,M8 hts,goInt],Ef _ _⟩
 .rename_i k n off len hg;rw[hg]at hv;simp only[VR]at hv;obtain⟨ad,cap,f,e1,_⟩:=hv;simp at h;subst h;exact⟨_,by simp[execOp,ho,resolve,invoke,builtin,Builtin.len_,e1,M8 hts,goInt],Ef _ _⟩
 .rename_i b s off len hg;rw[hg]at hv;simp only[VR]at hv;obtain⟨_,cap,e1,_⟩:=hv;simp at h;subst h;exact⟨_,by simp[execOp,ho,resolve,invoke,builtin,Builtin.len_,e1,M8 hts,goInt],Ef _ _⟩
 .cases h
theorem q_max{args:Array Operand}{ats:Array TypeId}{x y:Operand}{x' y':Opd}{k k':IntKind}{i j:Int}(hf:FR E fr a.tmps)(ho:o.op=.call {callee:=.builtin .max,args:=args,argTypes:=ats})(h1:args.toList=[x,y])
  (hx:C5 x=some x') (hy:C5 y=some y') (hi:get fr x'=.int k i) (hj:get fr y'=.int k' j):AE P a o E (.int k (if j > i then j else i)):=by
 have e1:=C4 hf hx;have e2:=C4 hf hy;rw[hi]at e1;rw[hj]at e2;simp only[VR]at e1 e2;rw[Qz h1]at ho;exact⟨_,by simp[execOp,ho,resolve,invoke,builtin,Builtin.max_,Builtin.max2,e1,e2],Ef _ _⟩
theorem q_min{args:Array Operand}{ats:Array TypeId}{x y:Operand}{x' y':Opd}{k k':IntKind}{i j:Int}(hf:FR E fr a.tmps)(ho:o.op=.call {callee:=.builtin .min,args:=args,argTypes:=ats})(h1:args.toList=[x,y])
  (hx:C5 x=some x') (hy:C5 y=some y') (hi:get fr x'=.int k i) (hj:get fr y'=.int k' j):AE P a o E (.int k (if j<i then j else i)):=by
 have e1:=C4 hf hx;have e2:=C4 hf hy;rw[hi]at e1;rw[hj]at e2;simp only[VR]at e1 e2;rw[Qz h1]at ho;exact⟨_,by simp[execOp,ho,resolve,invoke,builtin,Builtin.min_,Builtin.min2,e1,e2],Ef _ _⟩
theorem nT{w:World}{ok:Nat->Nat->Prop}{sz b o:Nat}{xs:I7}(h:Jn w ok sz b o xs)(l n:Nat):Jn w ok sz b (o+l*sz) ((xs.drop l).take n):=by
 refine Nk λj x hx=>?_;have hj:(xs.drop l)[j]?=some x:=by
  rw[zf1z]at hx;split at hx
  .exact hx
  .cases hx
 rw[zf0z]at hj;have:=IM h hj
 rwa [show o+(l+j)*sz=o+l*sz+j*sz from by rw[zf4z];omega]at this
theorem tN{w:World}{ok:Nat->Nat->Prop}{full full':Bool}{z sz:Nat}{xs:I7}{ad:Option Addr}{len cap l h m:Nat}(hv:PV w ok (.vs full z xs) (.slice ad len cap))(hz:z=sz\/xs.length=0)
  (h1:l<=h) (h2:h<=len) (h3:h<=m) (h4:m<=cap) (hfull:full'=true->m=h) :
  PV w ok (.vs full' z ((xs.drop l).take (h-l))) (.slice (if m=l then ad else ad.map (·.add (l*sz))) (h-l) (m-l)):=by
 simp only[PV]at hv ⊢;obtain⟨ad',len',cap',e,e2,e3,e4,e5,e6,e7⟩:=hv;obtain⟨rfl,rfl,rfl⟩:ad=ad'/\len=len'/\cap=cap':=by simpa using e
 refine⟨_,_,_,rfl,by simp;omega,by omega,by omega,λhf=>by rw[hfull hf],?_,λs9=>?_⟩
 .have hnn:(if m=l then ad else ad.map (·.add (l*sz)))=none↔ad=none:=by split<;>simp
  refine⟨λhn=>?_,hnn.trans e6.2⟩;have:=e6.1 (hnn.1 hn);omega
 .have G9:l<h:=by
   rcases Nat.lt_or_ge l h with h' | h'
   .exact h'
   .exact absurd (by simp[show h-l=0 from by omega]) s9
  have wY:xs≠[]:=by intro hn;subst hn;simp at e2;omega
  obtain⟨b,q,rfl,hp,hels⟩:=e7 wY;rw[if_neg (by omega)];have hzz:z=sz:=by
   rcases hz with hz|hz
   .exact hz
   .exact absurd (List.eq_nil_of_length_eq_zero hz) wY
  subst hzz;exact⟨b,q+l*z,by simp[Bj],hp,nT hels l (h-l)⟩
theorem ln{t:TypeId}{x:Operand}{lo hi:Option Operand}{x':Opd}{lo' Ai:Option Opd}{s:AD}{l u:Option Int}(hf:FR E fr a.tmps)(ho:o.op=.slice t x lo hi none)(ht:P.underlying t=some .string)
  (hx:C5 x=some x') (Na:FH lo=some lo') (XS:FH hi=some Ai) (hg:get fr x'=.str s) (hl:i4 fr lo'=some l) (hu:i4 fr Ai=some u)
  (h0:0<=l.getD 0) (h1:l.getD 0<=u.getD s.size) (h2:u.getD s.size<=s.size):AE P a o E (.str (s.extract (l.getD 0).toNat (u.getD s.size).toNat)):=by
 have hv:=C4 hf hx;rw[hg]at hv;simp only[VR]at hv;have hb:=KJ (P:=P) (b:=false) E.w (S8 hf Na hl) (S8 hf XS hu) h0 h1 h2 (zf5z _);exact⟨_,by simp[execOp,ho,Instr.sliceAt,Instr.slice,M8 ht,hv,hb],dK _⟩
theorem bI{t e:TypeId}{x:Operand}{lo hi mx:Option Operand}{x':Opd}{lo' Ai mx':Option Opd}{full full':Bool}{z n:Nat}{xs:I7}{l u m:Option Int}(hf:FR E fr a.tmps)(ho:o.op=.slice t x lo hi mx)(ht:P.underlying t=some (.slice e))(hn:Program.size? P e=some n)
  (hx:C5 x=some x') (Na:FH lo=some lo') (XS:FH hi=some Ai) (hmx:FH mx=some mx') (hg:get fr x'=.vs full z xs) (hl:i4 fr lo'=some l) (hu:i4 fr Ai=some u) (hm:i4 fr mx'=some m)
  (hz:z=n\/xs.length=0) (h0:0<=l.getD 0) (h1:l.getD 0<=u.getD xs.length)
  (hc:(m=none/\u.getD xs.length<=xs.length/\full'=(full&&decide (u.getD xs.length=xs.length)))\/(∃q,m=some q/\u.isSome=true/\u.getD xs.length<=q/\q<=xs.length/\full'=decide (q=u.getD xs.length))) :
  AE P a o E (.vs full' z ((xs.drop (l.getD 0).toNat).take (u.getD xs.length-l.getD 0).toNat)):=by
 have hv:=C4 hf hx;rw[hg]at hv;simp only[VR]at hv;have hv':=hv;simp only[PV]at hv';obtain⟨ad,len,cap,e1,e2,e3,e4,e5,e6,e7⟩:=hv';rw[e1]at hv;subst e2;have etn:(u.getD xs.length-l.getD 0).toNat=(u.getD (xs.length:Int)).toNat-(l.getD 0).toNat:=by omega
 rw[etn];rcases hc with ⟨rfl,h2,hfull⟩|⟨q,rfl,hs,h2,h3,hfull⟩
 .have hmn:mx.map a.eval=none:=by
   rcases S8 hf hmx hm with ⟨_,h⟩|⟨k,i,h,_⟩
   .exact h
   .cases h
  have hb:=KJ (P:=P) (b:=true) (cap:=cap) E.w (S8 hf Na hl) (S8 hf XS hu) h0 h1 h2 e3;refine⟨_,by simp[execOp,ho,Instr.sliceAt,Instr.slice,M8 ht,e1,hmn,hb,DO hn];rfl,?_⟩;simp only[VR];refine tN hv hz (by omega) (by omega) (by omega) (zf5z _) λhf'=>?_;rw[hfull]at hf';simp at hf';have:=e5 hf'.1;omega
 .have hms:∃k,mx.map a.eval=some (.int k q):=by
   rcases S8 hf hmx hm with ⟨h,_⟩|⟨k,i,h,h'⟩
   .cases h
   .cases h;exact⟨k,h'⟩
  have hb:=GT (P:=P) (b:=true) (len:=xs.length) (cap:=cap) E.w (S8 hf Na hl) (S8 hf XS hu) hms hs h0 h1 h2 (by omega);refine⟨_,by simp[execOp,ho,Instr.sliceAt,Instr.slice,M8 ht,e1,hb,DO hn];rfl,?_⟩;simp only[VR];refine tN hv hz (by omega) (by omega) (by omega) (by omega) λhf'=>?_;rw[hfull]at hf';simp at hf';omega
theorem OX{t e:TypeId}{x:Operand}{lo hi mx:Option Operand}{x':Opd}{lo' Ai mx':Option Opd}{n k m off len:Nat}{f:Fam}{l u q:Option Int}{v:AV}(hS:SR E)(hf:FR E fr a.tmps)(ho:o.op=.slice t x lo hi mx)(ht:P.underlying t=some (.slice e))(hn:Program.size? P e=some n)
  (hx:C5 x=some x') (Na:FH lo=some lo') (XS:FH hi=some Ai) (hmx:FH mx=some mx') (hg:get fr x'=.sl k m off len) (hl:i4 fr lo'=some l) (hu:i4 fr Ai=some u) (hm:i4 fr mx'=some q)
  (hfk:E.h.fams[k]?=some f) (hz:f.sz=n) (J3:f.xs.length=m)
  (hc:((q=none/\0<=l.getD 0/\l.getD 0<=u.getD len/\(u.getD len<=len\/off+u.getD len<=m)/\v=.sl k m (off+(l.getD 0).toNat) (u.getD len-l.getD 0).toNat)\/(q=some 0/\u.isSome=true/\l.getD 0=0/\u.getD len=0/\v=.vs true n [])) \/
   ∃q',q=some q'/\u.isSome=true/\0<=l.getD 0/\l.getD 0<=u.getD len/\u.getD len<=q'/\off+q'<=m/\v=.junk) :
  AE P a o E v:=by
 have hv:=C4 hf hx;rw[hg]at hv;simp only[VR]at hv;obtain⟨ad,cap,f',e1,e2,e3,e4⟩:=hv;have:f'=f:=by rw[hfk]at e2;simpa using e2.symm
 subst this;obtain⟨l1,l2,l3,l4,l5⟩:=e4 J3;have n8:=(hS.fams k f' hfk).room;rcases hc with (⟨rfl,h0,h1,h2,rfl⟩|⟨rfl,hs,h0,h1,rfl⟩)|⟨q',rfl,hs,h0,h1,h2,h3,rfl⟩
 .have hmn:mx.map a.eval=none:=by
   rcases S8 hf hmx hm with ⟨_,h⟩|⟨k,i,h,_⟩
   .exact h
   .cases h
  have hcap:u.getD (len:Int)<=cap:=by omega
  have hrow:off+(u.getD (len:Int))<=m:=by omega
  have hb:=Qs (P:=P) (len:=len) (cap:=cap) E.w (S8 hf Na hl) (S8 hf XS hu) h0 h1 hcap;have etn:(u.getD len-l.getD 0).toNat=(u.getD (len:Int)).toNat-(l.getD 0).toNat:=by omega
  rw[etn];refine⟨_,by simp[execOp,ho,Instr.sliceAt,Instr.slice,M8 ht,e1,hmn,hb,DO hn];rfl,?_⟩;simp only[VR];refine⟨_,_,f',rfl,hfk,⟨e3.1,λhlen0=>?_⟩,λ_=>⟨by omega,by omega,by omega,λhnone=>?_,λs9=>?_⟩⟩
  .have had:=l5 (by omega);rw[if_neg (by omega),had];simp only[zf6z,Bj];exact⟨_,_,rfl⟩
  .split at hnone
   .exact l4 hnone
   .exact l4 (by simpa using hnone)
  .rw[if_neg (by omega),l5 (by omega)];simp only[zf6z,Bj];congr 2;rw[show off+(l.getD 0).toNat-(E.im k).lo=(off-(E.im k).lo)+(l.getD 0).toNat from by omega,zf4z,hz];omega
 .have hms:∃k,mx.map a.eval=some (.int k 0):=by
   rcases S8 hf hmx hm with ⟨h,_⟩|⟨k,i,h,h'⟩
   .cases h
   .cases h;exact⟨k,h'⟩
  have hb:=GT (P:=P) (b:=true) (len:=len) (cap:=cap) E.w (S8 hf Na hl) (S8 hf XS hu) hms hs (by omega) (by omega) (by omega) (by omega);refine⟨.slice ad 0 0,by simp[execOp,ho,Instr.sliceAt,Instr.slice,M8 ht,e1,hb,DO hn,h0,h1],?_⟩;simp only[VR,PV];exact⟨_,_,_,rfl,rfl,zf5z _,by simp,λ_=>rfl,⟨λ_=>rfl,⟨λe=>absurd e l4,λe=>absurd (hS.fams k f' hfk).sz (by omega)⟩⟩,λh=>absurd rfl h⟩
 .have hms:∃k,mx.map a.eval=some (.int k q'):=by
   rcases S8 hf hmx hm with ⟨h,_⟩|⟨k,i,h,h'⟩
   .cases h
   .cases h;exact⟨k,h'⟩
  have hb:=GT (P:=P) (b:=true) (len:=len) (cap:=cap) E.w (S8 hf Na hl) (S8 hf XS hu) hms hs h0 h1 h2 (by omega);refine⟨_,by simp[execOp,ho,Instr.sliceAt,Instr.slice,M8 ht,e1,hb,DO hn];rfl,?_⟩;simp[VR,Value.oneCell']
end
end Go.Abs
