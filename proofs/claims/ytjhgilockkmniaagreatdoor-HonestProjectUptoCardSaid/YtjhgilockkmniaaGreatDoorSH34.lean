/- A part of the proof. -/
import Derived.Test.YtjhgilockkmniaaGreatDoorSH33
import Derived.ProofKit
import Derived.WalkKit
import Derived.Lib.Strings
import Derived.Lib.Slices
import Derived.Lib.Walk
import Derived.Lib.Bytealg
import Derived.KernelRfl
set_option linter.all false
open Nat renaming zero_add->zf0z,div->zf4z,beq->zf5z,zero_le->zf6z,sub->zf7z
open Array renaming size_append->zf1z
open List renaming getElem?_eq_some_iff->zf2z,replicate->zf3z
namespace Go.Abs
open Go.RowKit (Below)
section
variable {P:Program} {E:Env}
structure InsLaw0 (P:Program) (f:FuncId) (K bytes:Nat):Prop where
 pos:0<K
 enter:Program.enterable P f=true
 newR:∀(w:World) (base:Option Addr) (vb vo vc:Nat) (vs:List Value),bytes<=G3->vs.length=K->(∀j v,vs[j]?=some v->w.cell? ⟨vb,vo+j,none⟩=some v)->(∀v∈vs,v.oneCell'=true) ->
  Calls P f #[.slice base 0 0,.int .i64 0,.slice (some ⟨vb,vo,none⟩) 1 vc] w λe w'=>∃(q G:Nat) (us:Array Value) (t:TypeId),e=.returned (.slice (some ⟨w.heap.size,0,none⟩) 1 G)/\w'=(w.drewN q).alloc (.cells us t)/\1<=G/\G<=maxLen/\G*K<=us.size /\
   ∀j,j<K->us[j]?=vs[j]?
theorem Ve {f:FuncId} {K bytes:Nat} (L:InsLaw0 P f K bytes) (O:Orc) (args:C6) (h:AH) (r:AV) (h':AH) (he:(bX K bytes).run O args h=some (r,h')):Program.enterable P f=true /\
  ∀(E:Env) (vs:Array Value),SR E->CS E.w E.ok->E.h=h->V6 E args vs.toList ->
   Calls P f vs E.w λe w'=>∃u E',e=.returned u/\w'=E'.w/\Ext E E'/\SR E'/\E'.h=h'/\VR E' r u:=by
 refine⟨L.enter,λE avs hS _ hh hv=>?_⟩;subst hh;change RU K bytes args E.h=some (r,h')at he;unfold RU at he;split at he
 .rename_i z' i0 x0;unfold OS at he;split at he
  .rename_i s i q z x heq;cases heq;split at he
   .rename_i hc0;obtain⟨hzK,hag⟩:=hc0;obtain⟨avs⟩:=avs;simp only[V6]at hv;obtain⟨v0,_,rfl,hv0,v1,_,rfl,hv1,v2,_,rfl,hv2,rfl⟩:=hv;simp only[VR]at hv1;subst hv1;obtain⟨vb,vo,vc,vs,rfl,hvl,hvc,hv1c,hvr,hK⟩:=QX hS hzK hv2;have hvc1:∀j u,vs[j]?=some u->E.w.cell? ⟨vb,vo+j,none⟩=some u:=λj u hu=>(hvc j u hu).1;simp only at he;split at he
    .rename_i hc;obtain⟨rfl,hb⟩:=hc;cases he;simp only[VR,PV]at hv0;obtain⟨base,len,cap,rfl,rfl,_,_,h4',_,_⟩:=hv0;have hcap:cap=0:=h4' trivial;subst hcap;refine(L.newR E.w base vb vo vc vs hb hvl hvc1 hv1c).mono λe w' ⟨q,G,us,te,h1,h2,h3,h4,h5,h6⟩=>?_;have x1:=AF hS (DR E.w q);have s1:=Df hS (DR E.w q);refine⟨_,({E with w:=E.w.drewN q}:Env).newFam us te G ⟨[x],K,true⟩,h1,h2,x1.trans (FP s1 _ _ _ _),IW s1 hK (by simpa using h3) h4 h5 (λj y hy=>?_),rfl,?_⟩
     .obtain⟨g1,g2⟩:=JR x1 hvr j y hy;refine⟨g1,λc y' hy'=>?_⟩;obtain⟨v,v1,v2⟩:=g2 c y' hy';have hjn:j=0:=by have:=(zf2z.1 hy).1;simpa using this
      have hcK:c<K:=by have:=(zf2z.1 hy').1;omega
      subst hjn;rw[Nat.zero_mul,zf0z]at v1 ⊢;exact⟨v,by rw[h6 _ hcK];exact v1,v2⟩
     .simp only[VR,Env.newFam,O6];exact⟨_,_,⟨[x],K,true⟩,rfl,by simp,⟨by simp,λ_=>⟨_,_,rfl⟩⟩,λ_=>⟨zf6z _,by simp,by simp,(λh=>nomatch h),λ_=>by simp⟩⟩
    .cases he
   .cases he
  .cases he
 .cases he
structure GrowLaw (P:Program) (f:FuncId) (K bytes:Nat):Prop where
 pos:0<K
 enter:Program.enterable P f=true
 zero:∀(w:World) (base:Option Addr),Calls P f #[.slice base 0 0,.int .i64 0] w λe w'=>e=.returned (.slice base 0 0)/\w'=w
 some:∀(w:World) (base:Option Addr) (n:Nat),0<n->n*bytes<=G3->n<=maxLen ->
  Calls P f #[.slice base 0 0,.int .i64 n] w λe w'=>∃(q G:Nat) (us:Array Value) (t:TypeId),e=.returned (.slice (some ⟨w.heap.size,0,none⟩) 0 G)/\w'=(w.drewN q).alloc (.cells us t)/\G<=maxLen/\G*K<=us.size
theorem OP {f:FuncId} {K bytes:Nat} {b:Bool} (L:GrowLaw P f K bytes) (O:Orc) (args:C6) (h:AH) (r:AV) (h':AH) (he:(TR K bytes b).run O args h=some (r,h')):Program.enterable P f=true /\
  ∀(E:Env) (vs:Array Value),SR E->CS E.w E.ok->E.h=h->V6 E args vs.toList ->
   Calls P f vs E.w λe w'=>∃u E',e=.returned u/\w'=E'.w/\Ext E E'/\SR E'/\E'.h=h'/\VR E' r u:=by
 refine⟨L.enter,λE avs hS _ hh hv=>?_⟩;subst hh;change RS K bytes b args E.h=some (r,h')at he;unfold RS at he;split at he
 .rename_i z n;obtain⟨avs⟩:=avs;simp only[V6]at hv;obtain⟨v0,_,rfl,hv0,v1,_,rfl,hv1,rfl⟩:=hv;simp only[VR]at hv1;subst hv1;have hv0':=hv0;simp only[VR,PV]at hv0;obtain⟨base,len,cap,rfl,rfl,_,_,h4',_,_⟩:=hv0;have hcap:cap=0:=h4' trivial;subst hcap;split at he
  .rename_i h0;subst h0;cases he;exact(L.zero E.w base).mono λe w' ⟨h1,h2⟩=>⟨_,E,h1,h2,Ext.refl E,hS,rfl,hv0'⟩
  .split at he
   .rename_i hc;obtain⟨c1,c2,c3⟩:=hc;cases he;obtain⟨m,rfl⟩:∃m:Nat,n=m:=⟨n.toNat,by omega⟩;refine(L.some E.w base m (by omega) (by exact_mod_cast c2) (by exact_mod_cast c3)).mono λe w' ⟨q,G,us,te,h1,h2,h3,h4⟩=>?_;have x1:=AF hS (DR E.w q);have s1:=Df hS (DR E.w q);refine⟨_,({E with w:=E.w.drewN q}:Env).newFam us te G ⟨[],K,b⟩,h1,h2,x1.trans (FP s1 _ _ _ _),IW s1 L.pos (zf6z _) h3 h4 (λj y hy=>by simp at hy),rfl,?_⟩
    simp only[VR,Env.newFam,O6];exact⟨_,_,⟨[],K,b⟩,rfl,by simp,⟨by simp,λh=>absurd rfl h⟩,λ_=>⟨zf6z _,by simp,by simp,(λh=>nomatch h),λ_=>by simp⟩⟩
   .cases he
 .cases he
end
end Go.Abs
set_option linter.unusedVariables false
set_option linter.unusedSimpArgs false
namespace Go.Proofs
open Go.RowKit Go.Lib Go.Abs
theorem Tryz.powsUnd:Tryz.prog.underlying 334=some (.slice 372):=by kernel_rfl
set_option maxHeartbeats 4000000 in
set_option maxRecDepth 100000 in
theorem Tryz.insp_nil (base:Option Addr) (vb vo vc:Nat) (vs:List Value) (w:World) (i0:TypeInfo) (z:Value) (hi0:Tryz.prog.info? 372=some i0) (hz0:i0.zero=some z) (K3:i0.size=5) (hbig:i0.bytes<=140737488355328)
  (hvl:vs.length=5) (HA:∀j v,vs[j]?=some v->w.cell? ⟨vb,vo+j,none⟩=some v) (h1v:∀v∈vs,v.oneCell'=true) :
  Calls Tryz.prog 382 #[.slice base 0 0,.int .i64 0,.slice (some ⟨vb,vo,none⟩) 1 vc] w λe w'=>e=.returned (.slice (some ⟨w.heap.size,0,none⟩) 1 (grownCap w 1 0 372)) /\
   w'=w.drew.alloc (.cells (vs.toArray++Builtin.zeroCells z.cells (grownCap w 1 0 372-1)) 372):=by
 have hsrc:Src Tryz.prog i0.size 334 (.slice (some ⟨vb,vo,none⟩) 1 vc) 1 vs w:=Src.ofSlice w Tryz.powsUnd ⟨vb,vo,none⟩ 1 vc vs (by rw[K3,hvl]) (λj u hj=>by rw[Addr.add_lit];exact HA j u hj) h1v;have hold:(Builtin.firstCells i0.size 0 (.slice base 0 0)).run Tryz.prog w.drew=.ok ([]:List Value).toArray w.drew:=by
  rw[K3];cases base with
  |none=>exact run_firstCells_none w.drew 5 0 0 0
  |some a=>exact run_firstCells_some w.drew 5 0 a 0 0 [] rfl (λj v hj=>by simp at hj)
 have hrun:∀ty,(Builtin.append_ #[334,334] ty #[.slice base 0 0,.slice (some ⟨vb,vo,none⟩) 1 vc]).run Tryz.prog w=_:=λty =>
  run_append_grow_src w 334 334 ty 372 i0 z Tryz.powsUnd hi0 hz0 base 0 0 [] hold _ 1 vs hsrc (by omega) (by omega) (growslice_fits (by omega) (by rw[zf0z,Nat.one_mul];exact hbig))
 rw[zf0z,List.nil_append]at hrun;generalize hG:grownCap w 1 0 372=G at *
 generalize hR:vs.toArray++Builtin.zeroCells z.cells (G-1)=R at *
 clear hR hold hsrc hG
 go_enter Tryz.func382,Tryz.ntmps382
 cases base with
 |none =>
  go_wp2_with (at_builtin;refine Lib.wpList_append_run _ rfl _ _ _ _ rfl _ _ rfl rfl _ _ (hrun _) ?_)
  go_ret
  exact⟨rfl,rfl⟩
 |some a =>
  obtain⟨ab,ao,asp⟩:=a
  go_wp2_with (at_builtin;refine Lib.wpList_append_run _ rfl _ _ _ _ rfl _ _ rfl rfl _ _ (hrun _) ?_)
  all_goals (go_ret;exact⟨rfl,rfl⟩)
set_option maxRecDepth 100000 in
theorem Tryz.insLawP:InsLaw0 Tryz.prog 382 5 64:=by
 obtain⟨i0,z,hi0,K3,hz0,hzs,hby⟩:∃i0 z,Tryz.prog.info? 372=some i0/\i0.size=5/\i0.zero=some z/\z.cells.size=5/\i0.bytes=64:=⟨_,_,rfl,by kernel_rfl,rfl,by kernel_rfl,by kernel_rfl⟩;refine⟨by omega,by kernel_rfl,?_⟩;intro w base vb vo vc vs hb hvl HA h1v;have hG1:=grownCap_ge w 1 0 372;have hG2:=grownCap_le_maxLen w 1 0 372 (by unfold maxLen;omega);refine(Tryz.insp_nil base vb vo vc vs w i0 z hi0 hz0 K3 (by rw[hby];omega) hvl HA h1v).mono λe w' ⟨h1,h2⟩=>⟨1,_,_,_,h1,h2,hG1,hG2,?_,?_⟩
 .rw[zf1z,size_zeroCells,hzs,List.size_toArray,hvl];omega
 .intro j hj;rw[Array.getElem?_append_left (by simp;omega),List.getElem?_toArray]
set_option maxHeartbeats 4000000 in
set_option maxRecDepth 100000 in
theorem Tryz.growZero (base:Option Addr) (w:World):Calls Tryz.prog 260 #[.slice base 0 0,.int .i64 0] w λe w'=>e=.returned (.slice base 0 0)/\w'=w:=by
 go_enter Tryz.func260,Tryz.ntmps260
 go_wp2
 go_ret
 exact⟨rfl,rfl⟩
set_option maxHeartbeats 4000000 in
set_option maxRecDepth 100000 in
theorem Tryz.growSome (base:Option Addr) (n:Nat) (w:World) (i0:TypeInfo) (z:Value) (hi0:Tryz.prog.info? 41=some i0) (hz0:i0.zero=some z) (K3:i0.size=4) (h0:0<n) (hm:n<=maxLen) (hbig:n*i0.bytes<=140737488355328) :
  Calls Tryz.prog 260 #[.slice base 0 0,.int .i64 n] w λe w'=>e=.returned (.slice (some ⟨w.heap.size,0,none⟩) 0 (grownCap w n 0 41)) /\
   w'=w.drew.alloc (.cells (Builtin.zeroCells z.cells n++Builtin.zeroCells z.cells (grownCap w n 0 41-n)) 41):=by
 have nD:maxLen<=9223372036854775807:=by unfold maxLen;omega
 have mixed:Tryz.prog.follows Departure.mixedOrders=true:=by kernel_rfl
 have hold:(Builtin.firstCells i0.size 0 (.slice base 0 0)).run Tryz.prog w.drew=.ok ([]:List Value).toArray w.drew:=by
  rw[K3];cases base with
  |none=>exact run_firstCells_none w.drew 4 0 0 0
  |some a=>exact run_firstCells_some w.drew 4 0 a 0 0 [] rfl (λj v hj=>by simp at hj)
 have hrz:∀ty,(Builtin.append_ #[39,3] ty #[.slice base 0 0,.int .i64 (n:Int)]).run Tryz.prog w =
   .ok (.slice (some ⟨w.heap.size,0,none⟩) n (grownCap w n 0 41)) (w.drew.alloc (.cells (Builtin.zeroCells z.cells n++Builtin.zeroCells z.cells (grownCap w n 0 41-n)) 41)):=λty=>by
  have h:=Lib.run_append_grow_zeros w 39 3 ty 41 i0 z .i64 .i64 Tryz.termsUnd Tryz.intUnd hi0 hz0 base 0 0 [] hold n (by omega) (by omega) (by omega) (by omega) (by omega)
   (by rw[zf0z];exact growslice_fits (need:=n) (by omega) hbig)
  rw[zf0z]at h;simpa using h
 have hG63:grownCap w n 0 41<=9223372036854775807:=by
  have:=grownCap_le_maxLen w n 0 41 hm;omega
 generalize hG:grownCap w n 0 41=G at *
 generalize hR:Builtin.zeroCells z.cells n++Builtin.zeroCells z.cells (G-n)=R at *
 have h1:¬((n:Int)<0):=by omega
 have h2:wrap64 (n:Int)=(n:Int):=by unfold wrap64;omega
 have h4:(n:Int) > 0:=by omega
 clear hR hold hG
 go_enter Tryz.func260,Tryz.ntmps260
 cases base with
 |none =>
  go_wp2_with (at_builtin;refine Lib.wpList_append_run _ rfl _ _ _ _ rfl _ _ rfl rfl _ _ (hrz _) ?_)
  all_goals (go_ret;exact⟨rfl,rfl⟩)
 |some a =>
  obtain⟨ab,ao,asp⟩:=a
  go_wp2_with (at_builtin;refine Lib.wpList_append_run _ rfl _ _ _ _ rfl _ _ rfl rfl _ _ (hrz _) ?_)
  all_goals (go_ret;exact⟨rfl,rfl⟩)
set_option maxRecDepth 100000 in
theorem Tryz.growLaw:GrowLaw Tryz.prog 260 4 56:=by
 obtain⟨i0,z,hi0,K3,hz0,hzs,hby⟩:∃i0 z,Tryz.prog.info? 41=some i0/\i0.size=4/\i0.zero=some z/\z.cells.size=4/\i0.bytes=56:=⟨_,_,rfl,by kernel_rfl,rfl,by kernel_rfl,by kernel_rfl⟩;refine⟨by omega,by kernel_rfl,λw base=>Tryz.growZero base w,λw base n h0 hb hm=>?_⟩;have hG1:=grownCap_ge w n 0 41;refine(Tryz.growSome base n w i0 z hi0 hz0 K3 h0 hm (by rw[hby];exact hb)).mono λe w' ⟨h1,h2⟩=>⟨1,_,_,_,h1,h2,grownCap_le_maxLen w n 0 41 hm,?_⟩;rw[zf1z,size_zeroCells,size_zeroCells,hzs];omega
theorem Tryz.bindsUnd:Tryz.prog.underlying 182=some (.slice 230):=by kernel_rfl
set_option maxHeartbeats 4000000 in
set_option maxRecDepth 100000 in
theorem Tryz.growZeroB (base:Option Addr) (w:World):Calls Tryz.prog 268 #[.slice base 0 0,.int .i64 0] w λe w'=>e=.returned (.slice base 0 0)/\w'=w:=by
 go_enter Tryz.func268,Tryz.ntmps268
 go_wp2
 go_ret
 exact⟨rfl,rfl⟩
set_option maxHeartbeats 4000000 in
set_option maxRecDepth 100000 in
theorem Tryz.growSomeB (base:Option Addr) (n:Nat) (w:World) (i0:TypeInfo) (z:Value) (hi0:Tryz.prog.info? 230=some i0) (hz0:i0.zero=some z) (K3:i0.size=8) (h0:0<n) (hm:n<=maxLen) (hbig:n*i0.bytes<=140737488355328) :
  Calls Tryz.prog 268 #[.slice base 0 0,.int .i64 n] w λe w'=>e=.returned (.slice (some ⟨w.heap.size,0,none⟩) 0 (grownCap w n 0 230)) /\
   w'=w.drew.alloc (.cells (Builtin.zeroCells z.cells n++Builtin.zeroCells z.cells (grownCap w n 0 230-n)) 230):=by
 have nD:maxLen<=9223372036854775807:=by unfold maxLen;omega
 have mixed:Tryz.prog.follows Departure.mixedOrders=true:=by kernel_rfl
 have hold:(Builtin.firstCells i0.size 0 (.slice base 0 0)).run Tryz.prog w.drew=.ok ([]:List Value).toArray w.drew:=by
  rw[K3];cases base with
  |none=>exact run_firstCells_none w.drew 8 0 0 0
  |some a=>exact run_firstCells_some w.drew 8 0 a 0 0 [] rfl (λj v hj=>by simp at hj)
 have hrz:∀ty,(Builtin.append_ #[182,3] ty #[.slice base 0 0,.int .i64 (n:Int)]).run Tryz.prog w =
   .ok (.slice (some ⟨w.heap.size,0,none⟩) n (grownCap w n 0 230)) (w.drew.alloc (.cells (Builtin.zeroCells z.cells n++Builtin.zeroCells z.cells (grownCap w n 0 230-n)) 230)):=λty=>by
  have h:=Lib.run_append_grow_zeros w 182 3 ty 230 i0 z .i64 .i64 Tryz.bindsUnd Tryz.intUnd hi0 hz0 base 0 0 [] hold n (by omega) (by omega) (by omega) (by omega) (by omega)
   (by rw[zf0z];exact growslice_fits (need:=n) (by omega) hbig)
  rw[zf0z]at h;simpa using h
 have hG63:grownCap w n 0 230<=9223372036854775807:=by
  have:=grownCap_le_maxLen w n 0 230 hm;omega
 generalize hG:grownCap w n 0 230=G at *
 generalize hR:Builtin.zeroCells z.cells n++Builtin.zeroCells z.cells (G-n)=R at *
 have h1:¬((n:Int)<0):=by omega
 have h2:wrap64 (n:Int)=(n:Int):=by unfold wrap64;omega
 have h4:(n:Int) > 0:=by omega
 clear hR hold hG
 go_enter Tryz.func268,Tryz.ntmps268
 cases base with
 |none =>
  go_wp2_with (at_builtin;refine Lib.wpList_append_run _ rfl _ _ _ _ rfl _ _ rfl rfl _ _ (hrz _) ?_)
  all_goals (go_ret;exact⟨rfl,rfl⟩)
 |some a =>
  obtain⟨ab,ao,asp⟩:=a
  go_wp2_with (at_builtin;refine Lib.wpList_append_run _ rfl _ _ _ _ rfl _ _ rfl rfl _ _ (hrz _) ?_)
  all_goals (go_ret;exact⟨rfl,rfl⟩)
set_option maxRecDepth 100000 in
theorem Tryz.growLawB:GrowLaw Tryz.prog 268 8 112:=by
 obtain⟨i0,z,hi0,K3,hz0,hzs,hby⟩:∃i0 z,Tryz.prog.info? 230=some i0/\i0.size=8/\i0.zero=some z/\z.cells.size=8/\i0.bytes=112:=⟨_,_,rfl,by kernel_rfl,rfl,by kernel_rfl,by kernel_rfl⟩;refine⟨by omega,by kernel_rfl,λw base=>Tryz.growZeroB base w,λw base n h0 hb hm=>?_⟩;have hG1:=grownCap_ge w n 0 230;refine(Tryz.growSomeB base n w i0 z hi0 hz0 K3 h0 hm (by rw[hby];exact hb)).mono λe w' ⟨h1,h2⟩=>⟨1,_,_,_,h1,h2,grownCap_le_maxLen w n 0 230 hm,?_⟩;rw[zf1z,size_zeroCells,size_zeroCells,hzs];omega
end Go.Proofs
namespace Go.Proofs
set_option maxHeartbeats 1000000 in
set_option maxRecDepth 100000 in
theorem Tryz.cmpString (a b:ByteArray) (w:World) :
  Calls Tryz.prog 132 #[.string a,.string b] w λe w'=>e=.returned (.int .i64 (Lib.compareBytes a.data.toList b.data.toList))/\w'=w:=by
 go_enter Tryz.func132,Tryz.ntmps132
 go_wp2
 rw[run_callFunc_extern Tryz.func176 (by kernel_rfl) (by kernel_rfl) (by kernel_rfl) (e:=Extern.BytealgCompare.compare) (by kernel_rfl),Lib.run_compareString];simp only[Result.andThen];rw[Oper.upon_value]
 go_wp2
 go_ret
 exact⟨rfl,rfl⟩
set_option maxHeartbeats 1000000 in
set_option maxRecDepth 100000 in
theorem Tryz.sliteIndexByte (s:ByteArray) (c:Int) (w:World) :
  Calls Tryz.prog 237 #[.string s,.int .u8 c] w λe w'=>e=.returned (.int .i64 (Lib.indexByte s.data.toList c.toNat.toUInt8))/\w'=w:=by
 go_enter Tryz.func237,Tryz.ntmps237
 go_wp2
 rw[run_callFunc_extern Tryz.func291 (by kernel_rfl) (by kernel_rfl) (by kernel_rfl) (e:=Extern.BytealgIndexByte.indexByte) (by kernel_rfl),Lib.run_indexByteString];simp only[Result.andThen];rw[Oper.upon_value]
 go_wp2
 go_ret
 exact⟨rfl,rfl⟩
set_option maxHeartbeats 2000000 in
set_option maxRecDepth 100000 in
theorem Tryz.sliteIndexOne (s:ByteArray) (c:UInt8) (w:World) :
  Calls Tryz.prog 188 #[.string s,.string ⟨#[c]⟩] w λe w'=>e=.returned (.int .i64 (Lib.indexByte s.data.toList c))/\w'=w:=by
 go_enter Tryz.func188,Tryz.ntmps188
 go_wp2_with (go_at_call 237;refine(Tryz.sliteIndexByte _ _ _).mono ?_;rintro e w' ⟨rfl,rfl⟩)
 .have h:([c] == s.toList)=true:=by assumption
  go_ret
  refine⟨?_,rfl⟩;have e:s.data.toList=[c]:=by rw[←Lib.toList_data];exact(beq_iff_eq.1 h).symm
  rw[e];simp[Lib.indexByte]
 .go_ret
  exact⟨rfl,rfl⟩
set_option maxHeartbeats 1000000 in
theorem Tryz.stringsIndexOne (s:ByteArray) (c:UInt8) (w:World) :
  Calls Tryz.prog 141 #[.string s,.string ⟨#[c]⟩] w λe w'=>e=.returned (.int .i64 (Lib.indexByte s.data.toList c))/\w'=w:=by
 go_enter Tryz.func141,Tryz.ntmps141
 go_wp2_with (go_at_call 188;refine(Tryz.sliteIndexOne _ _ _).mono ?_;rintro e w' ⟨rfl,rfl⟩)
 go_ret
 exact⟨rfl,rfl⟩
set_option maxHeartbeats 1000000 in
theorem Tryz.stringsContainsOne (s:ByteArray) (c:UInt8) (w:World) :
  Calls Tryz.prog 96 #[.string s,.string ⟨#[c]⟩] w λe w'=>e=.returned (.bool (decide (0<=Lib.indexByte s.data.toList c)))/\w'=w:=by
 go_enter Tryz.func96,Tryz.ntmps96
 go_wp2_with (go_at_call 141;refine(Tryz.stringsIndexOne _ _ _).mono ?_;rintro e w' ⟨rfl,rfl⟩)
 go_ret
 exact⟨rfl,rfl⟩
end Go.Proofs
namespace Go.Abs.Q
open Go.Proofs
open Go.RowKit (Below)
theorem Nx:∀(a b:List UInt8),Lib.compareBytes a b=if Op.bytesLess a b then -1 else if a=b then 0 else 1
 | [],[]=>by simp[Lib.compareBytes,Op.bytesLess]
 | [],_::_=>by simp[Lib.compareBytes,Op.bytesLess]
 |_::_,[]=>by simp[Lib.compareBytes,Op.bytesLess]
 |x::a,y::b=>by
  simp only[Lib.compareBytes,Op.bytesLess,Nx a b];by_cases h:x<y
  .simp[h]
  .by_cases h':y<x
   .have S6:x≠y:=λe=>h (e ▸ h');simp[h,h',S6]
   .have he:x=y:=by
     apply UInt8.le_antisymm
     .exact UInt8.not_lt.1 h'
     .exact UInt8.not_lt.1 h
    subst he;simp[h]
theorem Sq (a b:Q1):Q7 a b=Lib.compareBytes a.data.toList b.data.toList:=by
 rw[Nx,Q7,Lib.toList_data,Lib.toList_data]
theorem KY (c:UInt8):∀l:List UInt8,0<=Lib.indexByte l c↔c∈l
 | []=>by simp[Lib.indexByte]
 |b::l=>by
  have ih:=KY c l;have hge:=Lib.indexByte_ge l c;by_cases h:b=c
  .subst h;simp[Lib.indexByte]
  .have h1:Lib.indexByte (b::l) c=if Lib.indexByte l c=-1 then -1 else Lib.indexByte l c+1:=by
    simp[Lib.indexByte,h]
   have h2:¬c=b:=λe=>h e.symm;rw[h1,List.mem_cons];by_cases h3:Lib.indexByte l c=-1
   .rw[if_pos h3];constructor
    .intro k;omega
    .rintro(k|k)
     .exact absurd k h2
     .have:=ih.2 k;omega
   .rw[if_neg h3];constructor
    .intro k;exact .inr (ih.1 (by omega))
    .intro k;omega
theorem Pc (l:List UInt8) (c:UInt8):decide (0<=Lib.indexByte l c)=l.contains c:=by
 rw[Bool.eq_iff_iff,decide_eq_true_iff,KY];simp
theorem mixed:Tryz.prog.follows .mixedOrders=true:=by kernel_rfl
theorem jm (f:FuncId) (s:RSpec) (h:PD f=some s):(f=M9/\s=jK 4 56)\/(f=L7/\s=bX 5 64)\/(f=Q4/\s=TR 4 56 true)\/(f=L6/\s=TR 8 112 true):=by
 unfold PD at h;split at h
 .rename_i hf;cases h;exact .inl ⟨hf,rfl⟩
 .split at h
  .rename_i hf;cases h;exact .inr (.inl ⟨hf,rfl⟩)
  .split at h
   .rename_i hf;cases h;exact .inr (.inr (.inl ⟨hf,rfl⟩))
   .split at h
    .rename_i hf;cases h;exact .inr (.inr (.inr ⟨hf,rfl⟩))
    .cases h
theorem QS:CfgS Tryz.prog Q:=by
 refine⟨λf rf h=>?_,λf s hs args r hr=>?_,mixed,λf s hs O hP args h r h' he=>?_⟩
 .have h1:Ai f=some rf:=(Nm f).symm.trans h;unfold Ai at h1;split at h1
  .cases h1
  .exact h1
 rotate_left 1
 .have hs':PD f=some s:=hs;rcases jm f s hs' with ⟨rfl,rfl⟩|⟨rfl,rfl⟩|⟨rfl,rfl⟩|⟨rfl,rfl⟩
  .exact YS Tryz.insLaw O args h r h' he
  .exact Ve Tryz.insLawP O args h r h' he
  .exact OP Tryz.growLaw O args h r h' he
  .exact OP Tryz.growLawB O args h r h' he
 have hs':JK f=some s:=(Qv f).symm.trans hs;unfold JK at hs';split at hs'
 .rename_i hf;subst hf;cases hs';unfold SM at hr;split at hr
  .rename_i a b;cases hr;refine⟨by kernel_rfl,λw ok0 vs _ _ hv=>?_⟩;have HA:vs=#[.string a,.string b]:=by
    simp only[U3,PV]at hv;obtain⟨u,us,h1,rfl,u',us',rfl,rfl,rfl⟩:=hv;cases vs
    simp_all
   subst HA;refine(Tryz.cmpString a b w).mono λe w' ⟨he,hw⟩=>?_;subst hw;exact⟨_,he,Bl.refl _ _,by simp[PV,Sq]⟩
  .cases hr
 .split at hs'
  .rename_i hf;subst hf;cases hs';unfold SO at hr;split at hr
   .rename_i a b;split at hr
    .rename_i c hb;cases hr;refine⟨by kernel_rfl,λw ok0 vs _ _ hv=>?_⟩;have hb':b=⟨#[c]⟩:=by
      obtain⟨⟨l⟩⟩:=b;simp at hb;rw[hb]
     subst hb';have HA:vs=#[.string a,.string ⟨#[c]⟩]:=by
      simp only[U3,PV]at hv;obtain⟨u,us,h1,rfl,u',us',rfl,rfl,rfl⟩:=hv;cases vs
      simp_all
     subst HA;refine(Tryz.stringsContainsOne a c w).mono λe w' ⟨he,hw⟩=>?_;subst hw;exact⟨_,he,Bl.refl _ _,by simp[PV,Pc]⟩
    .cases hr
   .cases hr
  .split at hs'
   .rename_i hf;subst hf;cases hs';unfold dR at hr;split at hr
    .rename_i a c;cases hr;refine⟨by kernel_rfl,λw ok0 vs _ _ hv=>?_⟩;have HA:vs=#[.string a,.int .u8 c]:=by
      simp only[U3,PV]at hv;obtain⟨u,us,h1,rfl,u',us',rfl,rfl,rfl⟩:=hv;cases vs
      simp_all
     subst HA;refine(Tryz.sliteIndexByte a c w).mono λe w' ⟨he,hw⟩=>?_;subst hw;exact⟨_,he,Bl.refl _ _,by simp[PV]⟩
    .cases hr
   .split at hs'
    .rename_i hf;subst hf;cases hs';unfold dS at hr;split at hr
     .rename_i a b;split at hr
      .rename_i c hb;cases hr;refine⟨by kernel_rfl,λw ok0 vs _ _ hv=>?_⟩;have hb':b=⟨#[c]⟩:=by
        obtain⟨⟨l⟩⟩:=b;simp at hb;rw[hb]
       subst hb';have HA:vs=#[.string a,.string ⟨#[c]⟩]:=by
        simp only[U3,PV]at hv;obtain⟨u,us,h1,rfl,u',us',rfl,rfl,rfl⟩:=hv;cases vs
        simp_all
       subst HA;refine(Tryz.stringsIndexOne a c w).mono λe w' ⟨he,hw⟩=>?_;subst hw;exact⟨_,he,Bl.refl _ _,by simp[PV]⟩
      .cases hr
     .cases hr
    .cases hs'
end Go.Abs.Q
set_option linter.unusedVariables false
namespace Go.Abs
inductive FT where
 |nil
 |node (l:FT) (v:AV) (r:FT)
def mv (_:Nat):AV:=B3
noncomputable def bQ (v:AV) (gl gr:Nat->AV) (n:Nat):AV:=(zf5z (Nat.mod n (nat_lit 2)) (nat_lit 1)).rec (gr (zf7z (zf4z n (nat_lit 2)) (nat_lit 1))) (gl (zf4z n (nat_lit 2)))
noncomputable def Vc (_:FT) (v:AV) (_:FT) (gl gr:Nat->AV) (n:Nat):AV:=(zf5z n (nat_lit 0)).rec (bQ v gl gr n) v
noncomputable def FT.get (t:FT):Nat->AV:=t.rec mv Vc
def og (_:Nat) (_:AV):FT:=.nil
noncomputable def cJ (l:FT) (v:AV) (r:FT) (pl pr:Nat->AV->FT) (n:Nat) (x:AV):FT:=(zf5z (Nat.mod n (nat_lit 2)) (nat_lit 1)).rec (.node l v (pr (zf7z (zf4z n (nat_lit 2)) (nat_lit 1)) x)) (.node (pl (zf4z n (nat_lit 2)) x) v r)
noncomputable def WG (l:FT) (v:AV) (r:FT) (pl pr:Nat->AV->FT) (n:Nat) (x:AV):FT:=(zf5z n (nat_lit 0)).rec (cJ l v r pl pr n x) (.node l x r)
noncomputable def FT.put (t:FT):Nat->AV->FT:=t.rec og WG
noncomputable def JT (k:Nat):Nat->FT:=k.rec (λ_=>.nil) (λ_ b n=>(zf5z n (nat_lit 0)).rec (.node (b (zf4z n (nat_lit 2))) B3 (b (zf4z (zf7z n (nat_lit 1)) (nat_lit 2)))) .nil)
def RC (g:Opd->AV) (len:Nat):List (Nat×Nat×Opd)->Option (List (Nat×AV))
 | []=>some []
 |(off,n,x)::rest =>
  if (g x).isTup=false/\(g x).cells.length=n/\off+n<=len then (RC g len rest).map ((off,g x)::·)else none
def PN (g:Opd->AV) (h:AH) (xs:List AV):List (Nat×Opd)->Option (List AV)
 | []=>some xs
 |(i,x)::rest =>
  match xs[i]?,frz h false (g x)with
  |some z,some y=>if y.cells.length=z.cells.length then PN g h (xs.set i y) rest else none
  |_,_=>none
def Qz (g:Opd->AV):Option Opd->Option (Option Int)
 |none=>some none
 |some x=>match g x with | .int _ i=>some (some i)|_=>none
def lK (x y:AV):Option AV :=
 match x,y with
 | .int k a,.int k' b=>if k=k' then some (.int k (k.wrap (a+b)))else none
 | .str a,.str b=>if ((a.size+b.size:Nat):Int) > IntKind.i64.max then none else some (.str (a++b))
 |_,_=>none
def lX (x y:AV):Option AV :=
 match x,y with
 | .int k a,.int k' b=>if k=k' then some (.int k (k.wrap (a-b)))else none
 |_,_=>none
def lR (x y:AV):Option AV :=
 match x,y with
 | .int k a,.int k' b=>if k=k' then some (.int k (k.wrap (a*b)))else none
 |_,_=>none
def lT (x y:AV):Option AV :=
 match x,y with
 | .int k a,.int k' b=>if k=k'/\b≠0 then some (.int k (k.wrap (a.tdiv b)))else none
 |_,_=>none
def lU (x y:AV):Option AV :=
 match x,y with
 | .int k a,.int k' b=>if k=k'/\b≠0 then some (.int k (a.tmod b))else none
 |_,_=>none
def lL (x y:AV):Option AV :=
 match x,y with
 | .int k a,.int k' b=>if k=k' then some (.int k (k.wrap (BitVec.ofInt k.bits a &&& BitVec.ofInt k.bits b).toNat))else none
 |_,_=>none
def rJ (x y:AV):Option AV :=
 match x,y with
 | .int k a,.int k' b=>if k=k' then some (.int k (k.wrap (BitVec.ofInt k.bits a ||| BitVec.ofInt k.bits b).toNat))else none
 |_,_=>none
def lY (x y:AV):Option AV :=
 match x,y with
 | .int k a,.int k' b=>if k=k' then some (.int k (k.wrap (BitVec.ofInt k.bits a ^^^ BitVec.ofInt k.bits b).toNat))else none
 |_,_=>none
def lV (x y:AV):Option AV :=
 match x,y with
 | .int k a,.int k' b=>if 0<=b then some (.int k (k.wrap (a*2 ^ (min b.toNat k.bits))))else none
 |_,_=>none
def lW (x y:AV):Option AV :=
 match x,y with
 | .int k a,.int k' b=>if 0<=b then some (.int k (a.fdiv (2 ^ (min b.toNat k.bits))))else none
 |_,_=>none
def aX (_ _:AV):Option AV:=none
def lM (x y:AV):Option AV :=
 match x,y with
 | .int k a,.int k' b=>if k=k' then some (.bool (a == b))else none
 | .str a,.str b=>some (.bool (a.toList == b.toList))
 |_,_=>none
def lS (x y:AV):Option AV :=
 match x,y with
 | .int k a,.int k' b=>if k=k' then some (.bool (a != b))else none
 | .str a,.str b=>some (.bool !(a.toList == b.toList))
 |_,_=>none
def lQ (x y:AV):Option AV :=
 match x,y with
 | .int k a,.int k' b=>if k=k' then some (.bool (decide (a<b)))else none
 | .str a,.str b=>some (.bool (Op.bytesLess a.toList b.toList))
 |_,_=>none
def lP (x y:AV):Option AV :=
 match x,y with
 | .int k a,.int k' b=>if k=k' then some (.bool (decide (a<=b)))else none
 | .str a,.str b=>some (.bool (Op.bytesLess a.toList b.toList||a.toList == b.toList))
 |_,_=>none
def lO (x y:AV):Option AV :=
 match x,y with
 | .int k a,.int k' b=>if k=k' then some (.bool (decide (a > b)))else none
 | .str a,.str b=>some (.bool !(Op.bytesLess a.toList b.toList||a.toList == b.toList))
 |_,_=>none
def lN (x y:AV):Option AV :=
 match x,y with
 | .int k a,.int k' b=>if k=k' then some (.bool (decide (a≥b)))else none
 | .str a,.str b=>some (.bool !(Op.bytesLess a.toList b.toList))
 |_,_=>none
noncomputable def lZ (op:BinOp):AV->AV->Option AV:=op.rec lK lX lR lT lU lL rJ lY lV lW aX lM lS lQ lP lO lN
noncomputable def md (x:Opd) (O:Orc) (c:Ctx) (g:Opd->AV) (h:AH):Option (AV×AH):=some (g x,h)
noncomputable def jA (q:Opd) (a:Opd) (b:Opd) (O:Orc) (c:Ctx) (g:Opd->AV) (h:AH):Option (AV×AH):=match g q with | .bool t=>some (if t then g a else g b,h)|_=>none
noncomputable def mS (x:Opd) (O:Orc) (c:Ctx) (g:Opd->AV) (h:AH):Option (AV×AH):=if (g x).isTup then none else some (.ptr h.boxes.length 0,{h with boxes:=h.boxes++[(g x).cells]})
noncomputable def eh  (O:Orc) (c:Ctx) (g:Opd->AV) (h:AH):Option (AV×AH):=some (.mp h.boxes.length,{h with boxes:=h.boxes++[[.mbox [] []]]})
noncomputable def ek (str:Bool) (ok:Bool) (z:AV) (x:Opd) (k:Opd) (O:Orc) (c:Ctx) (g:Opd->AV) (h:AH):Option (AV×AH):=EW str ok z h (g x) (g k)
noncomputable def mf (str:Bool) (x:Opd) (k:Opd) (v:Opd) (O:Orc) (c:Ctx) (g:Opd->AV) (h:AH):Option (AV×AH):=To str h (g x) (g k) (g v)
noncomputable def bG (ok:Bool) (z:AV) (x:Opd) (k:Opd) (O:Orc) (c:Ctx) (g:Opd->AV) (h:AH):Option (AV×AH):=Kr ok z h (g x) (g k)
noncomputable def iz (x:Opd) (k:Opd) (v:Opd) (O:Orc) (c:Ctx) (g:Opd->AV) (h:AH):Option (AV×AH):=Yu h (g x) (g k) (g v)
noncomputable def ed (z:AV) (O:Orc) (c:Ctx) (g:Opd->AV) (h:AH):Option (AV×AH):=some (.ptr h.boxes.length 0,{h with boxes:=h.boxes++[z.cells]})
noncomputable def YJ (r:Nat) (z:AV) (O:Orc) (c:Ctx) (g:Opd->AV) (h:AH):Option (AV×AH):=Ap h r z
noncomputable def RH (z:AV) (parts:List (Nat×Nat×Opd)) (O:Orc) (c:Ctx) (g:Opd->AV) (h:AH):Option (AV×AH):=match RC g z.cells.length parts with|some ps=>some (.agg (P2 z.cells ps),h)|none=>none
noncomputable def Nz (n:Nat) (z:AV) (parts:List (Nat×Opd)) (O:Orc) (c:Ctx) (g:Opd->AV) (h:AH):Option (AV×AH):=match PN g h (zf3z n z) parts with|some xs=>some (.vs true z.cells.length xs,h)|none=>none
noncomputable def MC (n:Nat) (z:AV) (parts:List (Nat×Opd)) (O:Orc) (c:Ctx) (g:Opd->AV) (h:AH):Option (AV×AH):=if parts.all (λp=>Bh (g p.2))then (match PN g h (zf3z n z) parts with|some xs=>some (.vs true z.cells.length xs,h)|none=>none)else none
noncomputable def rO (agg:Bool) (n:Nat) (x:Opd) (O:Orc) (c:Ctx) (g:Opd->AV) (h:AH):Option (AV×AH):=match uF h agg n (g x)with|some v=>some (v,h)|none=>none
noncomputable def mX (agg:Bool) (n:Nat) (x:Opd) (O:Orc) (c:Ctx) (g:Opd->AV) (h:AH):Option (AV×AH):=match g x with | .ep ..=>none|p=>(match uF h agg n p with|some v=>some (v,h)|none=>none)
noncomputable def rP (n:Nat) (a:Opd) (x:Opd) (O:Orc) (c:Ctx) (g:Opd->AV) (h:AH):Option (AV×AH):=match uG h n (g x) (g a)with|some h'=>some (B3,h')|none=>none
noncomputable def mh (n:Nat) (a:Opd) (x:Opd) (O:Orc) (c:Ctx) (g:Opd->AV) (h:AH):Option (AV×AH):=NO h n (g a) (g x)
noncomputable def mg (n:Nat) (a:Opd) (x:Opd) (O:Orc) (c:Ctx) (g:Opd->AV) (h:AH):Option (AV×AH):=MX h n (g a) (g x)
noncomputable def mT (z:AV) (x:Opd) (O:Orc) (c:Ctx) (g:Opd->AV) (h:AH):Option (AV×AH):=LL h z (g x)
noncomputable def eo (x:Opd) (O:Orc) (c:Ctx) (g:Opd->AV) (h:AH):Option (AV×AH):=match g x with | .pv cs=>some (.pv cs,h) | .ptr b o=>some (.ptr b o,h) | .ep k n i q s=>some (.ep k n i q s,h) | .fn f cs=>some (.fn f cs,h)|_=>none
noncomputable def bD (op:BinOp) (x:Opd) (y:Opd) (O:Orc) (c:Ctx) (g:Opd->AV) (h:AH):Option (AV×AH):=match lZ op (g x) (g y)with|some v=>some (v,h)|none=>none
noncomputable def mR (neg:Bool) (x:Opd) (y:Opd) (O:Orc) (c:Ctx) (g:Opd->AV) (h:AH):Option (AV×AH):=match g x,g y with | .bool a,.bool b=>some (.bool (if neg then !(a == b)else a == b),h)|_,_=>none
noncomputable def eq (neg:Bool) (x:Opd) (O:Orc) (c:Ctx) (g:Opd->AV) (h:AH):Option (AV×AH):=fO neg h (g x)
noncomputable def rQ (op:UnOp) (x:Opd) (O:Orc) (c:Ctx) (g:Opd->AV) (h:AH):Option (AV×AH):=match Jb op (g x)with|some v=>some (v,h)|none=>none
noncomputable def iu (k:IntKind) (x:Opd) (O:Orc) (c:Ctx) (g:Opd->AV) (h:AH):Option (AV×AH):=match g x with | .int _ n=>some (.int k (k.wrap n),h)|_=>none
noncomputable def iv (x:Opd) (O:Orc) (c:Ctx) (g:Opd->AV) (h:AH):Option (AV×AH):=match g x with | .str s=>some (.str s,h)|_=>none
noncomputable def io (x:Opd) (O:Orc) (c:Ctx) (g:Opd->AV) (h:AH):Option (AV×AH):=LI h (g x)
noncomputable def iq (f:FuncId) (caps:List Opd) (O:Orc) (c:Ctx) (g:Opd->AV) (h:AH):Option (AV×AH):=if c.ro then (Ci h (caps.map g)).map λp=>(.fn f p.1,p.2)else some (.fn f (caps.map g),h)
noncomputable def YK (z:AV) (bytes:Nat) (l:Opd) (q:Opd) (O:Orc) (c:Ctx) (g:Opd->AV) (h:AH):Option (AV×AH):=
  match g l,g q with
  | .int _ a,.int _ b =>
   if 0<=a/\a<=b/\b*bytes<=G3/\b<=maxLen then
    some (.sl h.fams.length a.toNat 0 a.toNat,{h with fams:=h.fams++[⟨zf3z a.toNat z,z.cells.length,true⟩]})
   else none
  |_,_=>none
noncomputable def mc (z:AV) (bytes:Nat) (l:Opd) (q:Opd) (O:Orc) (c:Ctx) (g:Opd->AV) (h:AH):Option (AV×AH):=Vz h z bytes (g l) (g q)
noncomputable def mb (z:AV) (bytes:Nat) (l:Opd) (q:Opd) (O:Orc) (c:Ctx) (g:Opd->AV) (h:AH):Option (AV×AH):=NG h z bytes (g l) (g q)
noncomputable def bH (sz:Nat) (x:Opd) (lo:Option Opd) (hi:Option Opd) (mx:Option Opd) (O:Orc) (c:Ctx) (g:Opd->AV) (h:AH):Option (AV×AH):=
  match Qz g lo,Qz g hi,Qz g mx with
  |some l,some u,some m=>match FV h sz (g x) l u m with|some v=>some (v,h)|none=>none
  |_,_,_=>none
noncomputable def ef (off:Nat) (x:Opd) (O:Orc) (c:Ctx) (g:Opd->AV) (h:AH):Option (AV×AH):=match g x with | .pv cs=>some (.pv (cs.drop off),h) | .ptr b o=>some (.ptr b (o+off),h) | .ep k n i q s=>some (.ep k n i (q+off) s,h)|_=>none
noncomputable def mV (agg:Bool) (off:Nat) (n:Nat) (x:Opd) (O:Orc) (c:Ctx) (g:Opd->AV) (h:AH):Option (AV×AH):=match g x with | .agg cs=>(match S1 agg n (cs.drop off)with|some v=>some (v,h)|none=>none)|_=>none
noncomputable def eg (sz:Nat) (x:Opd) (i:Opd) (O:Orc) (c:Ctx) (g:Opd->AV) (h:AH):Option (AV×AH):=
  match g x,g i with
  | .vs _ z xs,.int _ j=>if 0<=j/\z=sz then (match xs[j.toNat]? with|some e=>some (.pv e.cells,h)|none=>none)else none
  | .sl k n off len,.int _ j=>if 0<=j/\j<len then some (.ep k n (off+j.toNat) 0 sz,h)else none
  | .bsl b s off len,.int _ j=>if 0<=j/\j<len/\s=sz then some (.ptr b (off+j.toNat*sz),h)else none
  |_,_=>none
noncomputable def bE (sz:Nat) (x:Opd) (i:Opd) (O:Orc) (c:Ctx) (g:Opd->AV) (h:AH):Option (AV×AH):=
  match g x,g i with
  | .vs _ z xs,.int _ j=>if 0<=j/\z=sz then (match xs[j.toNat]? with|some e=>some (.pv e.cells,h)|none=>none)else none
  |_,_=>none
noncomputable def mW (x:Opd) (i:Opd) (O:Orc) (c:Ctx) (g:Opd->AV) (h:AH):Option (AV×AH):=
  match g x,g i with
  | .str s,.int _ j=>if 0<=j then (match s[j.toNat]? with|some b=>some (.int .u8 b.toNat,h)|none=>none)else none
  |_,_=>none
noncomputable def mU (x:Opd) (i:Nat) (O:Orc) (c:Ctx) (g:Opd->AV) (h:AH):Option (AV×AH):=match g x with | .tup vs=>(match vs[i]? with|some v=>some (v,h)|none=>none)|_=>none
def ix (x:Opd) (O:Orc) (c:Ctx) (g:Opd->AV) (h:AH):Option (AV×AH):=match g x with | .str s=>some (.int .i64 s.size,h)|_=>none
def iw (x:Opd) (O:Orc) (c:Ctx) (g:Opd->AV) (h:AH):Option (AV×AH):=
  match g x with
  | .vs _ _ xs=>some (.int .i64 xs.length,h)
  | .sl _ _ _ len=>some (.int .i64 len,h)
  | .bsl _ _ _ len=>some (.int .i64 len,h)
  |_=>none
noncomputable def mY (b:Bool):Opd->Orc->Ctx->(Opd->AV)->AH->Option (AV×AH):=b.rec iw ix
noncomputable def mQ (sz:Nat) (bytes:Nat) (s:Opd) (x:Opd) (O:Orc) (c:Ctx) (g:Opd->AV) (h:AH):Option (AV×AH):=J7 c h sz bytes (g s) (g x)
noncomputable def ik (bytes:Nat) (s:Opd) (x:Opd) (O:Orc) (c:Ctx) (g:Opd->AV) (h:AH):Option (AV×AH):=Nr c h bytes (g s) (g x)
noncomputable def mZ (x:Opd) (y:Opd) (O:Orc) (c:Ctx) (g:Opd->AV) (h:AH):Option (AV×AH):=match g x,g y with | .int k a,.int k' b=>if k=k' then some (.int k (if b > a then b else a),h)else none|_,_=>none
noncomputable def ma (x:Opd) (y:Opd) (O:Orc) (c:Ctx) (g:Opd->AV) (h:AH):Option (AV×AH):=match g x,g y with | .int k a,.int k' b=>if k=k' then some (.int k (if b<a then b else a),h)else none|_,_=>none
noncomputable def iy (x:Opd) (O:Orc) (c:Ctx) (g:Opd->AV) (h:AH):Option (AV×AH):=match s6 h (g x)with|some (ks,_)=>some (.int .i64 ks.length,h)|none=>none
noncomputable def ip (f:FuncId) (args:List Opd) (O:Orc) (c:Ctx) (g:Opd->AV) (h:AH):Option (AV×AH):=DE O c f (args.map g) h
noncomputable def ee (x:Opd) (args:List Opd) (O:Orc) (c:Ctx) (g:Opd->AV) (h:AH):Option (AV×AH):=match g x with | .fn f caps=>if c.raw f&&!c.rawv then none else DE O c f (args.map g++caps) h|_=>none
noncomputable def LO (o:ROp):Orc->Ctx->(Opd->AV)->AH->Option (AV×AH):=o.rec md jA mS eh ek mf bG iz ed YJ RH Nz MC rO mX rP mh mg mT eo bD mR eq rQ iu iv io iq YK mc mb bH ef mV eg bE mW mU mY mQ ik mZ ma iy ip ee
def rX (n:Nat) (get:Nat->AV):AV:=get n
def rW (v:AV) (_:Nat->AV):AV:=v
noncomputable def gT (get:Nat->AV) (x:Opd):AV:=(x.rec rX rW:(Nat->AV)->AV) get
noncomputable def UK (t:FT) (d:Option Nat) (v:AV):FT:=d.rec t (λn=>t.put n v)
def SW (t:Nat->AV) (p:Nat×Bool):Option Bool :=
 match t p.1 with
 | .bool b=>some (b == p.2)
 | .tup _=>some false
 |_=>none
noncomputable def Lo (t:Nat->AV) (g:Option (Nat×Bool)):Option Bool:=g.rec (some true) (SW t)
abbrev NV:=FT×AH
abbrev GQ:=Option (Ex×NV)
def nV (_:Orc) (_:Ctx) (t:FT) (h:AH):Option (FT×AH):=some (t,h)
noncomputable def nW (o:RO) (ih:Orc->Ctx->FT->AH->Option (FT×AH)) (O:Orc) (c:Ctx) (t:FT) (r:Option (AV×AH)):Option (FT×AH) :=
 r.rec none (λp=>ih O c (UK t o.dst p.1) p.2)
noncomputable def bg (o:RO) (ih:Orc->Ctx->FT->AH->Option (FT×AH)) (O:Orc) (c:Ctx) (t:FT) (h:AH) (b:Bool):Option (FT×AH) :=
 b.rec (ih O c (UK t o.dst B3) h) (nW o ih O c t (LO o.op O c (gT t.get) h))
noncomputable def jN (o:RO) (_:List RO) (ih:Orc->Ctx->FT->AH->Option (FT×AH)) (O:Orc) (c:Ctx) (t:FT) (h:AH):Option (FT×AH) :=
 (Lo t.get o.guard).rec none (bg o ih O c t h)
noncomputable def ZC (l:List RO):Orc->Ctx->FT->AH->Option (FT×AH):=l.rec nV jN
structure OrcT where
 pure:FuncId->List AV->Option AV
 raw:FuncId->List AV->AH->Option (AV×AH)
 loop:(NV->GQ)->NV->GQ
def OrcT.orc (O:OrcT):Orc:=⟨O.pure,O.raw,λ_ _=>none⟩
abbrev aK:=OrcT->Ctx->NV->GQ
def iZ (_:OrcT) (_:Ctx) (s:NV):GQ:=some (.normal,s)
def Wz (c:Ctx) (g:Opd->AV) (r:ROp) (h h1:AH):Foot:=⟨GJ c h.boxes.length g r,if r.writesB c then Kk h.boxes h1.boxes else [],Ej c g r,if r.writesF c then PZ h.fams h1.fams else []⟩
def mP (_:Orc) (_:Ctx) (t:FT) (h:AH):Option (List Foot×FT×AH):=some ([],t,h)
noncomputable def ij (o:RO) (_:List RO) (ih:Orc->Ctx->FT->AH->Option (List Foot×FT×AH)) (O:Orc) (c:Ctx) (t:FT) (h:AH):Option (List Foot×FT×AH) :=
 match Lo t.get o.guard with
 |some true=>(match LO o.op O c (gT t.get) h with|some (v,h')=>(ih O c (UK t o.dst v) h').map λp=>(Wz c (gT t.get) o.op h h'::p.1,p.2)|none=>none)
 |some false=>(ih O c (UK t o.dst B3) h).map λp=>(Mi c (some false) (gT t.get) o.op h h::p.1,p.2)
 |none=>none
noncomputable def QY (l:List RO):Orc->Ctx->FT->AH->Option (List Foot×FT×AH):=l.rec mP ij
noncomputable def ah (_:Bool) (ops:List RO) (O:OrcT) (c:Ctx) (s:NV):GQ:=(ZC ops O.orc c s.1 s.2).rec none (λs'=>some (.normal,s'))
noncomputable def iY (bs:List Nat) (ops:List RO) (O:OrcT) (c:Ctx) (s:NV):GQ:=match QY ops O.orc c s.1 (s.2.holes (XG ops))with|some (fs,s')=>if r7 bs ops fs then some (.normal,s')else none|none=>none
def mA (_ _:RCode) (ea eb:aK) (O:OrcT) (c:Ctx) (s:NV):GQ:=match ea O c s with|some (.normal,s')=>eb O c s' | r=>r
noncomputable def iV (q:Opd) (_ _:RCode) (ea eb:aK) (O:OrcT) (c:Ctx) (s:NV):GQ:=match gT s.1.get q with | .bool true=>ea O c s | .bool false=>eb O c s|_=>none
def eT (id:Nat) (_:RCode) (ea:aK) (O:OrcT) (c:Ctx) (s:NV):GQ:=match ea O c s with|some (.exit id',s')=>if id'=id then some (.normal,s')else some (.exit id',s')|r=>r
def iX (_:RCode) (ea:aK) (O:OrcT) (c:Ctx) (s:NV):GQ:=O.loop (ea O c) s
def iW (id:Nat) (_:OrcT) (_:Ctx) (s:NV):GQ:=some (.exit id,s)
def lz (_:OrcT) (_:Ctx) (s:NV):GQ:=some (.ret,s)
def ly (_:OrcT) (_:Ctx) (_:NV):GQ:=none
noncomputable def KU (x:RCode):aK:=x.rec iZ ah iY mA iV eT iX iW lz ly
noncomputable def WY (t:FT) (h:AH):List RRes->Option (List AV)
 | []=>some []
 | .tmp k::rest=>(WY t h rest).map (t.get k::·)
 | .cell a agg n::rest=>(uF h agg n (t.get a)).bind λv=>(WY t h rest).map (v::·)
noncomputable def Ov (t:FT) (k:Nat):List AV->FT
 | []=>t
 |v::vs=>Ov (t.put k v) (k+1) vs
noncomputable def aZ (O:OrcT) (c:Ctx) (rf:RFunc) (args:List AV) (h:AH):Option (AV×AH) :=
 match KU rf.body O c (Ov (JT (Nat.succ (Nat.max rf.ntmps args.length)) (Nat.max rf.ntmps args.length)) 0 args,h)with
 |some (.normal,s)=>(WY s.1 s.2 rf.results).map λvs=>(H4 vs,s.2)
 |some (.ret,s)=>(WY s.1 s.2 rf.results).map λvs=>(H4 vs,s.2)
 |_=>none
structure Know where
 pure:FuncId->List AV->Option AV:=λ_ _=>none
 raw:FuncId->List AV->AH->Option (AV×AH):=λ_ _ _=>none
noncomputable def WQ (C:Cfg) (O:OrcT) (f:FuncId) (args:List AV) (h:AH):Option (AV×AH) :=
 match C.code f with
 |some rf=>aZ O (C.ctx f) rf args h
 |none=>match C.rspec f with|some s=>s.run O.orc args h|none=>none
noncomputable def jj (C:Cfg) (K:Know) (O:OrcT) (f:FuncId) (args:List AV) (h:AH):Option (AV×AH) :=
 (K.raw f args h).rec (UZ (C.ctx f).rst (WQ C O f args h)) some
noncomputable def cg (C:Cfg) (K:Know) (O:OrcT) (f:FuncId) (args:List AV):Option AV :=
 match C.spec f with
 |some s=>s args
 |none=>match WQ C O f args AH.empty with|some (r,h)=>BW h r|none=>none
noncomputable def cf (C:Cfg) (K:Know) (O:OrcT) (f:FuncId) (args:List AV):Option AV :=
 (K.pure f args).rec (cg C K O f args) some
def jJ (_:NV->GQ) (_:NV):GQ:=none
def jI (_:Nat) (ih:(NV->GQ)->NV->GQ) (step:NV->GQ) (s:NV):GQ:=match step s with|some (.normal,s')=>ih step s' | r=>r
noncomputable def bY (n:Nat):(NV->GQ)->NV->GQ:=n.rec jJ jI
noncomputable def oe (C:Cfg) (K:Know) (n:Nat):OrcT :=
 n.rec ⟨λ_ _=>none,λ_ _ _=>none,λ_ _=>none⟩ (λn O=>⟨cf C K O,jj C K O,bY (n+1)⟩)
end Go.Abs
