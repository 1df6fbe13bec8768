/- A part of the proof. -/
import Derived.Test.YtnnjamknplefbaaGreatDoorTS21
import Derived.Shelf.RegionOpenPlain
import Derived.Test.YtnnjamknplefbaaGreatDoorProg
import Derived.ProofKit
import Derived.WalkKit
import Derived.Lib.Walk
import Derived.Lib.SliceRun
import Derived.Shelf.Bits.Mul64
import Derived.Laws.CopyOwn
import Derived.Laws.MakeOwn
import Derived.KernelRfl
import Derived.Shelf.Strings.SlTrimAscii
import Derived.Lib.Strings
import Derived.Lib.Slices
import Derived.Lib.Bytealg
set_option linter.all false
open List renaming replicate->zf0z,getElem?_eq_some_iff->zf1z,getElem?_replicate->zf3z,drop_eq_getElem_cons->zf6z,getElem?_cons_zero->zf7z,getElem?_toArray->zf8z,length_replicate->zf9z,getElem_mem->zg1z,nil_append->zg2z
open Nat renaming zero_add->zf2z,le_refl->zf4z,zero_le->zf5z,mul_one->zg3z
open Array renaming size_append->zg0z
set_option linter.all false
namespace Go.Abs
open Go.RowKit (Below)
section
variable {P:Program} {E:Env}
structure InsLaw0 (P:Program) (f:FuncId) (K bytes:Nat):Prop where
 pos:0<K
 enter:Program.enterable P f=true
 newR:∀(w:World) (base:Option Addr) (vb vo vc:Nat) (vs:List Value),bytes<=P7->vs.length=K->(∀j v,vs[j]?=some v->w.cell? ⟨vb,vo+j,none⟩=some v)->(∀v∈vs,v.oneCell'=true) ->
  Calls P f #[.slice base 0 0,.int .i64 0,.slice (some ⟨vb,vo,none⟩) 1 vc] w λe w'=>∃(q G:Nat) (us:Array Value) (t:TypeId),e=.returned (.slice (some ⟨w.heap.size,0,none⟩) 1 G)/\w'=(w.drewN q).alloc (.cells us t)/\1<=G/\G<=maxLen/\G*K<=us.size /\
   ∀j,j<K->us[j]?=vs[j]?
theorem dz{f:FuncId}{K bytes:Nat}(L:InsLaw0 P f K bytes)(O:Orc)(args:I7)(h:AH)(r:AV)(h':AH)(he:(qh K bytes).run O args h=some (r,h')):Program.enterable P f=true /\
  ∀(E:Env) (vs:Array Value),SR E->DC E.w E.ok->E.h=h->W5 E args vs.toList ->
   Calls P f vs E.w λe w'=>∃u E',e=.returned u/\w'=E'.w/\Ext E E'/\SR E'/\E'.h=h'/\VR E' r u:=by
 refine⟨L.enter,λE avs hS _ hh hv=>?_⟩;subst hh;change XU K bytes args E.h=some (r,h')at he;unfold XU at he;split at he
 .rename_i z' i0 x0;unfold SP at he;split at he
  .rename_i s i q z x heq;cases heq;split at he
   .rename_i hc0;obtain⟨hzK,hag⟩:=hc0;obtain⟨avs⟩:=avs;simp only[W5]at hv;obtain⟨v0,_,rfl,hv0,v1,_,rfl,hv1,v2,_,rfl,hv2,rfl⟩:=hv;simp only[VR]at hv1;subst hv1;obtain⟨vb,vo,vc,vs,rfl,hvl,hvc,hv1c,hvr,hK⟩:=Va hS hzK hv2;have hvc1:∀j u,vs[j]?=some u->E.w.cell? ⟨vb,vo+j,none⟩=some u:=λj u hu=>(hvc j u hu).1;simp only at he;split at he
    .rename_i hc;obtain⟨rfl,hb⟩:=hc;cases he;simp only[VR,PV]at hv0;obtain⟨base,len,cap,rfl,rfl,_,_,h4',_,_⟩:=hv0;have hcap:cap=0:=h4' trivial;subst hcap;refine(L.newR E.w base vb vo vc vs hb hvl hvc1 hv1c).mono λe w' ⟨q,G,us,te,h1,h2,h3,h4,h5,h6⟩=>?_;have x1:=AJ hS (DG E.w q);have s1:=Cm hS (DG E.w q);refine⟨_,({E with w:=E.w.drewN q}:Env).newFam us te G ⟨[x],K,true⟩,h1,h2,x1.trans (FF s1 _ _ _ _),II s1 hK (by simpa using h3) h4 h5 (λj y hy=>?_),rfl,?_⟩
     .obtain⟨g1,g2⟩:=Kz x1 hvr j y hy;refine⟨g1,λc y' hy'=>?_⟩;obtain⟨v,v1,v2⟩:=g2 c y' hy';have hjn:j=0:=by have:=(zf1z.1 hy).1;simpa using this
      have hcK:c<K:=by have:=(zf1z.1 hy').1;omega
      subst hjn;rw[Nat.zero_mul,zf2z]at v1 ⊢;exact⟨v,by rw[h6 _ hcK];exact v1,v2⟩
     .simp only[VR,Env.newFam,V4];exact⟨_,_,⟨[x],K,true⟩,rfl,by simp,⟨by simp,λ_=>⟨_,_,rfl⟩⟩,λ_=>⟨zf5z _,by simp,by simp,(λh=>nomatch h),λ_=>by simp⟩⟩
    .cases he
   .cases he
  .cases he
 .cases he
structure GrowLaw (P:Program) (f:FuncId) (K bytes:Nat):Prop where
 pos:0<K
 enter:Program.enterable P f=true
 zero:∀(w:World) (base:Option Addr),Calls P f #[.slice base 0 0,.int .i64 0] w λe w'=>e=.returned (.slice base 0 0)/\w'=w
 some:∀(w:World) (base:Option Addr) (n:Nat),0<n->n*bytes<=P7->n<=maxLen ->
  Calls P f #[.slice base 0 0,.int .i64 n] w λe w'=>∃(q G:Nat) (us:Array Value) (t:TypeId),e=.returned (.slice (some ⟨w.heap.size,0,none⟩) 0 G)/\w'=(w.drewN q).alloc (.cells us t)/\G<=maxLen/\G*K<=us.size
theorem dx{f:FuncId}{K bytes:Nat}{b:Bool}(L:GrowLaw P f K bytes)(O:Orc)(args:I7)(h:AH)(r:AV)(h':AH)(he:(qc K bytes b).run O args h=some (r,h')):Program.enterable P f=true /\
  ∀(E:Env) (vs:Array Value),SR E->DC E.w E.ok->E.h=h->W5 E args vs.toList ->
   Calls P f vs E.w λe w'=>∃u E',e=.returned u/\w'=E'.w/\Ext E E'/\SR E'/\E'.h=h'/\VR E' r u:=by
 refine⟨L.enter,λE avs hS _ hh hv=>?_⟩;subst hh;change XR K bytes b args E.h=some (r,h')at he;unfold XR at he;split at he
 .rename_i z n;obtain⟨avs⟩:=avs;simp only[W5]at hv;obtain⟨v0,_,rfl,hv0,v1,_,rfl,hv1,rfl⟩:=hv;simp only[VR]at hv1;subst hv1;have hv0':=hv0;simp only[VR,PV]at hv0;obtain⟨base,len,cap,rfl,rfl,_,_,h4',_,_⟩:=hv0;have hcap:cap=0:=h4' trivial;subst hcap;split at he
  .rename_i h0;subst h0;cases he;exact(L.zero E.w base).mono λe w' ⟨h1,h2⟩=>⟨_,E,h1,h2,Ext.refl E,hS,rfl,hv0'⟩
  .split at he
   .rename_i hc;obtain⟨c1,c2,c3⟩:=hc;cases he;obtain⟨m,rfl⟩:∃m:Nat,n=m:=⟨n.toNat,by omega⟩;refine(L.some E.w base m (by omega) (by exact_mod_cast c2) (by exact_mod_cast c3)).mono λe w' ⟨q,G,us,te,h1,h2,h3,h4⟩=>?_;have x1:=AJ hS (DG E.w q);have s1:=Cm hS (DG E.w q);refine⟨_,({E with w:=E.w.drewN q}:Env).newFam us te G ⟨[],K,b⟩,h1,h2,x1.trans (FF s1 _ _ _ _),II s1 L.pos (zf5z _) h3 h4 (λj y hy=>by simp at hy),rfl,?_⟩
    simp only[VR,Env.newFam,V4];exact⟨_,_,⟨[],K,b⟩,rfl,by simp,⟨by simp,λh=>absurd rfl h⟩,λ_=>⟨zf5z _,by simp,by simp,(λh=>nomatch h),λ_=>by simp⟩⟩
   .cases he
 .cases he
end
end Go.Abs
set_option linter.unusedVariables false
set_option linter.unusedSimpArgs false
namespace Go.Proofs
open Go.RowKit Go.Lib Go.Abs
theorem Tryz.powsUnd:Tryz.prog.underlying 427=some (.slice 431):=by kernel_rfl
set_option maxHeartbeats 4000000 in
set_option maxRecDepth 100000 in
theorem Tryz.insp_nil(base:Option Addr)(vb vo vc:Nat)(vs:List Value)(w:World)(i0:TypeInfo)(z:Value)(hi0:Tryz.prog.info? 431=some i0)(hz0:i0.zero=some z)(Y3:i0.size=5)(hbig:i0.bytes<=140737488355328)
  (hvl:vs.length=5) (GJ:∀j v,vs[j]?=some v->w.cell? ⟨vb,vo+j,none⟩=some v) (h1v:∀v∈vs,v.oneCell'=true) :
  Calls Tryz.prog 495 #[.slice base 0 0,.int .i64 0,.slice (some ⟨vb,vo,none⟩) 1 vc] w λe w'=>e=.returned (.slice (some ⟨w.heap.size,0,none⟩) 1 (grownCap w 1 0 431)) /\
   w'=w.drew.alloc (.cells (vs.toArray++Builtin.zeroCells z.cells (grownCap w 1 0 431-1)) 431):=by
 have hsrc:Src Tryz.prog i0.size 427 (.slice (some ⟨vb,vo,none⟩) 1 vc) 1 vs w:=Src.ofSlice w Tryz.powsUnd ⟨vb,vo,none⟩ 1 vc vs (by rw[Y3,hvl]) (λj u hj=>by rw[Addr.add_lit];exact GJ j u hj) h1v;have hold:(Builtin.firstCells i0.size 0 (.slice base 0 0)).run Tryz.prog w.drew=.ok ([]:List Value).toArray w.drew:=by
  rw[Y3];cases base with
  |none=>exact run_firstCells_none w.drew 5 0 0 0
  |some a=>exact run_firstCells_some w.drew 5 0 a 0 0 [] rfl (λj v hj=>by simp at hj)
 have hrun:∀ty,(Builtin.append_ #[427,427] ty #[.slice base 0 0,.slice (some ⟨vb,vo,none⟩) 1 vc]).run Tryz.prog w=_:=λty =>
  run_append_grow_src w 427 427 ty 431 i0 z Tryz.powsUnd hi0 hz0 base 0 0 [] hold _ 1 vs hsrc (by omega) (by omega) (growslice_fits (by omega) (by rw[zf2z,Nat.one_mul];exact hbig))
 rw[zf2z,zg2z]at hrun;generalize hG:grownCap w 1 0 431=G at *
 generalize hR:vs.toArray++Builtin.zeroCells z.cells (G-1)=R at *
 clear hR hold hsrc hG
 go_enter Tryz.func495,Tryz.ntmps495
 cases base with
 |none =>
  go_wp2_with (at_builtin;refine Lib.wpList_append_run _ rfl _ _ _ _ rfl _ _ rfl rfl _ _ (hrun _) ?_)
  go_ret
  exact⟨rfl,rfl⟩
 |some a =>
  obtain⟨ab,ao,asp⟩:=a
  go_wp2_with (at_builtin;refine Lib.wpList_append_run _ rfl _ _ _ _ rfl _ _ rfl rfl _ _ (hrun _) ?_)
  all_goals (go_ret;exact⟨rfl,rfl⟩)
set_option maxRecDepth 100000 in
theorem Tryz.insLawP:InsLaw0 Tryz.prog 495 5 64:=by
 obtain⟨i0,z,hi0,Y3,hz0,hzs,hby⟩:∃i0 z,Tryz.prog.info? 431=some i0/\i0.size=5/\i0.zero=some z/\z.cells.size=5/\i0.bytes=64:=⟨_,_,rfl,by kernel_rfl,rfl,by kernel_rfl,by kernel_rfl⟩;refine⟨by omega,by kernel_rfl,?_⟩;intro w base vb vo vc vs hb hvl GJ h1v;have hG1:=grownCap_ge w 1 0 431;have hG2:=grownCap_le_maxLen w 1 0 431 (by unfold maxLen;omega);refine(Tryz.insp_nil base vb vo vc vs w i0 z hi0 hz0 Y3 (by rw[hby];omega) hvl GJ h1v).mono λe w' ⟨h1,h2⟩=>⟨1,_,_,_,h1,h2,hG1,hG2,?_,?_⟩
 .rw[zg0z,size_zeroCells,hzs,List.size_toArray,hvl];omega
 .intro j hj;rw[Array.getElem?_append_left (by simp;omega),zf8z]
set_option maxHeartbeats 4000000 in
set_option maxRecDepth 100000 in
theorem Tryz.growZero(base:Option Addr)(w:World):Calls Tryz.prog 338 #[.slice base 0 0,.int .i64 0] w λe w'=>e=.returned (.slice base 0 0)/\w'=w:=by
 go_enter Tryz.func338,Tryz.ntmps338
 go_wp2
 go_ret
 exact⟨rfl,rfl⟩
set_option maxHeartbeats 4000000 in
set_option maxRecDepth 100000 in
theorem Tryz.growSome(base:Option Addr)(n:Nat)(w:World)(i0:TypeInfo)(z:Value)(hi0:Tryz.prog.info? 28=some i0)(hz0:i0.zero=some z)(Y3:i0.size=4)(h0:0<n)(hm:n<=maxLen)(hbig:n*i0.bytes<=140737488355328) :
  Calls Tryz.prog 338 #[.slice base 0 0,.int .i64 n] w λe w'=>e=.returned (.slice (some ⟨w.heap.size,0,none⟩) 0 (grownCap w n 0 28)) /\
   w'=w.drew.alloc (.cells (Builtin.zeroCells z.cells n++Builtin.zeroCells z.cells (grownCap w n 0 28-n)) 28):=by
 have hmm:maxLen<=9223372036854775807:=by unfold maxLen;omega
 have mixed:Tryz.prog.follows Departure.mixedOrders=true:=by kernel_rfl
 have hold:(Builtin.firstCells i0.size 0 (.slice base 0 0)).run Tryz.prog w.drew=.ok ([]:List Value).toArray w.drew:=by
  rw[Y3];cases base with
  |none=>exact run_firstCells_none w.drew 4 0 0 0
  |some a=>exact run_firstCells_some w.drew 4 0 a 0 0 [] rfl (λj v hj=>by simp at hj)
 have hrz:∀ty,(Builtin.append_ #[26,3] ty #[.slice base 0 0,.int .i64 (n:Int)]).run Tryz.prog w =
   .ok (.slice (some ⟨w.heap.size,0,none⟩) n (grownCap w n 0 28)) (w.drew.alloc (.cells (Builtin.zeroCells z.cells n++Builtin.zeroCells z.cells (grownCap w n 0 28-n)) 28)):=λty=>by
  have h:=Lib.run_append_grow_zeros w 26 3 ty 28 i0 z .i64 .i64 Tryz.termsUnd Tryz.intUnd hi0 hz0 base 0 0 [] hold n (by omega) (by omega) (by omega) (by omega) (by omega)
   (by rw[zf2z];exact growslice_fits (need:=n) (by omega) hbig)
  rw[zf2z]at h;simpa using h
 have hG63:grownCap w n 0 28<=9223372036854775807:=by
  have:=grownCap_le_maxLen w n 0 28 hm;omega
 generalize hG:grownCap w n 0 28=G at *
 generalize hR:Builtin.zeroCells z.cells n++Builtin.zeroCells z.cells (G-n)=R at *
 have h1:¬((n:Int)<0):=by omega
 have h2:wrap64 (n:Int)=(n:Int):=by unfold wrap64;omega
 have h4:(n:Int) > 0:=by omega
 clear hR hold hG
 go_enter Tryz.func338,Tryz.ntmps338
 cases base with
 |none =>
  go_wp2_with (at_builtin;refine Lib.wpList_append_run _ rfl _ _ _ _ rfl _ _ rfl rfl _ _ (hrz _) ?_)
  all_goals (go_ret;exact⟨rfl,rfl⟩)
 |some a =>
  obtain⟨ab,ao,asp⟩:=a
  go_wp2_with (at_builtin;refine Lib.wpList_append_run _ rfl _ _ _ _ rfl _ _ rfl rfl _ _ (hrz _) ?_)
  all_goals (go_ret;exact⟨rfl,rfl⟩)
set_option maxRecDepth 100000 in
theorem Tryz.growLaw:GrowLaw Tryz.prog 338 4 56:=by
 obtain⟨i0,z,hi0,Y3,hz0,hzs,hby⟩:∃i0 z,Tryz.prog.info? 28=some i0/\i0.size=4/\i0.zero=some z/\z.cells.size=4/\i0.bytes=56:=⟨_,_,rfl,by kernel_rfl,rfl,by kernel_rfl,by kernel_rfl⟩;refine⟨by omega,by kernel_rfl,λw base=>Tryz.growZero base w,λw base n h0 hb hm=>?_⟩;have hG1:=grownCap_ge w n 0 28;refine(Tryz.growSome base n w i0 z hi0 hz0 Y3 h0 hm (by rw[hby];exact hb)).mono λe w' ⟨h1,h2⟩=>⟨1,_,_,_,h1,h2,grownCap_le_maxLen w n 0 28 hm,?_⟩;rw[zg0z,size_zeroCells,size_zeroCells,hzs];omega
end Go.Proofs
set_option linter.unusedVariables false
set_option linter.unusedSimpArgs false
namespace Go.Proofs
open Go.RowKit Go.Lib Go.Abs
set_option maxHeartbeats 2000000 in
set_option maxRecDepth 100000 in
theorem Tryz.mul64(x y:Nat)(hx:x<18446744073709551616)(hy:y<18446744073709551616)(w:World) :
  Calls Tryz.prog 213 #[.int .u64 x,.int .u64 y] w λe w'=>e=.returned (.tuple #[.int .u64 ((x*y / 18446744073709551616:Nat):Int),.int .u64 ((x*y % 18446744073709551616:Nat):Int)])/\w'=w:=by
 obtain⟨bd,bt,bw,XS⟩:=Lib.mul64_hi x y hx hy;have ba:=Lib.half_mul_le (a:=x / 4294967296) (b:=y / 4294967296) (by omega) (by omega);have bb:=Lib.half_mul_le (a:=x / 4294967296) (b:=y % 4294967296) (by omega) (by omega);have bc:=Lib.half_mul_le (a:=x % 4294967296) (b:=y / 4294967296) (by omega) (by omega);have ba':x / 4294967296*(y / 4294967296)<18446744073709551616:=by omega
 have bb':x / 4294967296*(y % 4294967296)<18446744073709551616:=by omega
 have bc':x % 4294967296*(y / 4294967296)<18446744073709551616:=by omega
 have bh1:x / 4294967296*(y / 4294967296)+(x / 4294967296*(y % 4294967296)+x % 4294967296*(y % 4294967296) / 4294967296) / 4294967296<18446744073709551616:=by omega
 have bh:x / 4294967296*(y / 4294967296)+(x / 4294967296*(y % 4294967296)+x % 4294967296*(y % 4294967296) / 4294967296) / 4294967296+((x / 4294967296*(y % 4294967296)+x % 4294967296*(y % 4294967296) / 4294967296) % 4294967296+x % 4294967296*(y / 4294967296)) / 4294967296<18446744073709551616:=by omega
 go_enter Tryz.func213,Tryz.ntmps213
 go_wp2
 simp only[Mul64.maskN x hx,Mul64.maskN y hy,Mul64.divN,Mul64.mulN,Mul64.addN,Mul64.wrapN _ bd,Mul64.wrapN _ bb',Mul64.wrapN _ bt,Mul64.maskN _ bt,Mul64.wrapN _ bc',Mul64.wrapN _ bw,Mul64.wrapN _ ba',Mul64.wrapN _ bh1,Mul64.wrapN _ bh,Mul64.wrapM (x*y)];rw[XS]
 go_ret2
 exact⟨rfl,rfl⟩
set_option maxHeartbeats 2000000 in
set_option maxRecDepth 100000 in
theorem Tryz.mul(x y:Nat)(hx:x<18446744073709551616)(hy:y<18446744073709551616)(w:World) :
  Calls Tryz.prog 120 #[.int .u64 x,.int .u64 y] w λe w'=>e=.returned (.tuple #[.int .u64 ((x*y / 18446744073709551616:Nat):Int),.int .u64 ((x*y % 18446744073709551616:Nat):Int)])/\w'=w:=by
 have c64:=Tryz.mul64 x y hx hy w
 go_enter Tryz.func120,Tryz.ntmps120
 go_wp2_with (go_at_call 213;refine c64.mono ?_;rintro e w' ⟨rfl,hw⟩;rw[hw])
 go_ret2
 exact⟨rfl,rfl⟩
theorem lL(n:Nat):madeCells (Value.int .i64 0).cells (n*1)=(zf0z n (Value.int .i64 0)).toArray:=by
 rw[zg3z];apply Array.ext
 .simp[size_madeCells]
 .intro i h1 h2;simp only[madeCells,Array.getElem_map,List.getElem_toArray,List.getElem_replicate];show (Value.int .i64 0).cells[_ % 1]! = _;rw[Nat.mod_one];rfl
def U1(x:Int)(k n:Nat):Array Value:=(zf0z k (Value.int .i64 x)++zf0z (n-k) (Value.int .i64 0)).toArray
theorem Ja(x:Int){k n:Nat}(h:k<=n):(U1 x k n).size=n:=by simp[U1];omega
theorem Ob(x:Int){k n j:Nat}(h:j<k)(hk:k<=n):(U1 x k n)[j]?=some (.int .i64 x):=by
 unfold U1;rw[zf8z,List.getElem?_append_left (by simpa using h),zf3z,if_pos h]
theorem Mh(x:Int){k n q:Nat}(hq:k+q<=n):((U1 x k n).toList.take k++zf0z q (Value.int .i64 x)++(U1 x k n).toList.drop (k+q)).toArray=U1 x (k+q) n:=by
 unfold U1;congr 1;simp only[List.take_append,List.drop_append,zf9z,List.take_replicate,List.drop_replicate];rw[Nat.min_self,Nat.sub_self,Nat.zero_min,show k-(k+q)=0 by omega,show n-k-(k+q-k)=n-(k+q) by omega];simp
theorem oT(w:World)(a:Array Value)(t:TypeId)(j:Nat)(v:Value)(h:a[j]?=some v):(w.alloc (.cells a t)).cell? ⟨w.heap.size,j,none⟩=some v:=by
 have hh:(w.alloc (.cells a t)).heap[w.heap.size]?=some (.cells a t):=by
  show (w.heap.push _)[w.heap.size]?=_;simp
 show (match (w.alloc (.cells a t)).heap[w.heap.size]? with|some (.cells c _ _)=>c[j]? | _=>none)=some v
 rw[hh];exact h
set_option maxHeartbeats 4000000 in
set_option maxRecDepth 100000 in
theorem Tryz.rep_calls(b o c:Nat)(x:Int)(n:Nat)(hn:n<=1048576)(w:World)(hx:w.cell? ⟨b,o,none⟩=some (.int .i64 x)) :
  Calls Tryz.prog 52 #[.slice (some ⟨b,o,none⟩) 1 c,.int .i64 n] w λe w'=>e=.returned (.slice (some ⟨w.heap.size,0,none⟩) n n)/\∃q,w'=(w.drewN q).alloc (.cells (U1 x n n) 3):=by
 have hm:(1*n / 18446744073709551616:Nat)=0:=by omega
 have hm2:(1*n % 18446744073709551616:Nat)=n:=by omega
 have c1:=λw=>Tryz.mul 1 n (by omega) (by omega) w;rw[hm,hm2]at c1;have hnn:¬(n:Int)<0:=by omega
 obtain⟨i0,z,hi0,hz0,Y3,hzc,hby⟩:∃i0 z,Tryz.prog.info? 3=some i0/\i0.zero=some z/\i0.size=1/\z=.int .i64 0/\i0.bytes=8:=⟨_,_,rfl,rfl,by kernel_rfl,by kernel_rfl,by kernel_rfl⟩;subst hzc;have hund:Tryz.prog.underlying 44=some (.slice 3):=by kernel_rfl
 have hinf:(Tryz.prog.info? 3).map (·.size)=some 1:=by rw[hi0];simp[Y3]
 have hmk:=run_make (P:=Tryz.prog) w 44 3 i0 (.int .i64 0) hund hi0 hz0 .i64 .i64 n n (by omega) (Int.le_refl _) (by rw[hby];omega) (by omega);rw[Int.toNat_natCast,Y3,lL,show (zf0z n (Value.int .i64 0)).toArray=U1 x 0 n by simp[U1]]at hmk;have hheap:∀k,(w.alloc (.cells (U1 x k n) 3)).heap[w.heap.size]?=some (.cells (U1 x k n) 3 (0,0)):=λk=>by
  show (w.heap.push _)[w.heap.size]?=_;simp
 have G9:∀{a' o':Nat} {v:Value} (k:Nat),w.cell? ⟨a',o',none⟩=some v->(w.alloc (.cells (U1 x k n) 3)).cell? ⟨a',o',none⟩=some v:=λk h=>Lib.cell?_alloc_some _ h;have cp1:∀ty,(Builtin.copy_ #[44,44] ty #[.slice (some ⟨w.heap.size,0,none⟩) n n,.slice (some ⟨b,o,none⟩) 1 c]).run Tryz.prog (w.alloc (.cells (U1 x 0 n) 3))=.ok (goInt (min 1 n:Nat)) (w.alloc (.cells (U1 x (min 1 n) n) 3)):=λty=>by
  rcases Nat.eq_zero_or_pos n with h0|h0
  .subst h0;exact run_copy_none (P:=Tryz.prog) _ _ _ ty 3 _ _ 0 0 1 c hund hinf rfl
  .have h:=run_copy_row (P:=Tryz.prog) (w.alloc (.cells (U1 x 0 n) 3)) 44 44 ty 3 w.heap.size 0 n n ⟨b,o,none⟩ 1 c (U1 x 0 n) 3 [.int .i64 x] hund hinf (hheap 0) (by show 1=min 1 n;omega)
    (λj v hj=>by
     have:j=0:=by have:=(zf1z.1 hj).1;simpa using this
     subst this;rw[zf7z,Option.some.injEq]at hj;subst hj;exact G9 0 hx) (by rw[Ja x (zf5z _)];simp;omega) (λv hv=>by rw[List.mem_singleton.1 hv];rfl)
   rw[h,Hi];have e:=Mh x (k:=0) (n:=n) (q:=1) (by omega);rw[show min 1 n=1 by omega];rw[List.take_zero,zg2z,zf2z]at *
   exact congrArg (λq=>Result.ok (goInt ((1:Nat):Int)) (w.alloc (.cells q 3))) (by simpa using e)
 go_enter Tryz.func52,Tryz.ntmps52
 go_wp2_with (go_at_call 120;refine(c1 _).mono ?_;rintro e w' ⟨rfl,hw⟩;rw[hw])
 have hcpk:∀(q k:Nat) ty dc sc,0<k->k<n->(Builtin.copy_ #[44,44] ty #[.slice (some ⟨w.heap.size,k,none⟩) (n-k) dc,.slice (some ⟨w.heap.size,0,none⟩) k sc]).run Tryz.prog ((w.drewN q).alloc (.cells (U1 x k n) 3)).drew=.ok (goInt (min k (n-k):Nat)) ((w.drewN (q+1)).alloc (.cells (U1 x (k+min k (n-k)) n) 3)):=λq k ty dc sc h0 hkn=>by
  have hhp:((w.drewN (q+1)).alloc (.cells (U1 x k n) 3)).heap[w.heap.size]?=some (.cells (U1 x k n) 3 (0,0)):=heap_alloc_new (w.drewN (q+1)) _;have h:=run_copy_row (P:=Tryz.prog) ((w.drewN (q+1)).alloc (.cells (U1 x k n) 3)) 44 44 ty 3 w.heap.size k (n-k) dc ⟨w.heap.size,0,none⟩ k sc (U1 x k n) 3 (zf0z (min k (n-k)) (.int .i64 x)) hund hinf hhp (by simp)
   (λj v hj=>by
    rw[zf3z]at hj;split at hj
    .cases hj;rw[Addr.add_lit,zf2z];exact oT (w.drewN (q+1)) _ _ j _ (Ob x (by omega) (by omega))
    .cases hj) (by rw[Ja x (by omega)];simp;omega) (λv hv=>by rw[List.eq_of_mem_replicate hv];rfl)
  rw[zf9z,Mh x (by omega)]at h;exact h.trans (congrArg _ (Hi (w.drewN (q+1)) _ _ _))
 have mixed:Tryz.prog.follows Departure.mixedOrders=true:=by kernel_rfl
 go_loopw [8] (λv wr=>∃k q:Nat,v=.int .i64 k/\k<=n/\min 1 n<=k/\wr=(w.drewN q).alloc (.cells (U1 x k n) 3)) (λv _=>n-(RowKit.intOf v).toNat)
 case atStart=>exact⟨min 1 n,0,rfl,by omega,zf4z _,rfl⟩
 case round =>
  obtain⟨k,q,rfl,hk,hk1,rfl⟩:=hrel;by_cases hlt2:k<n
  .have hkp:0<k:=by omega
   have hw1:IntKind.i64.wrap ((k:Int)+(min k (n-k):Nat))=(k:Int)+(min k (n-k):Nat):=by rw[IntKind.wrap_i64];omega
   have hkn:¬n=k:=by omega
   go_wp2
   go_region_law_o (refine step_copy_runI rfl _ _ 44 44 rfl (.slice (some ⟨w.heap.size,k,none⟩) (n-k) (n-k)) (.slice (some ⟨w.heap.size,0,none⟩) k n) (by simp[Act.eval,Act.put]) (by simp[Act.eval,Act.put]) (hcpk _ _ _ _ _ hkp hlt2) ?_)
   simp[Act.put]
   go_roundw
   case rel =>
    refine⟨_,_,_,_,_,_,_,_,_,_,_,_,_,_,⟨k+min k (n-k),q+1,?_,by omega,by omega,rfl⟩,rfl⟩;simp
   case measure=>simp[RowKit.intOf];omega
  .obtain rfl:k=n:=by omega
   go_wp2
   go_ret
   exact⟨rfl,q,rfl⟩
end Go.Proofs
namespace Go.Abs
open Go.RowKit (Below)
structure RepLaw (P:Program) (f:FuncId):Prop where
 enter:Program.enterable P f=true
 run:∀(w:World) (b o c n:Nat) (x:Int),n<=1048576->w.cell? ⟨b,o,none⟩=some (.int .i64 x) ->
  Calls P f #[.slice (some ⟨b,o,none⟩) 1 c,.int .i64 n] w λe w'=>∃(q:Nat) (us:Array Value) (t:TypeId),e=.returned (.slice (some ⟨w.heap.size,0,none⟩) n n)/\w'=(w.drewN q).alloc (.cells us t)/\n<=us.size/\∀j,j<n->us[j]?=some (.int .i64 x)
theorem mO{P:Program}{f:FuncId}(L:RepLaw P f)(O:Orc)(args:I7)(h:AH)(r:AV)(h':AH)(he:xb.run O args h=some (r,h')):Program.enterable P f=true /\
  ∀(E:Env) (vs:Array Value),SR E->DC E.w E.ok->E.h=h->W5 E args vs.toList ->
   Calls P f vs E.w λe w'=>∃u E',e=.returned u/\w'=E'.w/\Ext E E'/\SR E'/\E'.h=h'/\VR E' r u:=by
 refine⟨L.enter,λE avs hS _ hh hv=>?_⟩;subst hh;change TB args E.h=some (r,h')at he;unfold TB at he;split at he
 .rename_i fl z x n;obtain⟨avs⟩:=avs;simp only[W5]at hv;obtain⟨v0,_,rfl,hv0,v1,_,rfl,hv1,rfl⟩:=hv;simp only[VR]at hv1;subst hv1;split at he
  .rename_i hc;obtain⟨rfl,c1,c2,c3⟩:=hc;cases he;obtain⟨m,rfl⟩:∃m:Nat,n=m:=⟨n.toNat,by omega⟩;simp only[VR,PV]at hv0;obtain⟨base,len,cap,rfl,rfl,hlc,hcm,hfull,hnil,hels⟩:=hv0;obtain⟨b,o,rfl,hz0,hP⟩:=hels (by simp);simp only[Jn]at hP;obtain⟨_,⟨u,hu1,hu2,hu3,hu4⟩,_⟩:=hP;simp only[PV]at hu4;subst hu4;refine(L.run E.w b o cap m x (by omega) hu2).mono λe w' ⟨q,us,te,h1,h2,h3,h4⟩=>?_;have x1:=AJ hS (DG E.w q);have s1:=Cm hS (DG E.w q);refine⟨_,({E with w:=E.w.drewN q}:Env).newFam us te m ⟨zf0z m (.int .i64 x),1,true⟩,h1,h2,x1.trans (FF s1 _ _ _ _),II s1 (Nat.one_pos) (by simp) (Nat.le_trans (by omega:m<=1048576) (by decide)) (by simpa using h3) (λj y hy=>?_),?_,?_⟩
   .obtain⟨hjm,rfl⟩:j<m/\y=.int .i64 x:=by
     rw[zf3z]at hy;split at hy
     .exact⟨by assumption,by simpa using hy.symm⟩
     .cases hy
    refine⟨rfl,λc y' hy'=>?_⟩;have hc:c=0:=by
     have h9:=(zf1z.1 hy').1;rw[show (AV.int .i64 x).cells=[AV.int .i64 x] from rfl]at h9;simp at h9;omega
    subst hc;simp only[AV.cells,zf7z,Option.some.injEq]at hy';subst hy';exact⟨.int .i64 x,by rw[zg3z,Nat.add_zero];exact h4 j hjm,rfl,rfl⟩
   .simp[Env.newFam]
   .simp only[VR,Env.newFam,V4];exact⟨_,_,⟨zf0z m (.int .i64 x),1,true⟩,rfl,by simp,⟨by simp,λ_=>⟨_,_,rfl⟩⟩,λ_=>⟨zf5z _,by simp,by simp,(λh=>nomatch h),λ_=>by simp⟩⟩
  .cases he
 .cases he
end Go.Abs
namespace Go.Proofs
open Go.RowKit Go.Lib Go.Abs
theorem Tryz.repLaw:RepLaw Tryz.prog 52 :=
 ⟨by kernel_rfl,λw b o c n x hn hx=>(Tryz.rep_calls b o c x n hn w hx).mono λe w' ⟨h1,q,h2⟩=>⟨q,_,_,h1,h2,by rw[Ja x (zf4z _)];exact zf4z _,λj hj=>Ob x hj (zf4z _)⟩⟩
end Go.Proofs
namespace Go.Proofs
open Go.Shelf
def Tryz.trimLays_ren:Go.Shelf.Ren:=⟨fun|160=>215|232=>294|231=>293|227=>295|234=>297|233=>296|236=>299|235=>298|228=>361|271=>364|151=>363|197=>362|120=>416|152=>415|260=>414|137=>444|119=>445|224=>359|225=>358|217=>357|266=>412|n=>n,fun|9=>9|4=>4|3=>3|5=>5|117=>354|116=>353|0=>0|124=>357|21=>21|105=>394|46=>168|119=>439|139=>442|138=>441|n=>n,fun|3=>3|4=>4|n=>n⟩
set_option maxRecDepth 100000 in
theorem Tryz.trimLays:Go.Proofs.Lays.n160 Tryz.prog Tryz.trimLays_ren:={
 mixed:=by kernel_rfl
 f119:=Tryz.func445.trans (congrArg some (by kernel_rfl))
 f120:=Tryz.func416.trans (congrArg some (by kernel_rfl))
 f137:=Tryz.func444.trans (congrArg some (by kernel_rfl))
 f151:=Tryz.func363.trans (congrArg some (by kernel_rfl))
 f152:=Tryz.func415.trans (congrArg some (by kernel_rfl))
 f160:=Tryz.func215.trans (congrArg some (by kernel_rfl))
 f197:=Tryz.func362.trans (congrArg some (by kernel_rfl))
 f217:=Tryz.func357.trans (congrArg some (by kernel_rfl))
 f224:=Tryz.func359.trans (congrArg some (by kernel_rfl))
 f225:=Tryz.func358.trans (congrArg some (by kernel_rfl))
 f227:=Tryz.func295.trans (congrArg some (by kernel_rfl))
 f228:=Tryz.func361.trans (congrArg some (by kernel_rfl))
 f231:=Tryz.func293.trans (congrArg some (by kernel_rfl))
 f232:=Tryz.func294.trans (congrArg some (by kernel_rfl))
 f233:=Tryz.func296.trans (congrArg some (by kernel_rfl))
 f234:=Tryz.func297.trans (congrArg some (by kernel_rfl))
 f235:=Tryz.func298.trans (congrArg some (by kernel_rfl))
 f236:=Tryz.func299.trans (congrArg some (by kernel_rfl))
 f260:=Tryz.func414.trans (congrArg some (by kernel_rfl))
 f266:=Tryz.func412.trans (congrArg some (by kernel_rfl))
 f271:=Tryz.func364.trans (congrArg some (by kernel_rfl))
 t0:=Tryz.underlying0
 a0:=Tryz.isAgg0
 z0:=Tryz.sizeOf0
 v0:=Tryz.zeroValue0
 t3:=Tryz.underlying3
 a3:=Tryz.isAgg3
 z3:=Tryz.sizeOf3
 v3:=Tryz.zeroValue3
 t4:=Tryz.underlying4
 a4:=Tryz.isAgg4
 z4:=Tryz.sizeOf4
 v4:=Tryz.zeroValue4
 t5:=Tryz.underlying5
 a5:=Tryz.isAgg5
 z5:=Tryz.sizeOf5
 v5:=Tryz.zeroValue5
 t9:=Tryz.underlying9
 a9:=Tryz.isAgg9
 z9:=Tryz.sizeOf9
 v9:=Tryz.zeroValue9
 t21:=Tryz.underlying21
 a21:=Tryz.isAgg21
 z21:=Tryz.sizeOf21
 v21:=Tryz.zeroValue21
 t46:=Tryz.underlying168
 a46:=Tryz.isAgg168
 z46:=Tryz.sizeOf168
 v46:=Tryz.zeroValue168
 t105:=Tryz.underlying394
 a105:=Tryz.isAgg394
 z105:=Tryz.sizeOf394
 v105:=Tryz.zeroValue394
 t116:=Tryz.underlying353
 a116:=Tryz.isAgg353
 z116:=Tryz.sizeOf353
 t117:=Tryz.underlying354
 a117:=Tryz.isAgg354
 z117:=Tryz.sizeOf354
 v117:=Tryz.zeroValue354
 t119:=Tryz.underlying439
 a119:=Tryz.isAgg439
 z119:=Tryz.sizeOf439
 t124:=Tryz.underlying357
 a124:=Tryz.isAgg357
 z124:=Tryz.sizeOf357
 v124:=Tryz.zeroValue357
 t138:=Tryz.underlying441
 a138:=Tryz.isAgg441
 z138:=Tryz.sizeOf441
 v138:=Tryz.zeroValue441
 t139:=Tryz.underlying442
 a139:=Tryz.isAgg442
 z139:=Tryz.sizeOf442
 v139:=Tryz.zeroValue442
 g3:=by kernel_rfl
 g4:=by kernel_rfl}
set_option maxRecDepth 100000 in
theorem Tryz.trim(s:ByteArray)(w:World)(hs:s.size<=9223372036854775807) :
  Calls Tryz.prog 215 #[.string s,.string ⟨#[48,49,50,51,52,53,54,55,56,57]⟩] w λe w'=>e=.returned (.string ⟨(Lib.trimS s.data.toList [48,49,50,51,52,53,54,55,56,57]).toArray⟩)/\Go.RowKit.Below w.heap.size w w' :=
 Any.strings_Trim_laid Tryz.trimLays (by kernel_rfl) s ⟨#[48,49,50,51,52,53,54,55,56,57]⟩ w hs (by decide) (ascii_of_all (by decide))
end Go.Proofs
namespace Go.Proofs
set_option maxHeartbeats 1000000 in
set_option maxRecDepth 100000 in
theorem Tryz.cmpString(a b:ByteArray)(w:World) :
  Calls Tryz.prog 347 #[.string a,.string b] w λe w'=>e=.returned (.int .i64 (Lib.compareBytes a.data.toList b.data.toList))/\w'=w:=by
 go_enter Tryz.func347,Tryz.ntmps347
 go_wp2
 rw[run_callFunc_extern Tryz.func404 (by kernel_rfl) (by kernel_rfl) (by kernel_rfl) (e:=Extern.BytealgCompare.compare) (by kernel_rfl),Lib.run_compareString];simp only[Result.andThen];rw[Oper.upon_value]
 go_wp2
 go_ret
 exact⟨rfl,rfl⟩
set_option maxHeartbeats 1000000 in
set_option maxRecDepth 100000 in
theorem Tryz.sliteIndexByte(s:ByteArray)(c:Int)(w:World) :
  Calls Tryz.prog 357 #[.string s,.int .u8 c] w λe w'=>e=.returned (.int .i64 (Lib.indexByte s.data.toList c.toNat.toUInt8))/\w'=w:=by
 go_enter Tryz.func357,Tryz.ntmps357
 go_wp2
 rw[run_callFunc_extern Tryz.func412 (by kernel_rfl) (by kernel_rfl) (by kernel_rfl) (e:=Extern.BytealgIndexByte.indexByte) (by kernel_rfl),Lib.run_indexByteString];simp only[Result.andThen];rw[Oper.upon_value]
 go_wp2
 go_ret
 exact⟨rfl,rfl⟩
set_option maxHeartbeats 2000000 in
set_option maxRecDepth 100000 in
theorem Tryz.sliteIndexOne(s:ByteArray)(c:UInt8)(w:World) :
  Calls Tryz.prog 289 #[.string s,.string ⟨#[c]⟩] w λe w'=>e=.returned (.int .i64 (Lib.indexByte s.data.toList c))/\w'=w:=by
 go_enter Tryz.func289,Tryz.ntmps289
 go_wp2_with (go_at_call 357;refine(Tryz.sliteIndexByte _ _ _).mono ?_;rintro e w' ⟨rfl,rfl⟩)
 .have h:([c] == s.toList)=true:=by assumption
  go_ret
  refine⟨?_,rfl⟩;have e:s.data.toList=[c]:=by rw[←Lib.toList_data];exact(beq_iff_eq.1 h).symm
  rw[e];simp[Lib.indexByte]
 .go_ret
  exact⟨rfl,rfl⟩
set_option maxHeartbeats 1000000 in
theorem Tryz.stringsIndexOne(s:ByteArray)(c:UInt8)(w:World) :
  Calls Tryz.prog 206 #[.string s,.string ⟨#[c]⟩] w λe w'=>e=.returned (.int .i64 (Lib.indexByte s.data.toList c))/\w'=w:=by
 go_enter Tryz.func206,Tryz.ntmps206
 go_wp2_with (go_at_call 289;refine(Tryz.sliteIndexOne _ _ _).mono ?_;rintro e w' ⟨rfl,rfl⟩)
 go_ret
 exact⟨rfl,rfl⟩
set_option maxHeartbeats 1000000 in
theorem Tryz.stringsContainsOne(s:ByteArray)(c:UInt8)(w:World) :
  Calls Tryz.prog 110 #[.string s,.string ⟨#[c]⟩] w λe w'=>e=.returned (.bool (decide (0<=Lib.indexByte s.data.toList c)))/\w'=w:=by
 go_enter Tryz.func110,Tryz.ntmps110
 go_wp2_with (go_at_call 206;refine(Tryz.stringsIndexOne _ _ _).mono ?_;rintro e w' ⟨rfl,rfl⟩)
 go_ret
 exact⟨rfl,rfl⟩
end Go.Proofs
namespace Go.Abs.Q
open Go.Proofs
open Go.RowKit (Below)
theorem Ry:∀(a b:List UInt8),Lib.compareBytes a b=if Op.bytesLess a b then -1 else if a=b then 0 else 1
 | [],[]=>by simp[Lib.compareBytes,Op.bytesLess]
 | [],_::_=>by simp[Lib.compareBytes,Op.bytesLess]
 |_::_,[]=>by simp[Lib.compareBytes,Op.bytesLess]
 |x::a,y::b=>by
  simp only[Lib.compareBytes,Op.bytesLess,Ry a b];by_cases h:x<y
  .simp[h]
  .by_cases h':y<x
   .have s9:x≠y:=λe=>h (e ▸ h');simp[h,h',s9]
   .have he:x=y:=by
     apply UInt8.le_antisymm
     .exact UInt8.not_lt.1 h'
     .exact UInt8.not_lt.1 h
    subst he;simp[h]
theorem Zh(a b:AD):DF a b=Lib.compareBytes a.data.toList b.data.toList:=by
 rw[Ry,DF,Lib.toList_data,Lib.toList_data]
theorem Mb(c:UInt8):∀l:List UInt8,0<=Lib.indexByte l c↔c∈l
 | []=>by simp[Lib.indexByte]
 |b::l=>by
  have ih:=Mb c l;have hge:=Lib.indexByte_ge l c;by_cases h:b=c
  .subst h;simp[Lib.indexByte]
  .have h1:Lib.indexByte (b::l) c=if Lib.indexByte l c=-1 then -1 else Lib.indexByte l c+1:=by
    simp[Lib.indexByte,h]
   have h2:¬c=b:=λe=>h e.symm;rw[h1,List.mem_cons];by_cases h3:Lib.indexByte l c=-1
   .rw[if_pos h3];constructor
    .intro k;omega
    .rintro(k|k)
     .exact absurd k h2
     .have:=ih.2 k;omega
   .rw[if_neg h3];constructor
    .intro k;exact .inr (ih.1 (by omega))
    .intro k;omega
theorem UN(l:List UInt8)(c:UInt8):decide (0<=Lib.indexByte l c)=l.contains c:=by
 rw[Bool.eq_iff_iff,decide_eq_true_iff,Mb];simp
theorem mixed:Tryz.prog.follows .mixedOrders=true:=by kernel_rfl
theorem rf_all(f:FuncId)(s:RSpec)(h:NG f=some s):(f=T0/\s=insR 4 56)\/(f=R6/\s=qh 5 64)\/(f=X2/\s=qc 4 56 true)\/(f=Q2/\s=xb):=by
 unfold NG at h;split at h
 .rename_i hf;cases h;exact .inl ⟨hf,rfl⟩
 .split at h
  .rename_i hf;cases h;exact .inr (.inl ⟨hf,rfl⟩)
  .split at h
   .rename_i hf;cases h;exact .inr (.inr (.inl ⟨hf,rfl⟩))
   .split at h
    .rename_i hf;cases h;exact .inr (.inr (.inr ⟨hf,rfl⟩))
    .cases h
theorem QS:CfgS Tryz.prog Q:=by
 refine⟨λf rf h=>?_,λf s hs args r hr=>?_,mixed,λf s hs O hP args h r h' he=>?_⟩
 .have h1:Q5 f=some rf:=(Mj f).symm.trans h;unfold Q5 at h1;split at h1
  .cases h1
  .exact h1
 rotate_left 1
 .have hs':NG f=some s:=hs;rcases rf_all f s hs' with ⟨rfl,rfl⟩|⟨rfl,rfl⟩|⟨rfl,rfl⟩|⟨rfl,rfl⟩
  .exact lE Tryz.insLaw O args h r h' he
  .exact dz Tryz.insLawP O args h r h' he
  .exact dx Tryz.growLaw O args h r h' he
  .exact mO Tryz.repLaw O args h r h' he
 have hs':HC f=some s:=(PC f).symm.trans hs;unfold HC at hs';split at hs'
 .rename_i hf;subst hf;cases hs';unfold YW at hr;split at hr
  .rename_i a b;cases hr;refine⟨by kernel_rfl,λw ok0 vs _ _ hv=>?_⟩;have GJ:vs=#[.string a,.string b]:=by
    simp only[Aj,PV]at hv;obtain⟨u,us,h1,rfl,u',us',rfl,rfl,rfl⟩:=hv;cases vs
    simp_all
   subst GJ;refine(Tryz.cmpString a b w).mono λe w' ⟨he,hw⟩=>?_;subst hw;exact⟨_,he,Bl.refl _ _,by simp[PV,Zh]⟩
  .cases hr
 .split at hs'
  .rename_i hf;subst hf;cases hs';unfold jK at hr;split at hr
   .rename_i a b;split at hr
    .rename_i c hb;cases hr;refine⟨by kernel_rfl,λw ok0 vs _ _ hv=>?_⟩;have hb':b=⟨#[c]⟩:=by
      obtain⟨⟨l⟩⟩:=b;simp at hb;rw[hb]
     subst hb';have GJ:vs=#[.string a,.string ⟨#[c]⟩]:=by
      simp only[Aj,PV]at hv;obtain⟨u,us,h1,rfl,u',us',rfl,rfl,rfl⟩:=hv;cases vs
      simp_all
     subst GJ;refine(Tryz.stringsContainsOne a c w).mono λe w' ⟨he,hw⟩=>?_;subst hw;exact⟨_,he,Bl.refl _ _,by simp[PV,UN]⟩
    .cases hr
   .cases hr
  .split at hs'
   .rename_i hf;subst hf;cases hs';unfold sg at hr;split at hr
    .rename_i a c;cases hr;refine⟨by kernel_rfl,λw ok0 vs _ _ hv=>?_⟩;have GJ:vs=#[.string a,.int .u8 c]:=by
      simp only[Aj,PV]at hv;obtain⟨u,us,h1,rfl,u',us',rfl,rfl,rfl⟩:=hv;cases vs
      simp_all
     subst GJ;refine(Tryz.sliteIndexByte a c w).mono λe w' ⟨he,hw⟩=>?_;subst hw;exact⟨_,he,Bl.refl _ _,by simp[PV]⟩
    .cases hr
   .split at hs'
    .rename_i hf;subst hf;cases hs';unfold sk at hr;split at hr
     .rename_i a b;split at hr
      .rename_i c hb;cases hr;refine⟨by kernel_rfl,λw ok0 vs _ _ hv=>?_⟩;have hb':b=⟨#[c]⟩:=by
        obtain⟨⟨l⟩⟩:=b;simp at hb;rw[hb]
       subst hb';have GJ:vs=#[.string a,.string ⟨#[c]⟩]:=by
        simp only[Aj,PV]at hv;obtain⟨u,us,h1,rfl,u',us',rfl,rfl,rfl⟩:=hv;cases vs
        simp_all
       subst GJ;refine(Tryz.stringsIndexOne a c w).mono λe w' ⟨he,hw⟩=>?_;subst hw;exact⟨_,he,Bl.refl _ _,by simp[PV]⟩
      .cases hr
     .cases hr
    .split at hs'
     .rename_i hf;subst hf;cases hs';unfold Of at hr;split at hr
      .rename_i a b;split at hr
       .rename_i hb;obtain⟨hb1,rfl⟩:=hb;cases hr;refine⟨by kernel_rfl,λw ok0 vs _ _ hv=>?_⟩;have GJ:vs=#[.string a,.string (bs [48,49,50,51,52,53,54,55,56,57])]:=by
         simp only[Aj,PV]at hv;obtain⟨u,us,h1,rfl,u',us',rfl,rfl,rfl⟩:=hv;cases vs
         simp_all
        subst GJ;refine(Tryz.trim a w (by omega)).mono λe w' ⟨he,hw⟩=>?_;exact⟨_,he,⟨hw,λh=>absurd h (by decide)⟩,by simp only[PV];rfl⟩
       .cases hr
      .cases hr
     .cases hs'
end Go.Abs.Q
namespace Go.Abs.Q
attribute [local simp] J0 J5 fin M6 M0
theorem iU:∀(n:Nat) (t:Tm),t.size<=n->t.size<=1099511627776->pc Q FO [U6 t]=some (.int .i64 t.size):=by
 intro n
 induction n with
 |zero=>intro t h;have:=t.size_pos;omega
 |succ n ih =>
  intro t hn hb;obtain⟨k,nm,s,m,kids⟩:=t;have Y3:Tm.size (.mk k nm s m kids)=1+Tm.sizes kids:=rfl;refine m6 Qc λfr hl h0=>?_;simp[Qc,U6]at hl h0 ⊢;simp[*];refine(kC (Ψ:=λe fr h=>e=.exit 0/\C7 fr 3=.int .i64 (1+Tm.sizes kids:Nat)/\fr.length=19) kids
   (λdone fr h=>fr.length=19/\C7 fr 3=.int .i64 (1+Tm.sizes done:Nat)/\C7 fr 7=sl m 4 (G8 kids)/\C7 fr 8=.int .i64 kids.length/\C7 fr 9=.int .i64 done.length) ?_ ?_ _ _ ?_).mono ?_
  .rintro fr h ⟨hl,h3,h7,h8,h9⟩;simp[Jj, *]
  .rintro done t rest he fr h ⟨hl,h3,h7,h8,h9⟩;have hget:MB (G8 kids) done.length=some (U6 t):=Gy (by rw[←he];simp);have G9:done.length<kids.length:=by rw[←he];simp
   have hts:t.size<=Tm.sizes kids:=Tm.size_le (by rw[←he];simp);have hT:=ih t (by omega) (by omega);have J3:=Tm.length_le kids;have hsum:Tm.sizes done+(t.size+Tm.sizes rest)=Tm.sizes kids:=by rw[←he,Tm.sizes_append];rfl
   have hw1:IntKind.i64.wrap (1+(Tm.sizes done:Int)+(t.size:Int))=1+(Tm.sizes (done++[t]):Int):=by
    rw[Tm.sizes_append,EX (by omega) (by omega)];simp only[Tm.sizes];omega
   have hw2:IntKind.i64.wrap ((done.length:Int)+1)=((done++[t]).length:Nat):=by
    rw[EX (by omega) (by omega)];simp
   obtain⟨tk,tn,ts,tm,tl⟩:=t;simp only[U6]at hT hget;simp[Jj, *]
  .simp[*,Tm.sizes,m8]
  .rintro e fr h ⟨rfl,h3,hl⟩;simp[*]
theorem IJ(a b:AD):pc Q Dl [.str a,.str b]=some (.int .i64 (DF a b)):=by
 refine Es JO λfr hl h0 h1=>?_;simp[JO]at hl h0 h1 ⊢;simp[*,pc_cmp]
def nz(a b:Int):Int:=if a=0 then b else a
mutual
def Mp:Tm->Tm->Int
 | .mk k n s _ l,.mk k' n' s' _ l'=>nz (JS (1+Tm.sizes l:Nat) (1+Tm.sizes l':Nat)) (nz (JS k k') (nz (DF n n') (nz (JS s s') (nz (JS l.length l'.length) (LE l l')))))
def LE:List Tm->List Tm->Int
 |t::l,t'::l'=>nz (Mp t t') (LE l l')
 |_,_=>0
end
theorem og{a b:Nat}(h:JS (a:Int) (b:Int)=0):a=b:=by
 unfold JS at h;split at h
 .omega
 .split at h<;>omega
theorem Ux(l:CI):LE [] l=0:=by cases l<;>rfl
theorem So:∀(n:Nat) (t t':Tm),t.size<=n->t.size<=1099511627776->t'.size<=1099511627776->pc Q AN [U6 t,U6 t']=some (.int .i64 (Mp t t')):=by
 intro n
 induction n with
 |zero=>intro t t' h;have:=t.size_pos;omega
 |succ n ih =>
  intro t t' hn hb hb';have hS:=iU _ t (zf4z _) hb;have hS':=iU _ t' (zf4z _) hb';obtain⟨k,nm,s,m,l⟩:=t;obtain⟨k',nm',s',m',l'⟩:=t';have Y3:Tm.size (.mk k nm s m l)=1+Tm.sizes l:=rfl;have hsz':Tm.size (.mk k' nm' s' m' l')=1+Tm.sizes l':=rfl;have J3:=Tm.length_le l;simp only[U6,Y3,hsz']at hS hS';have loop:∀(fr:Fr) (c:Int),fr.length=65->C7 fr 2=.ptr 0 0->C7 fr 3=.ptr 1 0->C7 fr 5=.int .i64 c->C7 fr 6=.int .i64 0->(c=0->l.length=l'.length) ->
    L9 (lp (A8 (Ax Q) (C2 AN) Cc) (fr,⟨[[.int .i64 k,.str nm,.int .i64 s,sl m 4 (G8 l)],[.int .i64 k',.str nm',.int .i64 s',sl m' 4 (G8 l')]],[]⟩))
     λe G6 _=>e=.exit 0/\G6.length=65/\C7 G6 5=.int .i64 (nz c (LE l l')):=by
   intro fr c hl h2 h3 h5 h6 hc;refine Ng (λn fr h=>∃i c',i+n=l.length/\fr.length=65/\C7 fr 2=.ptr 0 0/\C7 fr 3=.ptr 1 0/\C7 fr 5=.int .i64 c'/\C7 fr 6=.int .i64 (i:Nat)/\(c'=0->l.length=l'.length) /\
    nz c' (LE (l.drop i) (l'.drop i))=nz c (LE l l')/\h=⟨[[.int .i64 k,.str nm,.int .i64 s,sl m 4 (G8 l)],[.int .i64 k',.str nm',.int .i64 s',sl m' 4 (G8 l')]],[]⟩) ?_ l.length fr _ ⟨0,c,by omega,hl,h2,h3,h5,h6,hc,rfl,rfl⟩
   rintro n fr h ⟨i,c',hi,hl,h2,h3,h5,h6,hc',hr,rfl⟩;by_cases hc0:c'=0
   .subst hc0;have Ju:=hc' rfl;by_cases G9:i<l.length
    .have hx:MB (G8 l) i=some (U6 l[i]):=Gy (by simp[G9]);have hx':MB (G8 l') i=some (U6 (l'[i]'(by omega))):=Gy (by simp[show i<l'.length by omega]);have s1:=Tm.size_le (zg1z G9);have s2:=Tm.size_le (zg1z (show i<l'.length by omega));have hT:=ih l[i] (l'[i]'(by omega)) (by omega) (by omega) (by omega);have hw:=AQ i (by omega);rw[zf6z G9,zf6z (show i<l'.length by omega)]at hr;simp only[LE,nz,if_true]at hr;generalize l[i]=t at *
     generalize l'[i]'(by omega)=t' at *
     obtain⟨tk,tn,ts,tm,tl⟩:=t;obtain⟨tk',tn',ts',tm',tl'⟩:=t';simp only[U6]at hT hx hx';clear ih hS hS' hc Y3 hsz';simp[Cc,hl,h2,h3,h5,h6,G9,hx,hx',hT,hw];exact⟨n-1,by omega,i+1,by omega,by simp,λ_=>Ju,hr⟩
    .have h0:l.length<=i:=by omega
     rw[List.drop_eq_nil_of_le h0,Ux]at hr;clear ih hS hS' hc Y3 hsz' Ju hc';simp[Cc,hl,h2,h3,h5,h6,G9];exact hr
   .clear ih hS hS' hc Y3 hsz';simp[Cc, *];simpa[nz,hc0]using hr
  refine wu Po rfl (by simp[Is]) λfr hl ha=>?_;have h0:=ha 0;have h1:=ha 1;clear ha ih;simp[Is,U6]at hl h0 h1 ⊢;by_cases e0:JS (1+(Tm.sizes l:Int)) (1+(Tm.sizes l':Int))=0
  .by_cases e1:JS k k'=0
   .by_cases e2:DF nm nm'=0
    .by_cases e3:JS s s'=0
     .by_cases e4:JS (l.length:Int) (l'.length:Int)=0
      .simp[e0,e1,e2,e3,e4,h0,h1,hl,hS,hS',MF,IJ];refine(loop _ (0) (by simp[hl]) (by simp[hl]) (by simp[hl]) (by simp[hl]) (by simp[hl]) ?_).mono ?_
       .intro hc;exact og e4
       .rintro e fr h ⟨rfl,hl,h5⟩;simp[hl,h5,Mp,nz,e0,e1,e2,e3,e4]
      .simp[e0,e1,e2,e3,e4,h0,h1,hl,hS,hS',MF,IJ];refine(loop _ (JS (l.length:Int) (l'.length:Int)) (by simp[hl]) (by simp[hl]) (by simp[hl]) (by simp[hl]) (by simp[hl]) ?_).mono ?_
       .intro hc;exact absurd hc e4
       .rintro e fr h ⟨rfl,hl,h5⟩;simp[hl,h5,Mp,nz,e0,e1,e2,e3,e4]
     .simp[e0,e1,e2,e3,h0,h1,hl,hS,hS',MF,IJ];refine(loop _ (JS s s') (by simp[hl]) (by simp[hl]) (by simp[hl]) (by simp[hl]) (by simp[hl]) ?_).mono ?_
      .intro hc;exact absurd hc e3
      .rintro e fr h ⟨rfl,hl,h5⟩;simp[hl,h5,Mp,nz,e0,e1,e2,e3]
    .simp[e0,e1,e2,h0,h1,hl,hS,hS',MF,IJ];refine(loop _ (DF nm nm') (by simp[hl]) (by simp[hl]) (by simp[hl]) (by simp[hl]) (by simp[hl]) ?_).mono ?_
     .intro hc;exact absurd hc e2
     .rintro e fr h ⟨rfl,hl,h5⟩;simp[hl,h5,Mp,nz,e0,e1,e2]
   .simp[e0,e1,h0,h1,hl,hS,hS',MF,IJ];refine(loop _ (JS k k') (by simp[hl]) (by simp[hl]) (by simp[hl]) (by simp[hl]) (by simp[hl]) ?_).mono ?_
    .intro hc;exact absurd hc e1
    .rintro e fr h ⟨rfl,hl,h5⟩;simp[hl,h5,Mp,nz,e0,e1]
  .simp[e0,h0,h1,hl,hS,hS',MF,IJ];refine(loop _ (JS (1+(Tm.sizes l:Int)) (1+(Tm.sizes l':Int))) (by simp[hl]) (by simp[hl]) (by simp[hl]) (by simp[hl]) (by simp[hl]) ?_).mono ?_
   .intro hc;exact absurd hc e0
   .rintro e fr h ⟨rfl,hl,h5⟩;simp[hl,h5,Mp,nz,e0]
end Go.Abs.Q
