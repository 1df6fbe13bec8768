/- A part of the proof. -/
import Derived.Test.YtohjdamplbhdpaaGreatDoorSO18
import Derived.Test.YtohjdamplbhdpaaGreatDoorProg
import Derived.ProofKit
import Derived.WalkKit
import Derived.Lib.Walk
import Derived.Lib.SliceRun
import Derived.Shelf.RegionOpenPlain
import Derived.Shelf.Spec.SlicesInsert
import Derived.KernelRfl
import Derived.Lib.AppendZerosOnto
import Derived.Laws.NewBlocks
import Derived.Lib.Strings
import Derived.Lib.Slices
import Derived.Lib.Bytealg
import Derived.Test.YtohjdamplbhdpaaGreatDoorCards
import Derived.Test.YtohjdamplbhdpaaGreatDoorTie
import Derived.OpenShut
import Derived.JoinedCond
import Derived.Deep.DeepHandedRow
import Derived.Lib.LaidTab
set_option linter.all false
open List renaming length_take->A0Q,getElem?_eq_getElem->A0R,length_append->A0T,take_succ_eq_append_getElem->A0V,getElem?_drop->A0W,take_of_length_le->A0X,getElem?_toArray->A0Y,mem_of_mem_take->A0Z,getElem?_append_left->A0a,getElem?_eq_some_iff->A0b,length_map->A0c,mem_map->A0d,size_toArray->A0e,length_drop->A0f,getElem?_take->A0h,getElem?_append_right->A0i,append_nil->A0j,length_filter_le->A0k,length_singleton->A0l,mem_of_mem_drop->A0m,getElem_mem->A0r,map_append->A0s,mem_filter->A0t,map_cons->A0v,mem_cons->A0w,map_nil->A0y
open Array renaming size_append->A0S,getElem?_append_left->A0U
open Nat renaming zero_add->A0g,mul_le_mul_right->A0n,min_def->A0p,zero_le->A0q,min_eq_left->A0u,add_assoc->A0x,lt_or_ge->A0z,succ_mul->A00,le_refl->A01,sub_mul->A02
open Bool renaming false_eq_true->A0o
set_option linter.unusedVariables false
set_option linter.unusedSimpArgs false
namespace Go.Proofs
open Go.RowKit Go.Lib Go.Abs
theorem Tryz.setUnd:Tryz.prog.underlying 110=some (.slice 32):=by kernel_rfl
theorem Tryz.termsUnd:Tryz.prog.underlying 30=some (.slice 32):=by kernel_rfl
theorem Tryz.intUnd:Tryz.prog.underlying 3=some (.int .i64):=by kernel_rfl
set_option maxHeartbeats 4000000 in
set_option maxRecDepth 100000 in
theorem Tryz.ins_end_room (blk o n c vb vo vc:Nat) (cur:Array Value) (t:TypeId) (vs:List Value) (w:World) (BF:n+1<=c) (hm:c<=maxLen) (hvl:vs.length=4) (hcur:w.heap[blk]?=some (.cells cur t (0,0))) (Dn:o+c*4<=cur.size)
  (Qp:∀j v,vs[j]?=some v->w.cell? ⟨vb,vo+j,none⟩=some v) (h1v:∀v∈vs,v.oneCell'=true) (us:Array Value) (WI:us=(cur.toList.take (o+n*4)++vs++cur.toList.drop (o+n*4+vs.length)).toArray) :
  Calls Tryz.prog 158 #[.slice (some ⟨blk,o,none⟩) n c,.int .i64 n,.slice (some ⟨vb,vo,none⟩) 1 vc] w λe w'=>e=.returned (.slice (some ⟨blk,o,none⟩) (n+1) c)/\w'=w.setRow blk us:=by
 obtain⟨i0,hi0,J4⟩:∃i0,Tryz.prog.info? 32=some i0/\i0.size=4:=⟨_,rfl,by kernel_rfl⟩;have hrun:∀ty,(Builtin.append_ #[110,30] ty #[.slice (some ⟨blk,o,none⟩) n c,.slice (some ⟨vb,vo,none⟩) 1 vc]).run Tryz.prog w=_:=λty =>
  YO 110 30 ty 32 32 i0 Tryz.setUnd Tryz.termsUnd hi0 blk o n c cur t w hcur ⟨vb,vo,none⟩ 1 vc vs (by rw[J4,hvl]) (λj v hj=>by rw[Addr.add_lit];exact Qp j v hj) h1v BF (by rw[J4,hvl];omega)
 rw[J4,←WI]at hrun;have hmm:maxLen<=9223372036854775807:=by unfold maxLen;omega
 clear WI
 go_enter Tryz.func158,Tryz.ntmps158
 go_wp2_with (at_builtin;refine Lib.wpList_append_run _ rfl _ _ _ _ rfl _ _ rfl rfl _ _ (hrun _) ?_)
 go_ret
 exact⟨rfl,rfl⟩
set_option maxHeartbeats 4000000 in
set_option maxRecDepth 100000 in
theorem Tryz.ins_end_grow (base:Option Addr) (n c vb vo vc:Nat) (cs vs:List Value) (w:World) (i0:TypeInfo) (z:Value) (hi0:Tryz.prog.info? 32=some i0) (hz0:i0.zero=some z) (J4:i0.size=4) (hnc:n<=c) (BF:c<n+1) (hm:n+1<=maxLen) (hbig:(n+1)*i0.bytes<=140737488355328)
  (GJ:cs.length=n*4) (hvl:vs.length=4) (hnil:base=none->n=0) (Lq:∀a,base=some a->∀j v,cs[j]?=some v->w.cell? (a.add j)=some v) (Qp:∀j v,vs[j]?=some v->w.cell? ⟨vb,vo+j,none⟩=some v) (h1v:∀v∈vs,v.oneCell'=true) :
  Calls Tryz.prog 158 #[.slice base n c,.int .i64 n,.slice (some ⟨vb,vo,none⟩) 1 vc] w λe w'=>e=.returned (.slice (some ⟨w.heap.size,0,none⟩) (n+1) (grownCap w (n+1) c 32)) /\
   w'=w.drew.alloc (.cells ((cs++vs).toArray++Builtin.zeroCells z.cells (grownCap w (n+1) c 32-(n+1))) 32):=by
 have hmm:maxLen<=9223372036854775807:=by unfold maxLen;omega
 have hsrc:Src Tryz.prog i0.size 30 (.slice (some ⟨vb,vo,none⟩) 1 vc) 1 vs w:=Src.ofSlice w Tryz.termsUnd ⟨vb,vo,none⟩ 1 vc vs (by rw[J4,hvl]) (λj u hj=>by rw[Addr.add_lit];exact Qp j u hj) h1v;have hold:(Builtin.firstCells i0.size n (.slice base n c)).run Tryz.prog w.drew=.ok cs.toArray w.drew:=by
  rw[J4];cases base with
  |none =>
   have h0:=hnil rfl;subst h0;have hc0:cs=[]:=List.length_eq_zero_iff.1 (by simpa using GJ);rw[hc0];exact run_firstCells_none w.drew 4 0 0 c
  |some a=>exact run_firstCells_some w.drew 4 n a n c cs GJ (λj v hj=>Lq a rfl j v hj)
 have hrun:∀ty,(Builtin.append_ #[110,30] ty #[.slice base n c,.slice (some ⟨vb,vo,none⟩) 1 vc]).run Tryz.prog w=_:=λty =>
  run_append_grow_src w 110 30 ty 32 i0 z Tryz.setUnd hi0 hz0 base n c cs hold _ 1 vs hsrc BF (by omega) (growslice_fits BF hbig)
 generalize hG:grownCap w (n+1) c 32=G at *
 generalize hR:(cs++vs).toArray++Builtin.zeroCells z.cells (G-(n+1))=R at *
 clear hR hold hsrc hG
 go_enter Tryz.func158,Tryz.ntmps158
 cases base with
 |none =>
  have h0:=hnil rfl;subst h0
  go_wp2_with (at_builtin;refine Lib.wpList_append_run _ rfl _ _ _ _ rfl _ _ rfl rfl _ _ (hrun _) ?_)
  go_ret
  exact⟨rfl,rfl⟩
 |some a =>
  obtain⟨ab,ao,asp⟩:=a
  go_wp2_with (at_builtin;refine Lib.wpList_append_run _ rfl _ _ _ _ rfl _ _ rfl rfl _ _ (hrun _) ?_)
  all_goals (go_ret;exact⟨rfl,rfl⟩)
set_option maxHeartbeats 4000000 in
set_option maxRecDepth 100000 in
theorem Tryz.ins_shift (blk o n c i vb vo vc:Nat) (cur us1 us2:Array Value) (t:TypeId) (cs vs:List Value) (w:World) (hi:i<n) (BF:n+1<=c) (hm:c<=maxLen) (GJ:cs.length=n*4) (hvl:vs.length=4) (P0:vb≠blk)
  (hcur:w.heap[blk]?=some (.cells cur t (0,0))) (Dn:o+c*4<=cur.size) (hcc:∀j,j<n*4->cur[o+j]?=cs[j]?) (Qp:∀j v,vs[j]?=some v->w.cell? ⟨vb,vo+j,none⟩=some v) (h1c:∀v∈cs,v.oneCell'=true) (h1v:∀v∈vs,v.oneCell'=true)
  (hu1:us1=(cur.toList.take (o+(i+1)*4)++cs.drop (i*4)++cur.toList.drop (o+(i+1)*4+(cs.drop (i*4)).length)).toArray) (hu2:us2=(us1.toList.take (o+i*4)++vs++us1.toList.drop (o+i*4+vs.length)).toArray) :
  Calls Tryz.prog 158 #[.slice (some ⟨blk,o,none⟩) n c,.int .i64 i,.slice (some ⟨vb,vo,none⟩) 1 vc] w λe w'=>e=.returned (.slice (some ⟨blk,o,none⟩) (n+1) c)/\w'=(w.drew.setRow blk us1).setRow blk us2:=by
 have hmm:maxLen<=9223372036854775807:=by unfold maxLen;omega
 have hz2:¬((i:Int)=(n:Int)):=by omega
 have J4:(Tryz.prog.info? 32).map (·.size)=some 4:=by kernel_rfl
 have zz:∀w,(Go.sizeOf 32).run Tryz.prog w=.ok 4 w:=λw=>by
  cases hq:Tryz.prog.info? 32 with
  |none=>simp[hq]at J4
  |some i=>simp[hq]at J4;simp[Go.sizeOf,typeInfo,hq,J4]
 have hcs0:0<cur.size:=by omega
 have hv0:w.cell? ⟨vb,vo+0,none⟩=some vs[0]:=Qp 0 _ (A0R (by omega));obtain⟨curv,tv,frv,hcv,hcv0⟩:∃curv tv frv,w.heap[vb]?=some (.cells curv tv frv)/\0<curv.size:=by
  unfold World.cell? at hv0;split at hv0
  .rename_i a b c' h;refine⟨a,b,c',h,?_⟩;simp only[Option.isSome_none,A0o,if_false]at hv0;have:=(Array.getElem?_eq_some_iff.1 hv0).1;omega
  .cases hv0
 have hov:∀x lb cb,(callFunc 220 #[.slice (some ⟨vb,vo,none⟩) 1 vc,.slice (some ⟨blk,x,none⟩) lb cb]).run Tryz.prog w=.ok (.value (.bool false)) w:=λx lb cb=>by
  rw[run_callFunc_extern Tryz.func220 (by kernel_rfl) (by kernel_rfl) (by kernel_rfl) (e:=Extern.SlicesOverlaps.overlaps #[30,30] #[4]) (by kernel_rfl),
   VP w 30 30 4 32 Tryz.termsUnd 4 zz ⟨vb,vo,none⟩ ⟨blk,x,none⟩ 1 vc lb cb P0 curv cur tv t frv hcv hcv0 hcur hcs0]
  rfl
 have Di:(cs.drop (i*4)).length=(n-i)*4:=by rw[A0f,GJ,A02]
 have hcur':w.drew.heap[blk]?=some (.cells cur t (0,0)):=hcur;have hcp1:∀ty dc sc,(Builtin.copy_ #[110,110] ty #[.slice (some ⟨blk,o+(i+1)*4,none⟩) (n-i) dc,.slice (some ⟨blk,o+i*4,none⟩) (n+1-i) sc]).run Tryz.prog w.drew=.ok (goInt (n-i:Nat)) (w.drew.setRow blk us1):=λty dc sc=>by
  rw[hu1];exact QJ w.drew _ _ ty 32 4 blk (o+(i+1)*4) (n-i) dc ⟨blk,o+i*4,none⟩ (n+1-i) sc (n-i) cur t (cs.drop (i*4)) Tryz.setUnd J4 hcur' (by simp only[A0p];split<;>omega) Di
   (λj v hj=>by
    rw[Addr.add_lit,cell_of_row _ _ _ _ _ _ hcur'];rw[A0W]at hj;have hjn:i*4+j<n*4:=by have:=(A0b.1 hj).1;omega
    rw[A0x,hcc _ hjn];exact hj) (by rw[Di];omega) (λv hv=>h1c v (A0m hv))
 have hs1:us1.size=cur.size:=by rw[hu1];simp;omega
 have hW1:(w.drew.setRow blk us1).heap[blk]?=some (.cells us1 t (0,0)):=setRow_heap _ _ _ _ _ _ hcur';have hcp2:∀ty dc,(Builtin.copy_ #[110,30] ty #[.slice (some ⟨blk,o+i*4,none⟩) (n+1-i) dc,.slice (some ⟨vb,vo,none⟩) 1 vc]).run Tryz.prog (w.drew.setRow blk us1)=.ok (goInt (1:Nat)) ((w.drew.setRow blk us1).setRow blk us2):=λty dc=>by
  rw[hu2];exact QJ (w.drew.setRow blk us1) _ _ ty 32 4 blk (o+i*4) (n+1-i) dc ⟨vb,vo,none⟩ 1 vc 1 us1 t vs Tryz.setUnd J4 hW1 (by simp only[A0p];split<;>omega) (by rw[hvl])
   (λj v hj=>by
    rw[Addr.add_lit,World.cell?_of_block (a:=⟨vb,vo+j,none⟩) (setRow_other _ _ _ _ P0)];exact Qp j v hj) (by rw[hvl,hs1];omega) h1v
 have mixed:Tryz.prog.follows Departure.mixedOrders=true:=by kernel_rfl
 have hw1:IntKind.i64.wrap ((i:Int)+1)=(i:Int)+1:=by rw[IntKind.wrap_i64];omega
 have hw2:IntKind.i64.wrap ((n:Int)+1)=(n:Int)+1:=by rw[IntKind.wrap_i64];omega
 have hb1:(0:Int)<=(i:Int)+1:=by omega
 have XK:i<=n:=by omega
 have htn:((i:Int)+1).toNat=i+1:=by omega
 have htn2:((n:Int)+1).toNat=n+1:=by omega
 have hb2:¬(c=i+1):=by omega
 have hb3:(i:Int)<=(n:Int)+1:=by omega
 have hb4:¬(c=i):=by omega
 clear hu1 hu2 hv0 hcc h1c h1v Qp hcv hW1 Di
 go_enter Tryz.func158,Tryz.ntmps158
 go_wp2_with (simp only[hov])
 go_region_law_o (refine step_copy_runI rfl _ _ 110 110 rfl _ _ (by simp[Act.eval,Act.put]) (by simp[Act.eval,Act.put]) (hcp1 _ _ _) ?_)
 go_wp2_with (at_builtin;refine wpList_copy_runI _ rfl _ _ 110 30 rfl _ _ rfl rfl (hcp2 _ _) ?_)
 go_ret
 exact⟨rfl,rfl⟩
theorem Tw (w:World) (r us:Array Value) (t:TypeId):(w.alloc (.cells r t)).setRow w.heap.size us=w.alloc (.cells us t):=by
 unfold World.alloc World.setRow;congr 1;apply Array.ext_getElem?;intro k;simp only[Array.getElem?_modify,Array.getElem?_push];by_cases hk:w.heap.size=k
 .subst hk;simp
 .have:¬k=w.heap.size:=λe=>hk e.symm;simp[hk,this]
set_option maxHeartbeats 4000000 in
set_option maxRecDepth 100000 in
theorem Tryz.ins_grow (blk o n c i vb vo vc:Nat) (us1 us2:Array Value) (cs vs:List Value) (w:World) (i0:TypeInfo) (z:Value) (hi0:Tryz.prog.info? 32=some i0) (hz0:i0.zero=some z) (J4:i0.size=4) (hzs:z.cells.size=4) (hi:i<n) (hnc:n<=c) (BF:c<n+1) (hm:n+1<=maxLen) (hbig:(n+1)*i0.bytes<=140737488355328)
  (GJ:cs.length=n*4) (hvl:vs.length=4) (Lq:∀j v,cs[j]?=some v->w.cell? ⟨blk,o+j,none⟩=some v) (Qp:∀j v,vs[j]?=some v->w.cell? ⟨vb,vo+j,none⟩=some v) (h1c:∀v∈cs,v.oneCell'=true) (h1v:∀v∈vs,v.oneCell'=true) (ROW:Array Value)
  (hROW:ROW=(cs.take (i*4)).toArray++Builtin.zeroCells z.cells (n+1-i)++Builtin.zeroCells z.cells (grownCap w (n+1) c 32-(n+1)))
  (hu1:us1=(ROW.toList.take (i*4)++vs++ROW.toList.drop (i*4+vs.length)).toArray) (hu2:us2=(us1.toList.take ((i+1)*4)++cs.drop (i*4)++us1.toList.drop ((i+1)*4+(cs.drop (i*4)).length)).toArray) :
  Calls Tryz.prog 158 #[.slice (some ⟨blk,o,none⟩) n c,.int .i64 i,.slice (some ⟨vb,vo,none⟩) 1 vc] w λe w'=>e=.returned (.slice (some ⟨w.heap.size,0,none⟩) (n+1) (grownCap w (n+1) c 32)) /\
   ∃q,w'=(w.drewN q).alloc (.cells us2 32):=by
 have hmm:maxLen<=9223372036854775807:=by unfold maxLen;omega
 have hz2:¬((i:Int)=(n:Int)):=by omega
 have hz3:(c:Int)<(n:Int)+1:=by omega
 have hszm:(Tryz.prog.info? 32).map (·.size)=some 4:=by rw[hi0];simp[J4]
 have zz:∀w,(Go.sizeOf 32).run Tryz.prog w=.ok 4 w:=λw=>by simp[Go.sizeOf,typeInfo,hi0,J4]
 have hbw:blk<w.heap.size:=block_lt_of_cell (Lq 0 _ (A0R (by omega)));have hvw:vb<w.heap.size:=block_lt_of_cell (Qp 0 _ (A0R (by omega)));have hik:i+(n+1-i)=n+1:=by omega
 have Tp:(n:Int)+1-(i:Int)=((n+1-i:Nat):Int):=by omega
 have hold:(Builtin.firstCells i0.size i (.slice (some ⟨blk,o,none⟩) i c)).run Tryz.prog w.drew=.ok (cs.take (i*4)).toArray w.drew:=by
  rw[J4];exact run_firstCells_some w.drew 4 i ⟨blk,o,none⟩ i c (cs.take (i*4)) (by rw[A0Q,GJ];omega) (λj v hj=>by
   rw[Addr.add_lit];rw[A0h]at hj;split at hj
   .exact Lq j v hj
   .cases hj)
 have hrz:∀ty,(Builtin.append_ #[110,3] ty #[.slice (some ⟨blk,o,none⟩) i c,.int .i64 ((n:Int)+1-(i:Int))]).run Tryz.prog w =
   .ok (.slice (some ⟨w.heap.size,0,none⟩) (n+1) (grownCap w (n+1) c 32)) (w.drew.alloc (.cells ROW 32)):=λty=>by
  have h:=Lib.run_append_grow_zeros w 110 3 ty 32 i0 z .i64 .i64 Tryz.setUnd Tryz.intUnd hi0 hz0 (some ⟨blk,o,none⟩) i c (cs.take (i*4)) hold (n+1-i) (by omega) (by omega) (by omega) (by omega)
   (by
     have:(n+1-i)*i0.bytes<=(n+1)*i0.bytes:=A0n _ (by omega);omega) (by rw[hik];exact growslice_fits BF hbig)
  rw[hik,←hROW]at h;rw[Tp];exact h
 obtain⟨G,hG⟩:∃G,G=grownCap w (n+1) c 32:=⟨_,rfl⟩;rw[←hG]at hrz hROW ⊢;have hGn:n+1<=G:=by rw[hG];exact grownCap_ge w _ _ _
 have hG63:G<=9223372036854775807:=by
  have:=grownCap_le_maxLen w (n+1) c 32 hm;rw[←hG]at this;omega
 have hRs:ROW.size=G*4:=by
  rw[hROW,A0S,A0S,size_zeroCells,size_zeroCells,hzs,A0e,A0Q,GJ];omega
 have hcur0:(w.drew.alloc (.cells ROW 32)).heap[w.heap.size]?=some (.cells ROW 32 (0,0)):=heap_alloc_new w.drew _;have hs1:us1.size=ROW.size:=by rw[hu1];simp;omega
 have hcell:∀(b j:Nat) (u:Value),b<w.heap.size->w.cell? ⟨b,j,none⟩=some u->∀r,(w.drew.alloc (.cells r 32)).cell? ⟨b,j,none⟩=some u:=λb j u hb hu r=>by
  rw[World.cell?_alloc_past (w:=w.drew) _ b j hb];exact hu
 have hcpA:∀ty dc,(Builtin.copy_ #[110,30] ty #[.slice (some ⟨w.heap.size,i*4,none⟩) (n+1-i) dc,.slice (some ⟨vb,vo,none⟩) 1 vc]).run Tryz.prog (w.alloc (.cells ROW 32)).drew=.ok (goInt (1:Nat)) (w.alloc (.cells us1 32)).drew:=λty dc=>by
  have h:=QJ (w.drew.alloc (.cells ROW 32)) 110 30 ty 32 4 w.heap.size (i*4) (n+1-i) dc ⟨vb,vo,none⟩ 1 vc 1 ROW 32 vs Tryz.setUnd hszm hcur0 (by simp only[A0p];split<;>omega) (by rw[hvl])
   (λj v hj=>by rw[Addr.add_lit];exact hcell vb _ _ hvw (Qp j v hj) _) (by rw[hvl,hRs];omega) h1v
  rw[←hu1]at h;exact h.trans (congrArg _ (Tw w.drew ROW us1 _))
 have hcur1:(w.drew.alloc (.cells us1 32)).heap[w.heap.size]?=some (.cells us1 32 (0,0)):=heap_alloc_new w.drew _;have Di:(cs.drop (i*4)).length=(n-i)*4:=by rw[A0f,GJ,A02]
 have hcpB:∀ty dc sc,(Builtin.copy_ #[110,110] ty #[.slice (some ⟨w.heap.size,(i+1)*4,none⟩) (n-i) dc,.slice (some ⟨blk,o+i*4,none⟩) (n-i) sc]).run Tryz.prog (w.alloc (.cells us1 32)).drew.drew=.ok (goInt (n-i:Nat)) (w.alloc (.cells us2 32)).drew.drew:=λty dc sc=>by
  have h:=QJ (w.drew.drew.alloc (.cells us1 32)) 110 110 ty 32 4 w.heap.size ((i+1)*4) (n-i) dc ⟨blk,o+i*4,none⟩ (n-i) sc (n-i) us1 32 (cs.drop (i*4)) Tryz.setUnd hszm hcur1 (by simp) Di
   (λj v hj=>by
    rw[Addr.add_lit,A0x];exact hcell blk _ _ hbw (Lq _ v (by rwa [A0W]at hj)) _) (by rw[Di,hs1,hRs];omega) (λv hv=>h1c v (A0m hv))
  rw[←hu2]at h;exact h.trans (congrArg _ (Tw w.drew.drew us1 us2 _))
 have hW:∀r,(w.drew.alloc (.cells r 32)).drew=w.drew.drew.alloc (.cells r 32):=λr=>rfl;have mixed:Tryz.prog.follows Departure.mixedOrders=true:=by kernel_rfl
 have hGi:¬(G=i):=by omega
 have hGim:¬(G=i+1):=by omega
 have hci:¬(c=i):=by omega
 have hw1:IntKind.i64.wrap ((i:Int)+1)=(i:Int)+1:=by rw[IntKind.wrap_i64];omega
 have hw2:IntKind.i64.wrap ((n:Int)+1)=(n:Int)+1:=by rw[IntKind.wrap_i64];omega
 have hb1:(0:Int)<=(i:Int)+1:=by omega
 have XK:i<=n:=by omega
 have htn:((i:Int)+1).toNat=i+1:=by omega
 have hb3:(i:Int)<=(n:Int):=by omega
 clear Tp hik hold hROW hG hu1 hu2 hcell hcur0 hcur1 hRs hs1 Di
 go_enter Tryz.func158,Tryz.ntmps158
 go_wp2_with (first
  |(at_builtin;refine Lib.wpList_append_run _ rfl _ _ _ _ rfl _ _ rfl rfl _ _ (hrz _) ?_)
  |(at_builtin;refine wpList_copy_runI _ rfl _ _ 110 30 rfl _ _ rfl rfl (hcpA _ _) ?_))
 go_region_law_o (refine step_copy_runI rfl _ _ 110 110 rfl (.slice (some ⟨w.heap.size,(i+1)*4,none⟩) (n-i) (G-(i+1))) (.slice (some ⟨blk,o+i*4,none⟩) (n-i) (c-i)) (by simp[Act.eval,Act.put]) (by simp[Act.eval,Act.put]) (hcpB _ _ _) ?_)
 go_wp2
 go_ret
 exact⟨rfl,2,rfl⟩
end Go.Proofs
namespace Go.Abs
theorem Oe {α:Type} {cs vs:List α} {A:Nat} (hA:A<=cs.length) (j:Nat):(cs.take A++vs++cs.drop A)[j]?=if j<A then cs[j]? else if j<A+vs.length then vs[j-A]? else cs[j-vs.length]?:=by
 by_cases h1:j<A
 .rw[if_pos h1,A0a (by rw[A0T,A0Q];omega),A0a (by rw[A0Q];omega),A0h,if_pos h1]
 .rw[if_neg h1];by_cases h2:j<A+vs.length
  .rw[if_pos h2,A0a (by rw[A0T,A0Q];omega),A0i (by rw[A0Q];omega),A0Q,A0u hA]
  .rw[if_neg h2,A0i (by rw[A0T,A0Q];omega),A0T,A0Q,A0u hA,A0W];congr 1;omega
theorem QN {cur us:Array Value} {vs:List Value} {off:Nat} (Dn:off+vs.length<=cur.size) (WI:us=(cur.toList.take off++vs++cur.toList.drop (off+vs.length)).toArray) (j:Nat):us[j]?=if j<off then cur[j]? else if j<off+vs.length then vs[j-off]? else cur[j]?:=by
 have:=Kl (l:=cur.toList) (off:=off) (vs:=vs) (by simpa using Dn) j;simp only[Array.getElem?_toList]at this;rw[WI,A0Y,this]
theorem wC {cur us:Array Value} {cs vs:List Value} {o N:Nat} (GJ:cs.length=N) (hcc:∀j,j<N->cur[o+j]?=cs[j]?) (Dn:o+N+vs.length<=cur.size) (WI:us=(cur.toList.take (o+N)++vs++cur.toList.drop (o+N+vs.length)).toArray) :
  ∀j,j<N+vs.length->us[o+j]?=(cs.take N++vs++cs.drop N)[j]?:=by
 intro j hj;rw[QN Dn WI,Oe (by omega)];by_cases h1:j<N
 .rw[if_pos (by omega),if_pos h1,hcc j h1]
 .rw[if_neg (by omega),if_pos (by omega),if_neg h1,if_pos hj];congr 1;omega
theorem wD {cur us1 us2:Array Value} {cs vs:List Value} {o N A:Nat} (GJ:cs.length=N) (hA:A<=N) (hcc:∀j,j<N->cur[o+j]?=cs[j]?) (Dn:o+N+vs.length<=cur.size)
  (hu1:us1=(cur.toList.take (o+(A+vs.length))++cs.drop A++cur.toList.drop (o+(A+vs.length)+(cs.drop A).length)).toArray) (hu2:us2=(us1.toList.take (o+A)++vs++us1.toList.drop (o+A+vs.length)).toArray) :
  us2.size=cur.size/\∀j,j<N+vs.length->us2[o+j]?=(cs.take A++vs++cs.drop A)[j]?:=by
 have hd:(cs.drop A).length=N-A:=by rw[A0f,GJ]
 have hs1:us1.size=cur.size:=by rw[hu1];simp;omega
 refine⟨by rw[hu2];simp;omega,λj hj=>?_⟩;rw[QN (by omega) hu2,Oe (by omega)];by_cases h1:j<A
 .rw[if_pos (by omega),if_pos h1,QN (by omega) hu1,if_pos (by omega),hcc j (by omega)]
 .rw[if_neg (by omega),if_neg h1];by_cases h2:j<A+vs.length
  .rw[if_pos (by omega),if_pos h2];congr 1;omega
  .rw[if_neg (by omega),if_neg h2,QN (by omega) hu1,if_neg (by omega),if_pos (by omega),A0W];congr 1;omega
end Go.Abs
namespace Go.Proofs
open Go.RowKit Go.Lib Go.Abs
set_option maxRecDepth 100000 in
theorem Tryz.insLaw:InsLaw Tryz.prog 158 4 56:=by
 obtain⟨i0,z,hi0,J4,hz0,hzs,hby⟩:∃i0 z,Tryz.prog.info? 32=some i0/\i0.size=4/\i0.zero=some z/\z.cells.size=4/\i0.bytes=56:=⟨_,_,rfl,by kernel_rfl,rfl,by kernel_rfl,by kernel_rfl⟩;refine⟨by omega,by kernel_rfl,?_,?_⟩
 .intro w blk o n c i vb vo vc cur t cs vs XK hnc hcm GJ hvl hcur hcc Dn Qp P0 h1c h1v;rcases A0z i n with A7|hge
  .obtain⟨us1,hu1⟩:∃us1,us1=(cur.toList.take (o+(i+1)*4)++cs.drop (i*4)++cur.toList.drop (o+(i+1)*4+(cs.drop (i*4)).length)).toArray:=⟨_,rfl⟩;obtain⟨us2,hu2⟩:∃us2,us2=(us1.toList.take (o+i*4)++vs++us1.toList.drop (o+i*4+vs.length)).toArray:=⟨_,rfl⟩;have h:=wD (o:=o) (A:=i*4) (vs:=vs) GJ (A0n _ XK) hcc (by omega) (by rw[hvl,←A00];exact hu1) hu2;rw[hvl,←A00]at h;exact(Tryz.ins_shift blk o n c i vb vo vc cur us1 us2 t cs vs w A7 hnc hcm GJ hvl P0 hcur Dn hcc Qp h1c h1v hu1 hu2).mono λe w' ⟨h1,h2⟩=>⟨h1,1,us2,h2.trans (setRow_setRow _ _ _ _),h⟩
  .have e:i=n:=by omega
   subst e;obtain⟨us,WI⟩:∃us,us=(cur.toList.take (o+i*4)++vs++cur.toList.drop (o+i*4+vs.length)).toArray:=⟨_,rfl⟩;have h:=wC (o:=o) (vs:=vs) GJ hcc (by omega) WI;refine(Tryz.ins_end_room blk o i c vb vo vc cur t vs w hnc hcm hvl hcur Dn Qp h1v us WI).mono λe w' ⟨h1,h2⟩=>⟨h1,0,us,h2,?_,?_⟩
   .rw[WI];simp;omega
   .intro j hj;exact h j (by omega)
 .intro w base n c i vb vo vc cs vs XK hnc BF hm hbig GJ hvl hnil Lq Qp h1c h1v;have hbig':(n+1)*i0.bytes<=140737488355328:=by rw[hby];exact hbig
  have hG1:=grownCap_ge w (n+1) c 32;have hG2:=grownCap_le_maxLen w (n+1) c 32 hm;rcases A0z i n with A7|hge
  .cases base with
   |none=>exact absurd (hnil rfl) (by omega)
   |some a =>
    obtain⟨blk,o,sp⟩:=a;obtain⟨hsp,Lq⟩:=Lq _ rfl;have:=hsp (by omega);simp only at this;subst this;have hcs':∀j v,cs[j]?=some v->w.cell? ⟨blk,o+j,none⟩=some v:=λj v hj=>by
     have:=Lq j v hj
     rwa [FP]at this
    obtain⟨ROW,hROW⟩:∃ROW,ROW=(cs.take (i*4)).toArray++Builtin.zeroCells z.cells (n+1-i)++Builtin.zeroCells z.cells (grownCap w (n+1) c 32-(n+1)):=⟨_,rfl⟩;obtain⟨us1,hu1⟩:∃us1,us1=(ROW.toList.take (i*4)++vs++ROW.toList.drop (i*4+vs.length)).toArray:=⟨_,rfl⟩;obtain⟨us2,hu2⟩:∃us2,us2=(us1.toList.take ((i+1)*4)++cs.drop (i*4)++us1.toList.drop ((i+1)*4+(cs.drop (i*4)).length)).toArray:=⟨_,rfl⟩;have hRs:ROW.size=grownCap w (n+1) c 32*4:=by
     rw[hROW,A0S,A0S,size_zeroCells,size_zeroCells,hzs,A0e,A0Q,GJ];omega
    have hR0:∀j,j<i*4->ROW[j]?=cs[j]?:=λj hj=>by
     rw[hROW,A0U (by simp;omega),A0U (by simp;omega),A0Y,A0h,if_pos hj]
    have hs1:us1.size=ROW.size:=by rw[hu1];simp;omega
    have hd:(cs.drop (i*4)).length=n*4-i*4:=by rw[A0f,GJ]
    refine(Tryz.ins_grow blk o n c i vb vo vc us1 us2 cs vs w i0 z hi0 hz0 J4 hzs A7 hnc BF hm hbig' GJ hvl hcs' Qp h1c h1v ROW hROW hu1 hu2).mono λe w' ⟨h1,q,h2⟩=>⟨q,_,us2,_,h1,h2,hG1,hG2,?_,?_⟩
    .rw[hu2];simp;omega
    .intro j hj;rw[QN (by omega) hu2,Oe (by omega),hvl];by_cases h1:j<i*4
     .rw[if_pos (by omega),if_pos h1,QN (by omega) hu1,if_pos h1,hR0 j h1]
     .rw[if_neg h1];by_cases h2:j<i*4+4
      .rw[if_pos (by omega),if_pos h2,QN (by omega) hu1,if_neg h1,if_pos (by omega)]
      .rw[if_neg (by omega),if_neg h2,if_pos (by omega),A0W];congr 1;omega
  .have e:i=n:=by omega
   subst e;refine(Tryz.ins_end_grow base i c vb vo vc cs vs w i0 z hi0 hz0 J4 hnc BF hm hbig' GJ hvl hnil (λa ha=>(Lq a ha).2) Qp h1v).mono λe w' ⟨h1,h2⟩=>⟨1,_,_,_,h1,h2,hG1,hG2,?_,?_⟩
   .rw[A0S,size_zeroCells,hzs,A0e,A0T,GJ,hvl];omega
   .intro j hj;rw[A0U (by simp;omega),A0Y,A0X (by omega),List.drop_eq_nil_of_le (by omega),A0j]
end Go.Proofs
namespace Go.Abs
open Go.RowKit (Below)
section
variable {P:Program} {E:Env}
structure InsLaw0 (P:Program) (f:FuncId) (K bytes:Nat):Prop where
 pos:0<K
 enter:Program.enterable P f=true
 newR:∀(w:World) (base:Option Addr) (vb vo vc:Nat) (vs:List Value),bytes<=H2->vs.length=K->(∀j v,vs[j]?=some v->w.cell? ⟨vb,vo+j,none⟩=some v)->(∀v∈vs,v.oneCell'=true) ->
  Calls P f #[.slice base 0 0,.int .i64 0,.slice (some ⟨vb,vo,none⟩) 1 vc] w λe w'=>∃(q G:Nat) (us:Array Value) (t:TypeId),e=.returned (.slice (some ⟨w.heap.size,0,none⟩) 1 G)/\w'=(w.drewN q).alloc (.cells us t)/\1<=G/\G<=maxLen/\G*K<=us.size /\
   ∀j,j<K->us[j]?=vs[j]?
theorem iX {f:FuncId} {K bytes:Nat} (L:InsLaw0 P f K bytes) (O:Orc) (args:G3) (h:AH) (r:AV) (h':AH) (he:(lC K bytes).run O args h=some (r,h')):Program.enterable P f=true /\
  ∀(E:Env) (vs:Array Value),SR E->E.h=h->Be E args vs.toList ->
   Calls P f vs E.w λe w'=>∃u E',e=.returned u/\w'=E'.w/\Ext E E'/\SR E'/\E'.h=h'/\VR E' r u:=by
 refine⟨L.enter,λE avs hS hh hv=>?_⟩;subst hh;change UF K bytes args E.h=some (r,h')at he;unfold UF at he;split at he
 .rename_i z' i0 x0;unfold Ps at he;split at he
  .rename_i s i q z x heq;cases heq;split at he
   .rename_i hc0;obtain⟨hzK,hag⟩:=hc0;obtain⟨avs⟩:=avs;simp only[Be]at hv;obtain⟨v0,_,rfl,hv0,v1,_,rfl,hv1,v2,_,rfl,hv2,rfl⟩:=hv;simp only[VR]at hv1;subst hv1;obtain⟨vb,vo,vc,vs,rfl,hvl,hvc,hv1c,hvr,hK⟩:=Zx hS hzK hv2;have hvc1:∀j u,vs[j]?=some u->E.w.cell? ⟨vb,vo+j,none⟩=some u:=λj u hu=>(hvc j u hu).1;simp only at he;split at he
    .rename_i hc;obtain⟨rfl,hb⟩:=hc;cases he;simp only[VR,PV]at hv0;obtain⟨base,len,cap,rfl,rfl,_,_,h4',_,_⟩:=hv0;have hcap:cap=0:=h4' trivial;subst hcap;refine(L.newR E.w base vb vo vc vs hb hvl hvc1 hv1c).mono λe w' ⟨q,G,us,te,h1,h2,h3,h4,h5,h6⟩=>?_;have x1:=Bk hS (Hy E.w q);have s1:=HG hS (Hy E.w q);refine⟨_,({E with w:=E.w.drewN q}:Env).newFam us te G ⟨[x],K,true⟩,h1,h2,x1.trans (Ke s1 _ _ _ _),PR s1 hK (by simpa using h3) h4 h5 (λj y hy=>?_),rfl,?_⟩
     .obtain⟨g1,g2⟩:=Qu x1 hvr j y hy;refine⟨g1,λc y' hy'=>?_⟩;obtain⟨v,v1,v2⟩:=g2 c y' hy';have hjn:j=0:=by have:=(A0b.1 hy).1;simpa using this
      have hcK:c<K:=by have:=(A0b.1 hy').1;omega
      subst hjn;rw[Nat.zero_mul,A0g]at v1 ⊢;exact⟨v,by rw[h6 _ hcK];exact v1,v2⟩
     .simp only[VR,Env.newFam,u6];exact⟨_,_,⟨[x],K,true⟩,rfl,by simp,⟨by simp,λ_=>⟨_,_,rfl⟩⟩,λ_=>⟨A0q _,by simp,by simp,(λh=>nomatch h),λ_=>by simp⟩⟩
    .cases he
   .cases he
  .cases he
 .cases he
structure GrowLaw (P:Program) (f:FuncId) (K bytes:Nat):Prop where
 pos:0<K
 enter:Program.enterable P f=true
 zero:∀(w:World) (base:Option Addr),Calls P f #[.slice base 0 0,.int .i64 0] w λe w'=>e=.returned (.slice base 0 0)/\w'=w
 some:∀(w:World) (base:Option Addr) (n:Nat),0<n->n*bytes<=H2->n<=maxLen ->
  Calls P f #[.slice base 0 0,.int .i64 n] w λe w'=>∃(q G:Nat) (us:Array Value) (t:TypeId),e=.returned (.slice (some ⟨w.heap.size,0,none⟩) 0 G)/\w'=(w.drewN q).alloc (.cells us t)/\G<=maxLen/\G*K<=us.size
theorem iW {f:FuncId} {K bytes:Nat} (L:GrowLaw P f K bytes) (O:Orc) (args:G3) (h:AH) (r:AV) (h':AH) (he:(Zh K bytes).run O args h=some (r,h')):Program.enterable P f=true /\
  ∀(E:Env) (vs:Array Value),SR E->E.h=h->Be E args vs.toList ->
   Calls P f vs E.w λe w'=>∃u E',e=.returned u/\w'=E'.w/\Ext E E'/\SR E'/\E'.h=h'/\VR E' r u:=by
 refine⟨L.enter,λE avs hS hh hv=>?_⟩;subst hh;change SP K bytes args E.h=some (r,h')at he;unfold SP at he;split at he
 .rename_i z n;obtain⟨avs⟩:=avs;simp only[Be]at hv;obtain⟨v0,_,rfl,hv0,v1,_,rfl,hv1,rfl⟩:=hv;simp only[VR]at hv1;subst hv1;have hv0':=hv0;simp only[VR,PV]at hv0;obtain⟨base,len,cap,rfl,rfl,_,_,h4',_,_⟩:=hv0;have hcap:cap=0:=h4' trivial;subst hcap;split at he
  .rename_i h0;subst h0;cases he;exact(L.zero E.w base).mono λe w' ⟨h1,h2⟩=>⟨_,E,h1,h2,Ext.refl E,hS,rfl,hv0'⟩
  .split at he
   .rename_i hc;obtain⟨c1,c2,c3⟩:=hc;cases he;obtain⟨m,rfl⟩:∃m:Nat,n=m:=⟨n.toNat,by omega⟩;refine(L.some E.w base m (by omega) (by exact_mod_cast c2) (by exact_mod_cast c3)).mono λe w' ⟨q,G,us,te,h1,h2,h3,h4⟩=>?_;have x1:=Bk hS (Hy E.w q);have s1:=HG hS (Hy E.w q);refine⟨_,({E with w:=E.w.drewN q}:Env).newFam us te G ⟨[],K,false⟩,h1,h2,x1.trans (Ke s1 _ _ _ _),PR s1 L.pos (A0q _) h3 h4 (λj y hy=>by simp at hy),rfl,?_⟩
    simp only[VR,Env.newFam,u6];exact⟨_,_,⟨[],K,false⟩,rfl,by simp,⟨by simp,λh=>absurd rfl h⟩,λ_=>⟨A0q _,by simp,by simp,(λh=>nomatch h),λ_=>by simp⟩⟩
   .cases he
 .cases he
end
end Go.Abs
set_option linter.unusedVariables false
set_option linter.unusedSimpArgs false
namespace Go.Proofs
open Go.RowKit Go.Lib Go.Abs
theorem Tryz.powsUnd:Tryz.prog.underlying 163=some (.slice 167):=by kernel_rfl
set_option maxHeartbeats 4000000 in
set_option maxRecDepth 100000 in
theorem Tryz.insp_nil (base:Option Addr) (vb vo vc:Nat) (vs:List Value) (w:World) (i0:TypeInfo) (z:Value) (hi0:Tryz.prog.info? 167=some i0) (hz0:i0.zero=some z) (J4:i0.size=5) (hbig:i0.bytes<=140737488355328)
  (hvl:vs.length=5) (Qp:∀j v,vs[j]?=some v->w.cell? ⟨vb,vo+j,none⟩=some v) (h1v:∀v∈vs,v.oneCell'=true) :
  Calls Tryz.prog 311 #[.slice base 0 0,.int .i64 0,.slice (some ⟨vb,vo,none⟩) 1 vc] w λe w'=>e=.returned (.slice (some ⟨w.heap.size,0,none⟩) 1 (grownCap w 1 0 167)) /\
   w'=w.drew.alloc (.cells (vs.toArray++Builtin.zeroCells z.cells (grownCap w 1 0 167-1)) 167):=by
 have hsrc:Src Tryz.prog i0.size 163 (.slice (some ⟨vb,vo,none⟩) 1 vc) 1 vs w:=Src.ofSlice w Tryz.powsUnd ⟨vb,vo,none⟩ 1 vc vs (by rw[J4,hvl]) (λj u hj=>by rw[Addr.add_lit];exact Qp j u hj) h1v;have hold:(Builtin.firstCells i0.size 0 (.slice base 0 0)).run Tryz.prog w.drew=.ok ([]:List Value).toArray w.drew:=by
  rw[J4];cases base with
  |none=>exact run_firstCells_none w.drew 5 0 0 0
  |some a=>exact run_firstCells_some w.drew 5 0 a 0 0 [] rfl (λj v hj=>by simp at hj)
 have hrun:∀ty,(Builtin.append_ #[163,163] ty #[.slice base 0 0,.slice (some ⟨vb,vo,none⟩) 1 vc]).run Tryz.prog w=_:=λty =>
  run_append_grow_src w 163 163 ty 167 i0 z Tryz.powsUnd hi0 hz0 base 0 0 [] hold _ 1 vs hsrc (by omega) (by omega) (growslice_fits (by omega) (by rw[A0g,Nat.one_mul];exact hbig))
 rw[A0g,List.nil_append]at hrun;generalize hG:grownCap w 1 0 167=G at *
 generalize hR:vs.toArray++Builtin.zeroCells z.cells (G-1)=R at *
 clear hR hold hsrc hG
 go_enter Tryz.func311,Tryz.ntmps311
 cases base with
 |none =>
  go_wp2_with (at_builtin;refine Lib.wpList_append_run _ rfl _ _ _ _ rfl _ _ rfl rfl _ _ (hrun _) ?_)
  go_ret
  exact⟨rfl,rfl⟩
 |some a =>
  obtain⟨ab,ao,asp⟩:=a
  go_wp2_with (at_builtin;refine Lib.wpList_append_run _ rfl _ _ _ _ rfl _ _ rfl rfl _ _ (hrun _) ?_)
  all_goals (go_ret;exact⟨rfl,rfl⟩)
set_option maxRecDepth 100000 in
theorem Tryz.insLawP:InsLaw0 Tryz.prog 311 5 64:=by
 obtain⟨i0,z,hi0,J4,hz0,hzs,hby⟩:∃i0 z,Tryz.prog.info? 167=some i0/\i0.size=5/\i0.zero=some z/\z.cells.size=5/\i0.bytes=64:=⟨_,_,rfl,by kernel_rfl,rfl,by kernel_rfl,by kernel_rfl⟩;refine⟨by omega,by kernel_rfl,?_⟩;intro w base vb vo vc vs hb hvl Qp h1v;have hG1:=grownCap_ge w 1 0 167;have hG2:=grownCap_le_maxLen w 1 0 167 (by unfold maxLen;omega);refine(Tryz.insp_nil base vb vo vc vs w i0 z hi0 hz0 J4 (by rw[hby];omega) hvl Qp h1v).mono λe w' ⟨h1,h2⟩=>⟨1,_,_,_,h1,h2,hG1,hG2,?_,?_⟩
 .rw[A0S,size_zeroCells,hzs,A0e,hvl];omega
 .intro j hj;rw[A0U (by simp;omega),A0Y]
set_option maxHeartbeats 4000000 in
set_option maxRecDepth 100000 in
theorem Tryz.growZero (base:Option Addr) (w:World):Calls Tryz.prog 147 #[.slice base 0 0,.int .i64 0] w λe w'=>e=.returned (.slice base 0 0)/\w'=w:=by
 go_enter Tryz.func147,Tryz.ntmps147
 go_wp2
 go_ret
 exact⟨rfl,rfl⟩
set_option maxHeartbeats 4000000 in
set_option maxRecDepth 100000 in
theorem Tryz.growSome (base:Option Addr) (n:Nat) (w:World) (i0:TypeInfo) (z:Value) (hi0:Tryz.prog.info? 32=some i0) (hz0:i0.zero=some z) (J4:i0.size=4) (h0:0<n) (hm:n<=maxLen) (hbig:n*i0.bytes<=140737488355328) :
  Calls Tryz.prog 147 #[.slice base 0 0,.int .i64 n] w λe w'=>e=.returned (.slice (some ⟨w.heap.size,0,none⟩) 0 (grownCap w n 0 32)) /\
   w'=w.drew.alloc (.cells (Builtin.zeroCells z.cells n++Builtin.zeroCells z.cells (grownCap w n 0 32-n)) 32):=by
 have hmm:maxLen<=9223372036854775807:=by unfold maxLen;omega
 have mixed:Tryz.prog.follows Departure.mixedOrders=true:=by kernel_rfl
 have hold:(Builtin.firstCells i0.size 0 (.slice base 0 0)).run Tryz.prog w.drew=.ok ([]:List Value).toArray w.drew:=by
  rw[J4];cases base with
  |none=>exact run_firstCells_none w.drew 4 0 0 0
  |some a=>exact run_firstCells_some w.drew 4 0 a 0 0 [] rfl (λj v hj=>by simp at hj)
 have hrz:∀ty,(Builtin.append_ #[30,3] ty #[.slice base 0 0,.int .i64 (n:Int)]).run Tryz.prog w =
   .ok (.slice (some ⟨w.heap.size,0,none⟩) n (grownCap w n 0 32)) (w.drew.alloc (.cells (Builtin.zeroCells z.cells n++Builtin.zeroCells z.cells (grownCap w n 0 32-n)) 32)):=λty=>by
  have h:=Lib.run_append_grow_zeros w 30 3 ty 32 i0 z .i64 .i64 Tryz.termsUnd Tryz.intUnd hi0 hz0 base 0 0 [] hold n (by omega) (by omega) (by omega) (by omega) (by omega)
   (by rw[A0g];exact growslice_fits (need:=n) (by omega) hbig)
  rw[A0g]at h;simpa using h
 have hG63:grownCap w n 0 32<=9223372036854775807:=by
  have:=grownCap_le_maxLen w n 0 32 hm;omega
 generalize hG:grownCap w n 0 32=G at *
 generalize hR:Builtin.zeroCells z.cells n++Builtin.zeroCells z.cells (G-n)=R at *
 have h1:¬((n:Int)<0):=by omega
 have h2:wrap64 (n:Int)=(n:Int):=by unfold wrap64;omega
 have h4:(n:Int) > 0:=by omega
 clear hR hold hG
 go_enter Tryz.func147,Tryz.ntmps147
 cases base with
 |none =>
  go_wp2_with (at_builtin;refine Lib.wpList_append_run _ rfl _ _ _ _ rfl _ _ rfl rfl _ _ (hrz _) ?_)
  all_goals (go_ret;exact⟨rfl,rfl⟩)
 |some a =>
  obtain⟨ab,ao,asp⟩:=a
  go_wp2_with (at_builtin;refine Lib.wpList_append_run _ rfl _ _ _ _ rfl _ _ rfl rfl _ _ (hrz _) ?_)
  all_goals (go_ret;exact⟨rfl,rfl⟩)
set_option maxRecDepth 100000 in
theorem Tryz.growLaw:GrowLaw Tryz.prog 147 4 56:=by
 obtain⟨i0,z,hi0,J4,hz0,hzs,hby⟩:∃i0 z,Tryz.prog.info? 32=some i0/\i0.size=4/\i0.zero=some z/\z.cells.size=4/\i0.bytes=56:=⟨_,_,rfl,by kernel_rfl,rfl,by kernel_rfl,by kernel_rfl⟩;refine⟨by omega,by kernel_rfl,λw base=>Tryz.growZero base w,λw base n h0 hb hm=>?_⟩;have hG1:=grownCap_ge w n 0 32;refine(Tryz.growSome base n w i0 z hi0 hz0 J4 h0 hm (by rw[hby];exact hb)).mono λe w' ⟨h1,h2⟩=>⟨1,_,_,_,h1,h2,grownCap_le_maxLen w n 0 32 hm,?_⟩;rw[A0S,size_zeroCells,size_zeroCells,hzs];omega
end Go.Proofs
namespace Go.Proofs
set_option maxHeartbeats 1000000 in
set_option maxRecDepth 100000 in
theorem Tryz.cmpString (a b:ByteArray) (w:World) :
  Calls Tryz.prog 134 #[.string a,.string b] w λe w'=>e=.returned (.int .i64 (Lib.compareBytes a.data.toList b.data.toList))/\w'=w:=by
 go_enter Tryz.func134,Tryz.ntmps134
 go_wp2
 rw[run_callFunc_extern Tryz.func187 (by kernel_rfl) (by kernel_rfl) (by kernel_rfl) (e:=Extern.BytealgCompare.compare) (by kernel_rfl),Lib.run_compareString];simp only[Result.andThen];rw[Oper.upon_value]
 go_wp2
 go_ret
 exact⟨rfl,rfl⟩
set_option maxHeartbeats 1000000 in
set_option maxRecDepth 100000 in
theorem Tryz.sliteIndexByte (s:ByteArray) (c:Int) (w:World) :
  Calls Tryz.prog 359 #[.string s,.int .u8 c] w λe w'=>e=.returned (.int .i64 (Lib.indexByte s.data.toList c.toNat.toUInt8))/\w'=w:=by
 go_enter Tryz.func359,Tryz.ntmps359
 go_wp2
 rw[run_callFunc_extern Tryz.func391 (by kernel_rfl) (by kernel_rfl) (by kernel_rfl) (e:=Extern.BytealgIndexByte.indexByte) (by kernel_rfl),Lib.run_indexByteString];simp only[Result.andThen];rw[Oper.upon_value]
 go_wp2
 go_ret
 exact⟨rfl,rfl⟩
set_option maxHeartbeats 2000000 in
set_option maxRecDepth 100000 in
theorem Tryz.sliteIndexOne (s:ByteArray) (c:UInt8) (w:World) :
  Calls Tryz.prog 304 #[.string s,.string ⟨#[c]⟩] w λe w'=>e=.returned (.int .i64 (Lib.indexByte s.data.toList c))/\w'=w:=by
 go_enter Tryz.func304,Tryz.ntmps304
 go_wp2_with (go_at_call 359;refine(Tryz.sliteIndexByte _ _ _).mono ?_;rintro e w' ⟨rfl,rfl⟩)
 .have h:([c] == s.toList)=true:=by assumption
  go_ret
  refine⟨?_,rfl⟩;have e:s.data.toList=[c]:=by rw[←Lib.toList_data];exact(beq_iff_eq.1 h).symm
  rw[e];simp[Lib.indexByte]
 .go_ret
  exact⟨rfl,rfl⟩
set_option maxHeartbeats 1000000 in
theorem Tryz.stringsIndexOne (s:ByteArray) (c:UInt8) (w:World) :
  Calls Tryz.prog 249 #[.string s,.string ⟨#[c]⟩] w λe w'=>e=.returned (.int .i64 (Lib.indexByte s.data.toList c))/\w'=w:=by
 go_enter Tryz.func249,Tryz.ntmps249
 go_wp2_with (go_at_call 304;refine(Tryz.sliteIndexOne _ _ _).mono ?_;rintro e w' ⟨rfl,rfl⟩)
 go_ret
 exact⟨rfl,rfl⟩
set_option maxHeartbeats 1000000 in
theorem Tryz.stringsContainsOne (s:ByteArray) (c:UInt8) (w:World) :
  Calls Tryz.prog 195 #[.string s,.string ⟨#[c]⟩] w λe w'=>e=.returned (.bool (decide (0<=Lib.indexByte s.data.toList c)))/\w'=w:=by
 go_enter Tryz.func195,Tryz.ntmps195
 go_wp2_with (go_at_call 249;refine(Tryz.stringsIndexOne _ _ _).mono ?_;rintro e w' ⟨rfl,rfl⟩)
 go_ret
 exact⟨rfl,rfl⟩
end Go.Proofs
namespace Go.Abs.Q
open Go.Proofs
open Go.RowKit (Below)
theorem Wv:∀(a b:List UInt8),Lib.compareBytes a b=if Op.bytesLess a b then -1 else if a=b then 0 else 1
 | [],[]=>by simp[Lib.compareBytes,Op.bytesLess]
 | [],_::_=>by simp[Lib.compareBytes,Op.bytesLess]
 |_::_,[]=>by simp[Lib.compareBytes,Op.bytesLess]
 |x::a,y::b=>by
  simp only[Lib.compareBytes,Op.bytesLess,Wv a b];by_cases h:x<y
  .simp[h]
  .by_cases h':y<x
   .have P0:x≠y:=λe=>h (e ▸ h');simp[h,h',P0]
   .have he:x=y:=by
     apply UInt8.le_antisymm
     .exact UInt8.not_lt.1 h'
     .exact UInt8.not_lt.1 h
    subst he;simp[h]
theorem dl (a b:J2):U9 a b=Lib.compareBytes a.data.toList b.data.toList:=by
 rw[Wv,U9,Lib.toList_data,Lib.toList_data]
theorem Sv (c:UInt8):∀l:List UInt8,0<=Lib.indexByte l c↔c∈l
 | []=>by simp[Lib.indexByte]
 |b::l=>by
  have ih:=Sv c l;have hge:=Lib.indexByte_ge l c;by_cases h:b=c
  .subst h;simp[Lib.indexByte]
  .have h1:Lib.indexByte (b::l) c=if Lib.indexByte l c=-1 then -1 else Lib.indexByte l c+1:=by
    simp[Lib.indexByte,h]
   have h2:¬c=b:=λe=>h e.symm;rw[h1,A0w];by_cases h3:Lib.indexByte l c=-1
   .rw[if_pos h3];constructor
    .intro k;omega
    .rintro(k|k)
     .exact absurd k h2
     .have:=ih.2 k;omega
   .rw[if_neg h3];constructor
    .intro k;exact .inr (ih.1 (by omega))
    .intro k;omega
theorem Yn (l:List UInt8) (c:UInt8):decide (0<=Lib.indexByte l c)=l.contains c:=by
 rw[Bool.eq_iff_iff,decide_eq_true_iff,Sv];simp
theorem mixed:Tryz.prog.follows .mixedOrders=true:=by kernel_rfl
theorem wA (f:FuncId) (s:RSpec) (h:YM f=some s):(f=D9/\s=aX 4)\/(f=N3/\s=ml 4 56)\/(f=O4/\s=lC 5 64)\/(f=Q0/\s=Zh 4 56):=by
 unfold YM at h;split at h
 .rename_i hf;cases h;exact .inl ⟨hf,rfl⟩
 .split at h
  .rename_i hf;cases h;exact .inr (.inl ⟨hf,rfl⟩)
  .split at h
   .rename_i hf;cases h;exact .inr (.inr (.inl ⟨hf,rfl⟩))
   .split at h
    .rename_i hf;cases h;exact .inr (.inr (.inr ⟨hf,rfl⟩))
    .cases h
theorem QS:CfgS Tryz.prog Q:=by
 refine⟨λf rf h=>?_,λf s hs args r hr=>?_,mixed,λf s hs O hP args h r h' he=>?_⟩
 .have h1:Ag f=some rf:=(Qt f).symm.trans h;unfold Ag at h1;split at h1
  .cases h1
  .exact h1
 rotate_left 1
 .have hs':YM f=some s:=hs;rcases wA f s hs' with ⟨rfl,rfl⟩|⟨rfl,rfl⟩|⟨rfl,rfl⟩|⟨rfl,rfl⟩
  .exact kD Tryz.sortLays (by kernel_rfl) 4 Tryz.isAgg32 Tryz.sizeOf32 hP args h r h' he
  .exact mn Tryz.insLaw O args h r h' he
  .exact iX Tryz.insLawP O args h r h' he
  .exact iW Tryz.growLaw O args h r h' he
 have hs':Ql f=some s:=(Uq f).symm.trans hs;unfold Ql at hs';split at hs'
 .rename_i hf;subst hf;cases hs';unfold cu at hr;split at hr
  .rename_i a b;cases hr;refine⟨by kernel_rfl,λw ok0 vs _ hv=>?_⟩;have Qp:vs=#[.string a,.string b]:=by
    simp only[Dg,PV]at hv;obtain⟨u,us,h1,rfl,u',us',rfl,rfl,rfl⟩:=hv;cases vs
    simp_all
   subst Qp;refine(Tryz.cmpString a b w).mono λe w' ⟨he,hw⟩=>?_;subst hw;exact⟨_,he,Bl.refl _ _,by simp[PV,dl]⟩
  .cases hr
 .split at hs'
  .rename_i hf;subst hf;cases hs';unfold cv at hr;split at hr
   .rename_i a b;split at hr
    .rename_i c hb;cases hr;refine⟨by kernel_rfl,λw ok0 vs _ hv=>?_⟩;have hb':b=⟨#[c]⟩:=by
      obtain⟨⟨l⟩⟩:=b;simp at hb;rw[hb]
     subst hb';have Qp:vs=#[.string a,.string ⟨#[c]⟩]:=by
      simp only[Dg,PV]at hv;obtain⟨u,us,h1,rfl,u',us',rfl,rfl,rfl⟩:=hv;cases vs
      simp_all
     subst Qp;refine(Tryz.stringsContainsOne a c w).mono λe w' ⟨he,hw⟩=>?_;subst hw;exact⟨_,he,Bl.refl _ _,by simp[PV,Yn]⟩
    .cases hr
   .cases hr
  .cases hs'
end Go.Abs.Q
namespace Go.Abs.Q
open Go.Proofs
open Go.Proofs.YtohjdamplbhdpaaGreatDoor (Rows.uptoBulk Rows.uptoBulkAll)
variable {w:World}
theorem cAt:Tryz.prog.cellsOf 42=2:=by kernel_rfl
theorem xk {α:Type}:∀{l:List α},l.length=2->∃a b,l=[a,b]
 | [a,b],_=>⟨a,b,rfl⟩
theorem sB (n:Nat):Ny Tryz.prog w 42 (λp:Int×Int=>[.int .i64 p.1,.int .i64 p.2]) (λ_=>True) (λ_=>1) n:=by
 intro H enc cs x hx;obtain⟨m,xs,rfl,GJ,Zm,hx1,hf⟩:=Km Tryz.underlying42 cAt hx;obtain⟨y0,hy0,h0⟩:=hf 0 _ rfl;obtain⟨y1,hy1,h1⟩:=hf 1 _ rfl;clear hf;obtain⟨v0,v1,rfl⟩:=xk GJ;obtain⟨z0,z1,rfl⟩:=xk Zm;simp only[List.getElem?_cons_zero,List.getElem?_cons_succ,Option.some.injEq]at hy0 hy1;subst hy0 hy1;simp only[List.getElem_toArray,List.getElem_cons_zero,List.getElem_cons_succ,qb,List.drop_zero,List.drop_succ_cons,List.take_succ_cons,List.take_zero]at h0 h1;obtain⟨a,-,w0,cv0⟩:=JC (w:=w) Tryz.underlying3 m enc _ _ h0;obtain⟨b,-,w1,cv1⟩:=JC (w:=w) Tryz.underlying3 m enc _ _ h1;refine⟨(a,b),trivial,?_,CE cv0 cv1⟩;rw[hx1];dsimp only at w0 w1;simp only[A0v,A0y,Rows.uptoBulk,Rows.uptoBulkAll];omega
theorem gv {w:World} {cs:G3} {us:Array Value} (h:CV w cs us.toList):PV w (xq w) (.agg cs) (.agg us):=by
 simp only[PV];exact⟨us,rfl,h.2,h.1⟩
end Go.Abs.Q
namespace Go.Proofs.YtohjdamplbhdpaaGreatDoor
open Go.ChangeShapes Go.WideShapes Go.ChangeAt Go.RowKit Go.Abs Go.Abs.Q
theorem own:ownKnob Tryz.prog.godebug=none:=by kernel_rfl
theorem laidOut:laidOutB Tryz.prog=true:=by kernel_rfl
def A0C:DataW Unit->List Value
 | .lit (.int k n)=>[.int k n]
 |_=>[]
def wQ:DataW Unit->List Value
 | .agg l=>l.flatMap A0C
 |_=>[]
def A0D:DataW Unit->List Value
 | .agg l=>l.flatMap wQ
 |_=>[]
def Zp (l:List Value):Obj->Obj
 | .cells _ t frozen=>.cells l.toArray t frozen
 |o=>o
noncomputable def VE (os:Os):World :=
 {World.holding Tryz.prog os ⟨#[],#[],[]⟩with heap:=((World.holding Tryz.prog os ⟨#[],#[],[]⟩).heap.modify 1 (Zp (wQ Rows.laid_unicode_utf8_first))).modify 2 (Zp (A0D Rows.laid_unicode_utf8_acceptRanges))}
end Go.Proofs.YtohjdamplbhdpaaGreatDoor
namespace Go.Abs.Q
open Go.Proofs
attribute [local simp] E1 E5 fin J7 G4 O2 L3 P2 P1
def Mk (m:Bool×Bool) (a:ByteArray):Tm:=Uy (bs [115,107]) m [Hv a]
def Ll (m:Bool×Bool) (a:ByteArray):Tm:=Uy (bs [112,107]) m [Mk m a]
def Sg (m:Bool×Bool) (a b:ByteArray):Tm:=Uy (bs [115,104,107]) m [Hv a,Hv b]
def U2 (acc l:List Tm):List Tm:=l.foldl KU acc
theorem PD (acc a b:G7):U2 acc (a++b)=U2 (U2 acc a) b:=List.foldl_append
theorem Bh:∀(l acc:G7),(U2 acc l).length<=acc.length+l.length
 | [],acc=>A01 _
 |t::l,acc=>by
  have h1:=Bh l (KU acc t);have h2:=(dY acc t).1;show (U2 (KU acc t) l).length<=_;rw[List.length_cons];omega
theorem Bi:∀(l acc:G7) {x:Tm},x∈U2 acc l->x∈acc\/x∈l
 | [],acc,x,h=>.inl h
 |t::l,acc,x,h=>by
  rcases Bi l (KU acc t) h with h|h
  .rcases dZ h with h|h
   .exact .inl h
   .exact .inr (h ▸ List.mem_cons_self)
  .exact .inr (List.mem_cons_of_mem _ h)
def Lx (m:Bool×Bool) (me:ByteArray) (rs:List ByteArray) (role:Nat):Nat->List Tm
 |0=>[]
 |i+1=>Lx m me rs role i++(if i=role then []else match rs[i]? with|some r=>[Sg m me r,Sg m r me]|none=>[])
def OT (me:ByteArray) (s:Ste):Bool:=decide (s.frm=me)||decide (s.to=me)
def Sn (me:ByteArray) (l:List Ste):List Tm:=(l.filter (OT me)).map Ste.msg
theorem fB {me:J2} {l:List Ste} {i:Nat} (h:i<l.length):Sn me (l.take (i+1))=Sn me (l.take i)++(if OT me l[i]=true then [l[i].msg]else []):=by
 unfold Sn;rw[A0V h,List.filter_append,A0s];congr 1;by_cases hb:OT me l[i]=true
 .rw[if_pos hb,List.filter_cons_of_pos hb];rfl
 .rw[if_neg hb,List.filter_cons_of_neg hb];rfl
theorem Sh (m:I7) (me:J2) (rs:List ByteArray) (role:Nat):∀i,(Lx m me rs role i).length<=2*i
 |0=>A01 _
 |i+1=>by
  have:=Sh m me rs role i;rw[Lx,A0T];split
  .simp;omega
  .split<;>simp<;>omega
theorem Rk (m:I7) (me:J2) (rs:List ByteArray) (role:Nat):∀i,∀x∈Lx m me rs role i,x.size=3
 |0,x,h=>by simp[Lx]at h
 |i+1,x,h=>by
  rw[Lx,List.mem_append]at h;rcases h with h|h
  .exact Rk m me rs role i x h
  .split at h
   .simp at h
   .split at h
    .simp only[A0w,List.not_mem_nil,or_false]at h;rcases h with rfl|rfl<;>rfl
    .simp at h
theorem PJ {me:J2} {l:List Fre} {x:Tm} (h:x∈Hz me l):x.size=1:=by
 unfold Hz at h;rw[A0d]at h;obtain⟨f,-,rfl⟩:=h;rfl
theorem fW (r n:Nar) (role:Nat) (me:J2) (hme:r.roles[role]?=some me) (i:Nat) (hi:i<r.steps.length):pc Q GG [HU r n,.int .i64 (role:Nat),.int .i64 (i:Nat)]=some (.bool (OT me r.steps[i])):=by
 have sb:=Bu r n;have hme':KN (r.roles.map AV.str) role=some (.str me):=G2 hme;have hx:=G2 (f:=El) (A0R hi);unfold OT;generalize r.steps[i]=s at *
 by_cases hq:s.frm=me
 .rw[show (decide (s.frm=me)||decide (s.to=me))=true from by simp[hq]];refine FX W5 λfr hl h0 h1 h2=>?_;simp[W5]at hl h0 h1 h2;simp[W5,hl,h0,h1,h2,sb,hme',hx,hq]
 .rw[show (decide (s.frm=me)||decide (s.to=me))=decide (s.to=me) from by simp[hq]];have P0:=hq;refine FX W5 λfr hl h0 h1 h2=>?_;simp[W5]at hl h0 h1 h2;simp[W5,hl,h0,h1,h2,sb,hme',hx,P0]
theorem rd (rs:List ByteArray) (m0:I7) (B8:rs.length<=1000) (acc:G7) (hal:acc.length<=1000) (has:∀x∈acc,x.size<=1099511627776) (B0:List (List AV)) (fr:Fr) (h:AH) (hh:h.boxes=B0) (v0:AV) (hv0:A0 fr 8=v0) (hg0:KL false 4 (A4 acc) v0 h) (hl:fr.length=102) (h29:A0 fr 29=sl m0 1 (rs.map AV.str)) (h30:A0 fr 30=.int .i64 rs.length) (h31:A0 fr 31=.int .i64 0) :
  B7 (lp (A2 (K8 Q) (D6 M4) Ae) (fr,h)) λe C4 h'=>Kp Ae.wr fr C4/\e=.exit 0/\h'.boxes=B0/\KL false 4 (A4 (U2 acc (rs.map (Ll (true,true))))) (A0 C4 8) h':=by
 refine B4 rfl fr (λn fr h'=>∃(i:Nat),i+n=rs.length/\A0 fr 31=.int .i64 (i:Nat)/\(∃v,A0 fr 8=v/\h'.boxes=B0/\KL false 4 (A4 (U2 acc ((rs.take i).map (Ll (true,true))))) v h')) ?_ rs.length h ⟨0,by omega,h31,_,hv0,hh,hg0⟩;rintro J Φ hJ hΦ n D5 H1 K ⟨i,hi,k31,hr⟩;have A6:=K.1.trans hl;have k29:=A8 K 29 h29;have k30:=A8 K 30 h30;clear K;by_cases A7:i<rs.length
 .have L4:=C6 i (by omega);obtain⟨v,k8,hB,hg⟩:=hr;obtain⟨bx,fams⟩:=H1;simp only at hB;subst hB;have hx:=G2 (f:=AV.str) (A0R A7);have CK:=Bh ((rs.take i).map (Ll (true,true))) acc;rw[A0c,A0Q]at CK;have J4:∀x∈U2 acc ((rs.take i).map (Ll (true,true))),x.size<=1099511627776:=λx hx=>by
   rcases Bi _ _ hx with h|h
   .exact has x h
   .rw[A0d]at h;obtain⟨a,-,rfl⟩:=h;simp[Ll,Mk,Uy,Hv,Tm.size,Tm.sizes]
  have Q4:(rs.take (i+1)).map (Ll (true,true))=(rs.take i).map (Ll (true,true))++[Ll (true,true) rs[i]]:=by
   rw[A0V A7,A0s,A0v,A0y]
  generalize rs[i]=a at *
  have hG:=Xo a;have hA:=Xp (bs [115,107]) (true,true) [Hv a];have hA2:=Xp (bs [112,107]) (true,true) [Mk (true,true) a];rw[show A4 [Hv a]=[B9 (Hv a)] from rfl]at hA;rw[show A4 [Mk (true,true) a]=[B9 (Mk (true,true) a)] from rfl]at hA2;change pc Q Ax _=some (B9 (Mk (true,true) a))at hA;change pc Q Ax _=some (B9 (Ll (true,true) a))at hA2;obtain⟨v',F',hK,Z6⟩:=UV _ v ⟨bx,fams⟩ hg (Ll (true,true) a) (by omega) J4 (by simp[Ll,Mk,Uy,Hv,Tm.size,Tm.sizes]);have e1:KU (U2 acc ((rs.take i).map (Ll (true,true)))) (Ll (true,true) a)=U2 acc ((rs.take (i+1)).map (Ll (true,true))):=by
   rw[Q4,PD];rfl
  rw[e1]at Z6;clear e1 Q4 hg J4;generalize Ll (true,true) a=t2 at *
  generalize Mk (true,true) a=t1 at *
  generalize Hv a=t0 at *
  simp[Ae,A6,k29,k30,k31,A7,L4,k8,hx,hG,hA,hA2,A5,hK];exact E9 hJ ⟨i+1,by omega,by simp[A6],v',by simp[A6],rfl,Z6⟩
 .obtain⟨v,k8,hB,hg⟩:=hr;rw[A0X (by omega)]at hg;simp[Ae,A6,k30,k31,A7];exact hΦ _ _ _ ⟨rfl,hB,by simp[k8];exact I4 hg rfl⟩
theorem rZ (rs:List ByteArray) (m0:I7) (B8:rs.length<=1000) (acc:G7) (hal:acc.length<=2000) (has:∀x∈acc,x.size<=1099511627776) (role:Nat) (me:J2) (C0:G3) (fr:Fr) (h:AH) (hh:h.boxes=[C0,(B9 (Hv me)).cells]) (v0:AV) (hv0:A0 fr 8=v0) (hg0:KL false 4 (A4 acc) v0 h) (hl:fr.length=102) (h1:A0 fr 1=.int .i64 (role:Nat)) (h7:A0 fr 7=.ptr 1 0) (h46:A0 fr 46=sl m0 1 (rs.map AV.str)) (h47:A0 fr 47=.int .i64 rs.length) (h48:A0 fr 48=.int .i64 0) :
  B7 (lp (A2 (K8 Q) (D6 M4) Z4) (fr,h)) λe C4 h'=>Kp Z4.wr fr C4/\e=.exit 2/\h'.boxes=[C0,(B9 (Hv me)).cells]/\KL false 4 (A4 (U2 acc (Lx (true,true) me rs role rs.length))) (A0 C4 8) h':=by
 refine B4 rfl fr (λn fr h'=>∃(i:Nat),i+n=rs.length/\A0 fr 48=.int .i64 (i:Nat)/\(∃v,A0 fr 8=v/\h'.boxes=[C0,(B9 (Hv me)).cells]/\KL false 4 (A4 (U2 acc (Lx (true,true) me rs role i))) v h')) ?_ rs.length h ⟨0,by omega,h48,_,hv0,hh,hg0⟩;rintro J Φ hJ hΦ n D5 H1 K ⟨i,hi,k48,hr⟩;have A6:=K.1.trans hl;have k1:=A8 K 1 h1;have k7:=A8 K 7 h7;have k46:=A8 K 46 h46;have k47:=A8 K 47 h47;clear K;by_cases A7:i<rs.length
 .have L4:=C6 i (by omega);obtain⟨v,k8,hB,hg⟩:=hr;obtain⟨bx,fams⟩:=H1;simp only at hB;subst hB;have hx:=G2 (f:=AV.str) (A0R A7);have CK:=Bh (Lx (true,true) me rs role i) acc;have hl3:=Sh (true,true) me rs role i;have J4:∀x∈U2 acc (Lx (true,true) me rs role i),x.size<=1099511627776:=λx hx=>by
   rcases Bi _ _ hx with h|h
   .exact has x h
   .have:=Rk _ _ _ _ _ x h;omega
  have Q4:Lx (true,true) me rs role (i+1)=Lx (true,true) me rs role i++(if i=role then []else [Sg (true,true) me rs[i],Sg (true,true) rs[i] me]):=by
   rw[Lx,A0R A7]
  generalize rs[i]=a at *
  by_cases hir:i=role
  .rw[if_pos hir,A0j]at Q4;rw[←Q4]at hg;subst hir;simp[Z4,A6,k1,k46,k47,k48,A7,L4,hx];exact E9 hJ ⟨i+1,by omega,by simp[A6],v,by simp[k8],by simp,I4 hg rfl⟩
  .rw[if_neg hir]at Q4;have hii:¬(i:Int)=(role:Int):=by omega
   have hG:=Xo a;have hA:=Xp (bs [115,104,107]) (true,true) [Hv me,Hv a];have hA2:=Xp (bs [115,104,107]) (true,true) [Hv a,Hv me];rw[show A4 [Hv me,Hv a]=[B9 (Hv me),B9 (Hv a)] from rfl]at hA;rw[show A4 [Hv a,Hv me]=[B9 (Hv a),B9 (Hv me)] from rfl]at hA2;change pc Q Ax _=some (B9 (Sg (true,true) me a))at hA;change pc Q Ax _=some (B9 (Sg (true,true) a me))at hA2;obtain⟨v',F',hK,Z6⟩:=UV _ v ⟨[C0,(B9 (Hv me)).cells],fams⟩ hg (Sg (true,true) me a) (by omega) J4 (by simp[Sg,Uy,Hv,Tm.size,Tm.sizes]);obtain⟨v2,F2,hK2,hg2⟩:=UV _ v' ⟨[C0,(B9 (Hv me)).cells],F'⟩ Z6 (Sg (true,true) a me) (by have:=(dY (U2 acc (Lx (true,true) me rs role i)) (Sg (true,true) me a)).1;omega) (λx hx=>by
    rcases dZ hx with h|h
    .exact J4 x h
    .subst h;simp[Sg,Uy,Hv,Tm.size,Tm.sizes]) (by simp[Sg,Uy,Hv,Tm.size,Tm.sizes])
   have e1:KU (KU (U2 acc (Lx (true,true) me rs role i)) (Sg (true,true) me a)) (Sg (true,true) a me)=U2 acc (Lx (true,true) me rs role (i+1)):=by
    rw[Q4,PD];rfl
   rw[e1]at hg2;clear e1 Q4 hg Z6 J4;generalize Sg (true,true) me a=t2 at *
   generalize Sg (true,true) a me=t1 at *
   simp only[I1]at hK hK2;generalize Hv a=t0 at *
   generalize Hv me=tm at *
   simp[Z4,A6,k1,k7,k46,k47,k48,A7,L4,k8,hx,hii,hG,hA,hA2,A5,hK,hK2];exact E9 hJ ⟨i+1,by omega,by simp[A6],v2,by simp[A6],by simp,hg2⟩
 .obtain⟨v,k8,hB,hg⟩:=hr;have hi2:i=rs.length:=by omega
  subst hi2;simp[Z4,A6,k47,k48];exact hΦ _ _ _ ⟨rfl,hB,by simp[k8];exact I4 hg rfl⟩
theorem rY (l:G7) (m0:I7) (B8:l.length<=1000) (acc:G7) (hal:acc.length<=5000) (has:∀x∈acc,x.size<=1099511627776) (hls:∀x∈l,x.size<=1099511627776) (C0:G3) (fr:Fr) (h:AH) (B0:List (List AV)) (hB0:h.boxes=C0::B0) (v0:AV) (hv0:A0 fr 8=v0) (hg0:KL false 4 (A4 acc) v0 h) (hl:fr.length=102) (h73:A0 fr 73=sl m0 4 (A4 l)) (h74:A0 fr 74=.int .i64 l.length) (h75:A0 fr 75=.int .i64 0) :
  B7 (lp (A2 (K8 Q) (D6 M4) Ad) (fr,h)) λe C4 h'=>Kp Ad.wr fr C4/\e=.exit 4/\(∃B,h'.boxes=C0::B)/\KL false 4 (A4 (U2 acc l)) (A0 C4 8) h':=by
 refine B4 rfl fr (λn fr h'=>∃(i:Nat),i+n=l.length/\A0 fr 75=.int .i64 (i:Nat)/\(∃(B:List (List AV)) (v:AV),A0 fr 8=v/\h'.boxes=C0::B/\KL false 4 (A4 (U2 acc (l.take i))) v h')) ?_ l.length h ⟨0,by omega,h75,_,_,hv0,hB0,hg0⟩;rintro J Φ hJ hΦ n D5 H1 K ⟨i,hi,k75,hr⟩;have A6:=K.1.trans hl;have k73:=A8 K 73 h73;have k74:=A8 K 74 h74;clear K;by_cases A7:i<l.length
 .have L4:=C6 i (by omega);obtain⟨B,v,k8,hB,hg⟩:=hr;obtain⟨bx,fams⟩:=H1;simp only at hB;subst hB;have hx:=H9 A7;have CK:=Bh (l.take i) acc;rw[A0Q]at CK;have J4:∀x∈U2 acc (l.take i),x.size<=1099511627776:=λx hx=>by
   rcases Bi _ _ hx with h|h
   .exact has x h
   .exact hls x (A0Z h)
  have hli:=hls _ (A0r A7);have Q4:l.take (i+1)=l.take i++[l[i]]:=A0V A7;generalize l[i]=t at *
  obtain⟨v',F',hK,Z6⟩:=UV _ v ⟨C0::(B++[(B9 t).cells]),fams⟩ (I4 hg rfl) t (by omega) J4 hli;have e1:KU (U2 acc (l.take i)) t=U2 acc (l.take (i+1)):=by
   rw[Q4,PD];rfl
  rw[e1]at Z6;clear e1 Q4 hg J4;simp only[I1]at hK;simp[Ad,A6,k73,k74,k75,A7,L4,k8,hx,hK];exact E9 hJ ⟨i+1,by omega,by simp[A6],_,v',by simp[A6],rfl,I4 Z6 rfl⟩
 .obtain⟨B,v,k8,hB,hg⟩:=hr;rw[A0X (by omega)]at hg;simp[Ad,A6,k74,k75,A7];exact hΦ _ _ _ ⟨rfl,⟨B,hB⟩,by simp[k8];exact I4 hg rfl⟩
theorem rX (r na:Nar) (l:List Ste) (q:Nat) (hq:q<=r.steps.length) (hlq:l=r.steps.take q) (B8:l.length<=1000) (acc:G7) (hal:acc.length<=7000) (has:∀x∈acc,x.size<=1099511627776) (hls:∀x∈l,x.msg.size<=1099511627776) (role:Nat) (me:J2) (hme:r.roles[role]?=some me) (fr:Fr) (h:AH) (B0:List (List AV)) (hB0:h.boxes=(HU r na).cells::B0) (v0:AV) (hv0:A0 fr 8=v0) (hg0:KL false 4 (A4 acc) v0 h) (hl:fr.length=102) (h1:A0 fr 1=.int .i64 (role:Nat)) (h3:A0 fr 3=.ptr 0 0) (h83:A0 fr 83=.int .i64 l.length) (h84:A0 fr 84=.int .i64 0) :
  B7 (lp (A2 (K8 Q) (D6 M4) Z3) (fr,h)) λe C4 h'=>Kp Z3.wr fr C4/\e=.exit 6/\KL false 4 (A4 (U2 acc (Sn me l))) (A0 C4 8) h':=by
 refine B4 rfl fr (λn fr h'=>∃(i:Nat),i+n=l.length/\A0 fr 84=.int .i64 (i:Nat)/\(∃(B:List (List AV)) (v:AV),A0 fr 8=v/\h'.boxes=(HU r na).cells::B/\KL false 4 (A4 (U2 acc (Sn me (l.take i)))) v h')) ?_ l.length h ⟨0,by omega,h84,_,_,hv0,hB0,hg0⟩;rintro J Φ hJ hΦ n D5 H1 K ⟨i,hi,k84,hr⟩;have A6:=K.1.trans hl;have k1:=A8 K 1 h1;have k3:=A8 K 3 h3;have k83:=A8 K 83 h83;clear K;by_cases A7:i<l.length
 .have L4:=C6 i (by omega);obtain⟨B,v,k8,hB,hg⟩:=hr;obtain⟨bx,fams⟩:=H1;simp only at hB;subst hB;have sb:=Bu r na;have hlr:i<r.steps.length:=by rw[hlq,A0Q]at A7;omega
  have hli:l[i]=r.steps[i]:=by simp only[hlq,List.getElem_take]
  have hx:=G2 (f:=El) (A0R hlr);have hI:=fW r na role me hme i hlr;have CK:=Bh (Sn me (l.take i)) acc;have hml:(Sn me (l.take i)).length<=i:=by
   unfold Sn;rw[A0c];have:=A0k (OT me) (l.take i);rw[A0Q]at this;omega
  have J4:∀x∈U2 acc (Sn me (l.take i)),x.size<=1099511627776:=λx hx=>by
   rcases Bi _ _ hx with h|h
   .exact has x h
   .unfold Sn at h;rw[A0d]at h;obtain⟨s,hs,rfl⟩:=h;exact hls s (A0Z (A0t.1 hs).1)
  have hli2:=hls _ (A0r A7);have Q4:=fB (me:=me) A7;rw[hli]at Q4 hli2;generalize r.steps[i]=s at *
  cases hb:OT me s with
  |false =>
   rw[hb]at Q4 hI;simp only[A0o,if_false,A0j]at Q4;rw[←Q4]at hg;simp[Z3,A6,k1,k3,k83,k84,A7,L4,sb,hI];exact E9 hJ ⟨i+1,by omega,by simp[A6],_,v,by simp[k8],by rw[sb],I4 hg rfl⟩
  |true =>
   rw[hb]at Q4 hI;simp only[if_true]at Q4;obtain⟨v',F',hK,Z6⟩:=UV _ v ⟨(HU r na).cells::B,fams⟩ hg s.msg (by omega) J4 hli2;have e1:KU (U2 acc (Sn me (l.take i))) s.msg=U2 acc (Sn me (l.take (i+1))):=by
    rw[Q4,PD];rfl
   rw[e1]at Z6;clear e1 Q4 hg J4;rw[sb]at hK;simp[Z3,A6,k1,k3,k83,k84,A7,L4,sb,k8,hI,hx,hK];exact E9 hJ ⟨i+1,by omega,by simp[A6],B,v',by simp[A6],by rw[sb],I4 Z6 rfl⟩
 .obtain⟨B,v,k8,hB,hg⟩:=hr;rw[A0X (by omega)]at hg;simp[Z3,A6,k83,k84,A7];exact hΦ _ _ _ ⟨rfl,by simp[k8];exact I4 hg rfl⟩
def Pt (m:Bool×Bool) (r n:Nar) (me:ByteArray) (role q:Nat):List Tm :=
 U2 (U2 (U2 (U2 [Mk m me] (r.roles.map (Ll m))) (Lx m me r.roles role r.roles.length)) (Hz me n.fresh)) (Sn me (r.steps.take q))
structure Smol (r n:Nar):Prop where
 roles:r.roles.length<=1000
 fresh:n.fresh.length<=1000
 steps:r.steps.length<=1000
 msgs:∀s∈r.steps,s.msg.size<=1048576
theorem Mi (m:I7) (a b:J2):(Mk m a).size=2/\(Ll m a).size=3/\(Sg m a b).size=3:=⟨rfl,rfl,rfl⟩
theorem UH {m:I7} {r n:Nar} {me:J2} {role q:Nat} (h:Smol r n):(Pt m r n me role q).length<=10000:=by
 unfold Pt;have h1:=Bh (r.roles.map (Ll m)) [Mk m me];have h2:=Bh (Lx m me r.roles role r.roles.length) (U2 [Mk m me] (r.roles.map (Ll m)));have h3:=Bh (Hz me n.fresh) (U2 (U2 [Mk m me] (r.roles.map (Ll m))) (Lx m me r.roles role r.roles.length));have h4:=Bh (Sn me (r.steps.take q)) (U2 (U2 (U2 [Mk m me] (r.roles.map (Ll m))) (Lx m me r.roles role r.roles.length)) (Hz me n.fresh));have h5:=Sh m me r.roles role r.roles.length;have h6:=RJ me n.fresh;have h7:(Sn me (r.steps.take q)).length<=r.steps.length:=by
  unfold Sn;rw[A0c];have:=A0k (OT me) (r.steps.take q);rw[A0Q]at this;omega
 rw[A0c,A0l]at h1;have:=h.roles;have:=h.fresh;have:=h.steps;omega
theorem vH {m:I7} {r n:Nar} {me:J2} {role q:Nat} {x:Tm} (h:x∈Pt m r n me role q):x=Mk m me\/(∃a∈r.roles,x=Ll m a)\/x∈Lx m me r.roles role r.roles.length\/x∈Hz me n.fresh\/∃s∈r.steps,OT me s=true/\x=s.msg:=by
 unfold Pt at h;rcases Bi _ _ h with h|h
 .rcases Bi _ _ h with h|h
  .rcases Bi _ _ h with h|h
   .rcases Bi _ _ h with h|h
    .exact .inl (by simpa using h)
    .rw[A0d]at h;obtain⟨a,ha,rfl⟩:=h;exact .inr (.inl ⟨a,ha,rfl⟩)
   .exact .inr (.inr (.inl h))
  .exact .inr (.inr (.inr (.inl h)))
 .unfold Sn at h;rw[A0d]at h;obtain⟨s,hs,rfl⟩:=h;obtain⟨h1,h2⟩:=A0t.1 hs;exact .inr (.inr (.inr (.inr ⟨s,A0Z h1,h2,rfl⟩)))
theorem US (r n:Nar) (F:Fine n) (S:Lens n) (hz:(l8 n).2=0) (hs:Smol r n) (hrn:r.roles=n.roles) (role:Nat) (me:J2) (hme:r.roles[role]?=some me) (q:Nat) (hq:q<=r.steps.length) :
  ∃m,pc Q M4 [HU r n,.int .i64 (role:Nat),.int .i64 (q:Nat)]=some (sl m 4 (A4 (Pt (true,true) r n me role q))):=by
 suffices hQ:∃v,pc Q M4 [HU r n,.int .i64 (role:Nat),.int .i64 (q:Nat)]=some v/\∃m:Bool×Bool,v=sl m 4 (A4 (Pt (true,true) r n me role q)) by
  obtain⟨v,h1,m,rfl⟩:=hQ;exact⟨m,h1⟩
 have sb:=Bu r n;have hme':KN (r.roles.map AV.str) role=some (.str me):=G2 hme;have hG:=Xo me;have hA:=Xp (bs [115,107]) (true,true) [Hv me];rw[show A4 [Hv me]=[B9 (Hv me)] from rfl]at hA;change pc Q Ax _=some (B9 (Mk (true,true) me))at hA;obtain⟨mf,hFr⟩:=oz n F S hz role me (by rw[←hrn];exact hme);have s1:=hs.roles;have s2:=hs.fresh;have s3:=hs.steps;have b1:=Bh (r.roles.map (Ll (true,true))) [Mk (true,true) me];rw[A0c,A0l]at b1;have b2:=Bh (Lx (true,true) me r.roles role r.roles.length) (U2 [Mk (true,true) me] (r.roles.map (Ll (true,true))));have b5:=Sh (true,true) me r.roles role r.roles.length;have b3:=Bh (Hz me n.fresh) (U2 (U2 [Mk (true,true) me] (r.roles.map (Ll (true,true)))) (Lx (true,true) me r.roles role r.roles.length));have b6:=RJ me n.fresh;have z1:∀x∈[Mk (true,true) me],x.size<=1099511627776:=λx hx=>by rw[List.mem_singleton.1 hx,(Mi _ me me).1];omega
 have z2:∀x∈U2 [Mk (true,true) me] (r.roles.map (Ll (true,true))),x.size<=1099511627776:=λx hx=>by
  rcases Bi _ _ hx with h|h
  .exact z1 x h
  .rw[A0d]at h;obtain⟨a,-,rfl⟩:=h;rw[(Mi _ a a).2.1];omega
 have z3:∀x∈U2 (U2 [Mk (true,true) me] (r.roles.map (Ll (true,true)))) (Lx (true,true) me r.roles role r.roles.length),x.size<=1099511627776:=λx hx=>by
  rcases Bi _ _ hx with h|h
  .exact z2 x h
  .rw[Rk _ _ _ _ _ _ h];omega
 have z4:∀x∈U2 (U2 (U2 [Mk (true,true) me] (r.roles.map (Ll (true,true)))) (Lx (true,true) me r.roles role r.roles.length)) (Hz me n.fresh),x.size<=1099511627776:=λx hx=>by
  rcases Bi _ _ hx with h|h
  .exact z3 x h
  .rw[PJ h];omega
 unfold Pt;generalize hK1:U2 [Mk (true,true) me] (r.roles.map (Ll (true,true)))=k1 at *
 generalize hK2:U2 k1 (Lx (true,true) me r.roles role r.roles.length)=k2 at *
 generalize hK3:U2 k2 (Hz me n.fresh)=k3 at *
 generalize hK4:U2 k3 (Sn me (r.steps.take q))=k4 at *
 have nb:=E7 n;refine fu It λΨ hΨ fr hl h0 h1 h2=>?_;simp[It]at hl h0 h1 h2;simp[It,hl,h0,h1,sb,hme',hG,hA,A5];refine B7.mono (rd r.roles r.rm s1 [Mk (true,true) me] (by simp) z1 [(HU r n).cells,(B9 (Hv me)).cells] _ _ ?_ (sl (true,true) 4 (A4 [Mk (true,true) me])) ?_ (qL _ _ _ _ _) ?_ ?_ ?_ ?_) ?_<;>first|(simp[hl,sb];done)|(simp[hl];rfl)|skip
 rintro e D5 ⟨bx,F1⟩ ⟨K,rfl,hB,hg⟩;have A6:D5.length=102:=K.1.trans (by simp[hl]);have k1':A0 D5 1=.int .i64 (role:Nat):=A8 K 1 (by simp[h1]);have k2':A0 D5 2=.int .i64 (q:Nat):=A8 K 2 (by simp[h2]);have k3':A0 D5 3=.ptr 0 0:=A8 K 3 (by simp[hl]);have k7':A0 D5 7=.ptr 1 0:=A8 K 7 (by simp[hl]);clear K;simp only at hB;subst hB;rw[hK1]at hg;generalize hv8:A0 D5 8=v8 at *
 simp[A6,k3',sb];refine B7.mono (rZ r.roles r.rm s1 k1 (by omega) z2 role me (HU r n).cells _ _ ?_ v8 ?_ (I4 hg rfl) ?_ ?_ ?_ ?_ ?_ ?_) ?_<;>first|(simp[A6,sb,k1',k7',hv8];done)|skip
 rintro e R1 ⟨bx2,F2⟩ ⟨K,rfl,hB,hg2⟩;have CK:R1.length=102:=K.1.trans (by simp[A6]);have k1'':A0 R1 1=.int .i64 (role:Nat):=A8 K 1 (by simp[k1']);have k2'':A0 R1 2=.int .i64 (q:Nat):=A8 K 2 (by simp[k2']);have k3'':A0 R1 3=.ptr 0 0:=A8 K 3 (by simp[k3']);clear K hg;simp only at hB;subst hB;rw[hK2]at hg2;generalize hv8':A0 R1 8=v8' at *
 simp[CK,k1'',k3'',sb,hFr];refine B7.mono (rY (Hz me n.fresh) mf (by omega) k2 (by omega) z3 (λx hx=>by rw[PJ hx];omega) (HU r n).cells _ _ [(B9 (Hv me)).cells] ?_ v8' ?_ (I4 hg2 rfl) ?_ ?_ ?_ ?_) ?_<;>first|(simp[CK,sb,hv8'];done)|skip
 rintro e fr3 ⟨bx3,F3⟩ ⟨K,rfl,⟨B3,hB⟩,hg3⟩;have hl3:fr3.length=102:=K.1.trans (by simp[CK]);have k1a:A0 fr3 1=.int .i64 (role:Nat):=A8 K 1 (by simp[k1'']);have k2a:A0 fr3 2=.int .i64 (q:Nat):=A8 K 2 (by simp[k2'']);have k3a:A0 fr3 3=.ptr 0 0:=A8 K 3 (by simp[k3'']);clear K hg2;simp only at hB;subst hB;rw[hK3]at hg3;generalize hv8a:A0 fr3 8=v8a at *
 have hql:(r.steps.take q).length=q:=by rw[A0Q];omega
 simp[k2a];refine B7.mono (rX r n (r.steps.take q) q hq rfl (by omega) k3 (by omega) z4 (λx hx=>by have:=hs.msgs x (A0Z hx);omega) role me hme _ _ B3 rfl v8a ?_ (I4 hg3 rfl) ?_ ?_ ?_ ?_ ?_) ?_<;>first|(simp[hl3,k1a,k3a,hv8a,hql];done)|skip
 rintro e fr4 ⟨bx4,F4⟩ ⟨K,rfl,hg4⟩;have hl4:fr4.length=102:=K.1.trans (by simp[hl3]);clear K hg3;rw[hK4]at hg4;obtain⟨mm,hf⟩:=Pg hg4;simp only at hf;simp[hl4,hf];exact hΨ _ ⟨mm,rfl⟩
end Go.Abs.Q
