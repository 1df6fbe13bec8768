/- A part of the proof. -/
import Derived.Test.YtohjdamplbhdpaaGreatDoorSE18
import Derived.Test.YtohjdamplbhdpaaGreatDoorProg
import Derived.ProofKit
import Derived.WalkKit
import Derived.Lib.Walk
import Derived.Lib.SliceRun
import Derived.Shelf.RegionOpenPlain
import Derived.Shelf.Spec.SlicesInsert
import Derived.KernelRfl
import Derived.Lib.AppendZerosOnto
import Derived.Laws.NewBlocks
import Derived.Lib.Strings
import Derived.Lib.Slices
import Derived.Lib.Bytealg
import Derived.Test.YtohjdamplbhdpaaGreatDoorCards
import Derived.Test.YtohjdamplbhdpaaGreatDoorTie
import Derived.OpenShut
import Derived.JoinedCond
import Derived.Deep.DeepHandedRow
import Derived.Lib.LaidTab
set_option linter.all false
open List renaming length_take->A0Z,getElem?_eq_getElem->A0a,length_append->A0c,take_succ_eq_append_getElem->A0e,getElem?_drop->A0f,take_of_length_le->A0g,getElem?_toArray->A0h,mem_of_mem_take->A0i,getElem?_append_left->A0j,getElem?_eq_some_iff->A0k,length_map->A0l,mem_map->A0m,size_toArray->A0n,length_drop->A0o,getElem?_take->A0q,getElem?_append_right->A0r,append_nil->A0s,length_filter_le->A0t,length_singleton->A0u,mem_of_mem_drop->A0v,getElem_mem->A00,map_append->A01,mem_filter->A02,mem_cons->A04
open Array renaming size_append->A0b,getElem?_append_left->A0d
open Nat renaming zero_add->A0p,mul_le_mul_right->A0w,min_def->A0y,zero_le->A0z,min_eq_left->A03,add_assoc->A05,lt_or_ge->A06,succ_mul->A07,le_refl->A08,sub_mul->A09
open Bool renaming false_eq_true->A0x
set_option linter.unusedVariables false
set_option linter.unusedSimpArgs false
namespace Go.Proofs
open Go.RowKit Go.Lib Go.Abs
theorem Tryz.setUnd:Tryz.prog.underlying 110=some (.slice 32):=by kernel_rfl
theorem Tryz.termsUnd:Tryz.prog.underlying 30=some (.slice 32):=by kernel_rfl
theorem Tryz.intUnd:Tryz.prog.underlying 3=some (.int .i64):=by kernel_rfl
set_option maxHeartbeats 4000000 in
set_option maxRecDepth 100000 in
theorem Tryz.ins_end_room (blk o n c vb vo vc:Nat) (cur:Array Value) (t:TypeId) (vs:List Value) (w:World) (BK:n+1<=c) (hm:c<=maxLen) (hvl:vs.length=4) (hcur:w.heap[blk]?=some (.cells cur t (0,0))) (Dy:o+c*4<=cur.size)
  (Qx:∀j v,vs[j]?=some v->w.cell? ⟨vb,vo+j,none⟩=some v) (h1v:∀v∈vs,v.oneCell'=true) (us:Array Value) (WV:us=(cur.toList.take (o+n*4)++vs++cur.toList.drop (o+n*4+vs.length)).toArray) :
  Calls Tryz.prog 158 #[.slice (some ⟨blk,o,none⟩) n c,.int .i64 n,.slice (some ⟨vb,vo,none⟩) 1 vc] w λe w'=>e=.returned (.slice (some ⟨blk,o,none⟩) (n+1) c)/\w'=w.setRow blk us:=by
 obtain⟨i0,hi0,J4⟩:∃i0,Tryz.prog.info? 32=some i0/\i0.size=4:=⟨_,rfl,by kernel_rfl⟩;have hrun:∀ty,(Builtin.append_ #[110,30] ty #[.slice (some ⟨blk,o,none⟩) n c,.slice (some ⟨vb,vo,none⟩) 1 vc]).run Tryz.prog w=_:=λty =>
  Yc 110 30 ty 32 32 i0 Tryz.setUnd Tryz.termsUnd hi0 blk o n c cur t w hcur ⟨vb,vo,none⟩ 1 vc vs (by rw[J4,hvl]) (λj v hj=>by rw[Addr.add_lit];exact Qx j v hj) h1v BK (by rw[J4,hvl];omega)
 rw[J4,←WV]at hrun;have hmm:maxLen<=9223372036854775807:=by unfold maxLen;omega
 clear WV
 go_enter Tryz.func158,Tryz.ntmps158
 go_wp2_with (at_builtin;refine Lib.wpList_append_run _ rfl _ _ _ _ rfl _ _ rfl rfl _ _ (hrun _) ?_)
 go_ret
 exact⟨rfl,rfl⟩
set_option maxHeartbeats 4000000 in
set_option maxRecDepth 100000 in
theorem Tryz.ins_end_grow (base:Option Addr) (n c vb vo vc:Nat) (cs vs:List Value) (w:World) (i0:TypeInfo) (z:Value) (hi0:Tryz.prog.info? 32=some i0) (hz0:i0.zero=some z) (J4:i0.size=4) (hnc:n<=c) (BK:c<n+1) (hm:n+1<=maxLen) (hbig:(n+1)*i0.bytes<=140737488355328)
  (Gk:cs.length=n*4) (hvl:vs.length=4) (hnil:base=none->n=0) (MA:∀a,base=some a->∀j v,cs[j]?=some v->w.cell? (a.add j)=some v) (Qx:∀j v,vs[j]?=some v->w.cell? ⟨vb,vo+j,none⟩=some v) (h1v:∀v∈vs,v.oneCell'=true) :
  Calls Tryz.prog 158 #[.slice base n c,.int .i64 n,.slice (some ⟨vb,vo,none⟩) 1 vc] w λe w'=>e=.returned (.slice (some ⟨w.heap.size,0,none⟩) (n+1) (grownCap w (n+1) c 32)) /\
   w'=w.drew.alloc (.cells ((cs++vs).toArray++Builtin.zeroCells z.cells (grownCap w (n+1) c 32-(n+1))) 32):=by
 have hmm:maxLen<=9223372036854775807:=by unfold maxLen;omega
 have hsrc:Src Tryz.prog i0.size 30 (.slice (some ⟨vb,vo,none⟩) 1 vc) 1 vs w:=Src.ofSlice w Tryz.termsUnd ⟨vb,vo,none⟩ 1 vc vs (by rw[J4,hvl]) (λj u hj=>by rw[Addr.add_lit];exact Qx j u hj) h1v;have hold:(Builtin.firstCells i0.size n (.slice base n c)).run Tryz.prog w.drew=.ok cs.toArray w.drew:=by
  rw[J4];cases base with
  |none =>
   have h0:=hnil rfl;subst h0;have hc0:cs=[]:=List.length_eq_zero_iff.1 (by simpa using Gk);rw[hc0];exact run_firstCells_none w.drew 4 0 0 c
  |some a=>exact run_firstCells_some w.drew 4 n a n c cs Gk (λj v hj=>MA a rfl j v hj)
 have hrun:∀ty,(Builtin.append_ #[110,30] ty #[.slice base n c,.slice (some ⟨vb,vo,none⟩) 1 vc]).run Tryz.prog w=_:=λty =>
  run_append_grow_src w 110 30 ty 32 i0 z Tryz.setUnd hi0 hz0 base n c cs hold _ 1 vs hsrc BK (by omega) (growslice_fits BK hbig)
 generalize hG:grownCap w (n+1) c 32=G at *
 generalize hR:(cs++vs).toArray++Builtin.zeroCells z.cells (G-(n+1))=R at *
 clear hR hold hsrc hG
 go_enter Tryz.func158,Tryz.ntmps158
 cases base with
 |none =>
  have h0:=hnil rfl;subst h0
  go_wp2_with (at_builtin;refine Lib.wpList_append_run _ rfl _ _ _ _ rfl _ _ rfl rfl _ _ (hrun _) ?_)
  go_ret
  exact⟨rfl,rfl⟩
 |some a =>
  obtain⟨ab,ao,asp⟩:=a
  go_wp2_with (at_builtin;refine Lib.wpList_append_run _ rfl _ _ _ _ rfl _ _ rfl rfl _ _ (hrun _) ?_)
  all_goals (go_ret;exact⟨rfl,rfl⟩)
set_option maxHeartbeats 4000000 in
set_option maxRecDepth 100000 in
theorem Tryz.ins_shift (blk o n c i vb vo vc:Nat) (cur us1 us2:Array Value) (t:TypeId) (cs vs:List Value) (w:World) (hi:i<n) (BK:n+1<=c) (hm:c<=maxLen) (Gk:cs.length=n*4) (hvl:vs.length=4) (P4:vb≠blk)
  (hcur:w.heap[blk]?=some (.cells cur t (0,0))) (Dy:o+c*4<=cur.size) (hcc:∀j,j<n*4->cur[o+j]?=cs[j]?) (Qx:∀j v,vs[j]?=some v->w.cell? ⟨vb,vo+j,none⟩=some v) (h1c:∀v∈cs,v.oneCell'=true) (h1v:∀v∈vs,v.oneCell'=true)
  (hu1:us1=(cur.toList.take (o+(i+1)*4)++cs.drop (i*4)++cur.toList.drop (o+(i+1)*4+(cs.drop (i*4)).length)).toArray) (hu2:us2=(us1.toList.take (o+i*4)++vs++us1.toList.drop (o+i*4+vs.length)).toArray) :
  Calls Tryz.prog 158 #[.slice (some ⟨blk,o,none⟩) n c,.int .i64 i,.slice (some ⟨vb,vo,none⟩) 1 vc] w λe w'=>e=.returned (.slice (some ⟨blk,o,none⟩) (n+1) c)/\w'=(w.drew.setRow blk us1).setRow blk us2:=by
 have hmm:maxLen<=9223372036854775807:=by unfold maxLen;omega
 have hz2:¬((i:Int)=(n:Int)):=by omega
 have J4:(Tryz.prog.info? 32).map (·.size)=some 4:=by kernel_rfl
 have zz:∀w,(Go.sizeOf 32).run Tryz.prog w=.ok 4 w:=λw=>by
  cases hq:Tryz.prog.info? 32 with
  |none=>simp[hq]at J4
  |some i=>simp[hq]at J4;simp[Go.sizeOf,typeInfo,hq,J4]
 have hcs0:0<cur.size:=by omega
 have hv0:w.cell? ⟨vb,vo+0,none⟩=some vs[0]:=Qx 0 _ (A0a (by omega));obtain⟨curv,tv,frv,hcv,hcv0⟩:∃curv tv frv,w.heap[vb]?=some (.cells curv tv frv)/\0<curv.size:=by
  unfold World.cell? at hv0;split at hv0
  .rename_i a b c' h;refine⟨a,b,c',h,?_⟩;simp only[Option.isSome_none,A0x,if_false]at hv0;have:=(Array.getElem?_eq_some_iff.1 hv0).1;omega
  .cases hv0
 have hov:∀x lb cb,(callFunc 220 #[.slice (some ⟨vb,vo,none⟩) 1 vc,.slice (some ⟨blk,x,none⟩) lb cb]).run Tryz.prog w=.ok (.value (.bool false)) w:=λx lb cb=>by
  rw[run_callFunc_extern Tryz.func220 (by kernel_rfl) (by kernel_rfl) (by kernel_rfl) (e:=Extern.SlicesOverlaps.overlaps #[30,30] #[4]) (by kernel_rfl),
   Vd w 30 30 4 32 Tryz.termsUnd 4 zz ⟨vb,vo,none⟩ ⟨blk,x,none⟩ 1 vc lb cb P4 curv cur tv t frv hcv hcv0 hcur hcs0]
  rfl
 have Ds:(cs.drop (i*4)).length=(n-i)*4:=by rw[A0o,Gk,A09]
 have hcur':w.drew.heap[blk]?=some (.cells cur t (0,0)):=hcur;have hcp1:∀ty dc sc,(Builtin.copy_ #[110,110] ty #[.slice (some ⟨blk,o+(i+1)*4,none⟩) (n-i) dc,.slice (some ⟨blk,o+i*4,none⟩) (n+1-i) sc]).run Tryz.prog w.drew=.ok (goInt (n-i:Nat)) (w.drew.setRow blk us1):=λty dc sc=>by
  rw[hu1];exact QU w.drew _ _ ty 32 4 blk (o+(i+1)*4) (n-i) dc ⟨blk,o+i*4,none⟩ (n+1-i) sc (n-i) cur t (cs.drop (i*4)) Tryz.setUnd J4 hcur' (by simp only[A0y];split<;>omega) Ds
   (λj v hj=>by
    rw[Addr.add_lit,cell_of_row _ _ _ _ _ _ hcur'];rw[A0f]at hj;have hjn:i*4+j<n*4:=by have:=(A0k.1 hj).1;omega
    rw[A05,hcc _ hjn];exact hj) (by rw[Ds];omega) (λv hv=>h1c v (A0v hv))
 have hs1:us1.size=cur.size:=by rw[hu1];simp;omega
 have hW1:(w.drew.setRow blk us1).heap[blk]?=some (.cells us1 t (0,0)):=setRow_heap _ _ _ _ _ _ hcur';have hcp2:∀ty dc,(Builtin.copy_ #[110,30] ty #[.slice (some ⟨blk,o+i*4,none⟩) (n+1-i) dc,.slice (some ⟨vb,vo,none⟩) 1 vc]).run Tryz.prog (w.drew.setRow blk us1)=.ok (goInt (1:Nat)) ((w.drew.setRow blk us1).setRow blk us2):=λty dc=>by
  rw[hu2];exact QU (w.drew.setRow blk us1) _ _ ty 32 4 blk (o+i*4) (n+1-i) dc ⟨vb,vo,none⟩ 1 vc 1 us1 t vs Tryz.setUnd J4 hW1 (by simp only[A0y];split<;>omega) (by rw[hvl])
   (λj v hj=>by
    rw[Addr.add_lit,World.cell?_of_block (a:=⟨vb,vo+j,none⟩) (setRow_other _ _ _ _ P4)];exact Qx j v hj) (by rw[hvl,hs1];omega) h1v
 have mixed:Tryz.prog.follows Departure.mixedOrders=true:=by kernel_rfl
 have hw1:IntKind.i64.wrap ((i:Int)+1)=(i:Int)+1:=by rw[IntKind.wrap_i64];omega
 have hw2:IntKind.i64.wrap ((n:Int)+1)=(n:Int)+1:=by rw[IntKind.wrap_i64];omega
 have hb1:(0:Int)<=(i:Int)+1:=by omega
 have Xa:i<=n:=by omega
 have htn:((i:Int)+1).toNat=i+1:=by omega
 have htn2:((n:Int)+1).toNat=n+1:=by omega
 have hb2:¬(c=i+1):=by omega
 have hb3:(i:Int)<=(n:Int)+1:=by omega
 have hb4:¬(c=i):=by omega
 clear hu1 hu2 hv0 hcc h1c h1v Qx hcv hW1 Ds
 go_enter Tryz.func158,Tryz.ntmps158
 go_wp2_with (simp only[hov])
 go_region_law_o (refine step_copy_runI rfl _ _ 110 110 rfl _ _ (by simp[Act.eval,Act.put]) (by simp[Act.eval,Act.put]) (hcp1 _ _ _) ?_)
 go_wp2_with (at_builtin;refine wpList_copy_runI _ rfl _ _ 110 30 rfl _ _ rfl rfl (hcp2 _ _) ?_)
 go_ret
 exact⟨rfl,rfl⟩
theorem UH (w:World) (r us:Array Value) (t:TypeId):(w.alloc (.cells r t)).setRow w.heap.size us=w.alloc (.cells us t):=by
 unfold World.alloc World.setRow;congr 1;apply Array.ext_getElem?;intro k;simp only[Array.getElem?_modify,Array.getElem?_push];by_cases hk:w.heap.size=k
 .subst hk;simp
 .have:¬k=w.heap.size:=λe=>hk e.symm;simp[hk,this]
set_option maxHeartbeats 4000000 in
set_option maxRecDepth 100000 in
theorem Tryz.ins_grow (blk o n c i vb vo vc:Nat) (us1 us2:Array Value) (cs vs:List Value) (w:World) (i0:TypeInfo) (z:Value) (hi0:Tryz.prog.info? 32=some i0) (hz0:i0.zero=some z) (J4:i0.size=4) (hzs:z.cells.size=4) (hi:i<n) (hnc:n<=c) (BK:c<n+1) (hm:n+1<=maxLen) (hbig:(n+1)*i0.bytes<=140737488355328)
  (Gk:cs.length=n*4) (hvl:vs.length=4) (MA:∀j v,cs[j]?=some v->w.cell? ⟨blk,o+j,none⟩=some v) (Qx:∀j v,vs[j]?=some v->w.cell? ⟨vb,vo+j,none⟩=some v) (h1c:∀v∈cs,v.oneCell'=true) (h1v:∀v∈vs,v.oneCell'=true) (ROW:Array Value)
  (hROW:ROW=(cs.take (i*4)).toArray++Builtin.zeroCells z.cells (n+1-i)++Builtin.zeroCells z.cells (grownCap w (n+1) c 32-(n+1)))
  (hu1:us1=(ROW.toList.take (i*4)++vs++ROW.toList.drop (i*4+vs.length)).toArray) (hu2:us2=(us1.toList.take ((i+1)*4)++cs.drop (i*4)++us1.toList.drop ((i+1)*4+(cs.drop (i*4)).length)).toArray) :
  Calls Tryz.prog 158 #[.slice (some ⟨blk,o,none⟩) n c,.int .i64 i,.slice (some ⟨vb,vo,none⟩) 1 vc] w λe w'=>e=.returned (.slice (some ⟨w.heap.size,0,none⟩) (n+1) (grownCap w (n+1) c 32)) /\
   ∃q,w'=(w.drewN q).alloc (.cells us2 32):=by
 have hmm:maxLen<=9223372036854775807:=by unfold maxLen;omega
 have hz2:¬((i:Int)=(n:Int)):=by omega
 have hz3:(c:Int)<(n:Int)+1:=by omega
 have hszm:(Tryz.prog.info? 32).map (·.size)=some 4:=by rw[hi0];simp[J4]
 have zz:∀w,(Go.sizeOf 32).run Tryz.prog w=.ok 4 w:=λw=>by simp[Go.sizeOf,typeInfo,hi0,J4]
 have hbw:blk<w.heap.size:=block_lt_of_cell (MA 0 _ (A0a (by omega)));have hvw:vb<w.heap.size:=block_lt_of_cell (Qx 0 _ (A0a (by omega)));have hik:i+(n+1-i)=n+1:=by omega
 have TE:(n:Int)+1-(i:Int)=((n+1-i:Nat):Int):=by omega
 have hold:(Builtin.firstCells i0.size i (.slice (some ⟨blk,o,none⟩) i c)).run Tryz.prog w.drew=.ok (cs.take (i*4)).toArray w.drew:=by
  rw[J4];exact run_firstCells_some w.drew 4 i ⟨blk,o,none⟩ i c (cs.take (i*4)) (by rw[A0Z,Gk];omega) (λj v hj=>by
   rw[Addr.add_lit];rw[A0q]at hj;split at hj
   .exact MA j v hj
   .cases hj)
 have hrz:∀ty,(Builtin.append_ #[110,3] ty #[.slice (some ⟨blk,o,none⟩) i c,.int .i64 ((n:Int)+1-(i:Int))]).run Tryz.prog w =
   .ok (.slice (some ⟨w.heap.size,0,none⟩) (n+1) (grownCap w (n+1) c 32)) (w.drew.alloc (.cells ROW 32)):=λty=>by
  have h:=Lib.run_append_grow_zeros w 110 3 ty 32 i0 z .i64 .i64 Tryz.setUnd Tryz.intUnd hi0 hz0 (some ⟨blk,o,none⟩) i c (cs.take (i*4)) hold (n+1-i) (by omega) (by omega) (by omega) (by omega)
   (by
     have:(n+1-i)*i0.bytes<=(n+1)*i0.bytes:=A0w _ (by omega);omega) (by rw[hik];exact growslice_fits BK hbig)
  rw[hik,←hROW]at h;rw[TE];exact h
 obtain⟨G,hG⟩:∃G,G=grownCap w (n+1) c 32:=⟨_,rfl⟩;rw[←hG]at hrz hROW ⊢;have hGn:n+1<=G:=by rw[hG];exact grownCap_ge w _ _ _
 have hG63:G<=9223372036854775807:=by
  have:=grownCap_le_maxLen w (n+1) c 32 hm;rw[←hG]at this;omega
 have hRs:ROW.size=G*4:=by
  rw[hROW,A0b,A0b,size_zeroCells,size_zeroCells,hzs,A0n,A0Z,Gk];omega
 have hcur0:(w.drew.alloc (.cells ROW 32)).heap[w.heap.size]?=some (.cells ROW 32 (0,0)):=heap_alloc_new w.drew _;have hs1:us1.size=ROW.size:=by rw[hu1];simp;omega
 have hcell:∀(b j:Nat) (u:Value),b<w.heap.size->w.cell? ⟨b,j,none⟩=some u->∀r,(w.drew.alloc (.cells r 32)).cell? ⟨b,j,none⟩=some u:=λb j u hb hu r=>by
  rw[World.cell?_alloc_past (w:=w.drew) _ b j hb];exact hu
 have hcpA:∀ty dc,(Builtin.copy_ #[110,30] ty #[.slice (some ⟨w.heap.size,i*4,none⟩) (n+1-i) dc,.slice (some ⟨vb,vo,none⟩) 1 vc]).run Tryz.prog (w.alloc (.cells ROW 32)).drew=.ok (goInt (1:Nat)) (w.alloc (.cells us1 32)).drew:=λty dc=>by
  have h:=QU (w.drew.alloc (.cells ROW 32)) 110 30 ty 32 4 w.heap.size (i*4) (n+1-i) dc ⟨vb,vo,none⟩ 1 vc 1 ROW 32 vs Tryz.setUnd hszm hcur0 (by simp only[A0y];split<;>omega) (by rw[hvl])
   (λj v hj=>by rw[Addr.add_lit];exact hcell vb _ _ hvw (Qx j v hj) _) (by rw[hvl,hRs];omega) h1v
  rw[←hu1]at h;exact h.trans (congrArg _ (UH w.drew ROW us1 _))
 have hcur1:(w.drew.alloc (.cells us1 32)).heap[w.heap.size]?=some (.cells us1 32 (0,0)):=heap_alloc_new w.drew _;have Ds:(cs.drop (i*4)).length=(n-i)*4:=by rw[A0o,Gk,A09]
 have hcpB:∀ty dc sc,(Builtin.copy_ #[110,110] ty #[.slice (some ⟨w.heap.size,(i+1)*4,none⟩) (n-i) dc,.slice (some ⟨blk,o+i*4,none⟩) (n-i) sc]).run Tryz.prog (w.alloc (.cells us1 32)).drew.drew=.ok (goInt (n-i:Nat)) (w.alloc (.cells us2 32)).drew.drew:=λty dc sc=>by
  have h:=QU (w.drew.drew.alloc (.cells us1 32)) 110 110 ty 32 4 w.heap.size ((i+1)*4) (n-i) dc ⟨blk,o+i*4,none⟩ (n-i) sc (n-i) us1 32 (cs.drop (i*4)) Tryz.setUnd hszm hcur1 (by simp) Ds
   (λj v hj=>by
    rw[Addr.add_lit,A05];exact hcell blk _ _ hbw (MA _ v (by rwa [A0f]at hj)) _) (by rw[Ds,hs1,hRs];omega) (λv hv=>h1c v (A0v hv))
  rw[←hu2]at h;exact h.trans (congrArg _ (UH w.drew.drew us1 us2 _))
 have hW:∀r,(w.drew.alloc (.cells r 32)).drew=w.drew.drew.alloc (.cells r 32):=λr=>rfl;have mixed:Tryz.prog.follows Departure.mixedOrders=true:=by kernel_rfl
 have hGi:¬(G=i):=by omega
 have hGim:¬(G=i+1):=by omega
 have hci:¬(c=i):=by omega
 have hw1:IntKind.i64.wrap ((i:Int)+1)=(i:Int)+1:=by rw[IntKind.wrap_i64];omega
 have hw2:IntKind.i64.wrap ((n:Int)+1)=(n:Int)+1:=by rw[IntKind.wrap_i64];omega
 have hb1:(0:Int)<=(i:Int)+1:=by omega
 have Xa:i<=n:=by omega
 have htn:((i:Int)+1).toNat=i+1:=by omega
 have hb3:(i:Int)<=(n:Int):=by omega
 clear TE hik hold hROW hG hu1 hu2 hcell hcur0 hcur1 hRs hs1 Ds
 go_enter Tryz.func158,Tryz.ntmps158
 go_wp2_with (first
  |(at_builtin;refine Lib.wpList_append_run _ rfl _ _ _ _ rfl _ _ rfl rfl _ _ (hrz _) ?_)
  |(at_builtin;refine wpList_copy_runI _ rfl _ _ 110 30 rfl _ _ rfl rfl (hcpA _ _) ?_))
 go_region_law_o (refine step_copy_runI rfl _ _ 110 110 rfl (.slice (some ⟨w.heap.size,(i+1)*4,none⟩) (n-i) (G-(i+1))) (.slice (some ⟨blk,o+i*4,none⟩) (n-i) (c-i)) (by simp[Act.eval,Act.put]) (by simp[Act.eval,Act.put]) (hcpB _ _ _) ?_)
 go_wp2
 go_ret
 exact⟨rfl,2,rfl⟩
end Go.Proofs
namespace Go.Abs
theorem Ot {α:Type} {cs vs:List α} {A:Nat} (hA:A<=cs.length) (j:Nat):(cs.take A++vs++cs.drop A)[j]?=if j<A then cs[j]? else if j<A+vs.length then vs[j-A]? else cs[j-vs.length]?:=by
 by_cases h1:j<A
 .rw[if_pos h1,A0j (by rw[A0c,A0Z];omega),A0j (by rw[A0Z];omega),A0q,if_pos h1]
 .rw[if_neg h1];by_cases h2:j<A+vs.length
  .rw[if_pos h2,A0j (by rw[A0c,A0Z];omega),A0r (by rw[A0Z];omega),A0Z,A03 hA]
  .rw[if_neg h2,A0r (by rw[A0c,A0Z];omega),A0c,A0Z,A03 hA,A0f];congr 1;omega
theorem QX {cur us:Array Value} {vs:List Value} {off:Nat} (Dy:off+vs.length<=cur.size) (WV:us=(cur.toList.take off++vs++cur.toList.drop (off+vs.length)).toArray) (j:Nat):us[j]?=if j<off then cur[j]? else if j<off+vs.length then vs[j-off]? else cur[j]?:=by
 have:=Kw (l:=cur.toList) (off:=off) (vs:=vs) (by simpa using Dy) j;simp only[Array.getElem?_toList]at this;rw[WV,A0h,this]
theorem wM {cur us:Array Value} {cs vs:List Value} {o N:Nat} (Gk:cs.length=N) (hcc:∀j,j<N->cur[o+j]?=cs[j]?) (Dy:o+N+vs.length<=cur.size) (WV:us=(cur.toList.take (o+N)++vs++cur.toList.drop (o+N+vs.length)).toArray) :
  ∀j,j<N+vs.length->us[o+j]?=(cs.take N++vs++cs.drop N)[j]?:=by
 intro j hj;rw[QX Dy WV,Ot (by omega)];by_cases h1:j<N
 .rw[if_pos (by omega),if_pos h1,hcc j h1]
 .rw[if_neg (by omega),if_pos (by omega),if_neg h1,if_pos hj];congr 1;omega
theorem wN {cur us1 us2:Array Value} {cs vs:List Value} {o N A:Nat} (Gk:cs.length=N) (hA:A<=N) (hcc:∀j,j<N->cur[o+j]?=cs[j]?) (Dy:o+N+vs.length<=cur.size)
  (hu1:us1=(cur.toList.take (o+(A+vs.length))++cs.drop A++cur.toList.drop (o+(A+vs.length)+(cs.drop A).length)).toArray) (hu2:us2=(us1.toList.take (o+A)++vs++us1.toList.drop (o+A+vs.length)).toArray) :
  us2.size=cur.size/\∀j,j<N+vs.length->us2[o+j]?=(cs.take A++vs++cs.drop A)[j]?:=by
 have hd:(cs.drop A).length=N-A:=by rw[A0o,Gk]
 have hs1:us1.size=cur.size:=by rw[hu1];simp;omega
 refine⟨by rw[hu2];simp;omega,λj hj=>?_⟩;rw[QX (by omega) hu2,Ot (by omega)];by_cases h1:j<A
 .rw[if_pos (by omega),if_pos h1,QX (by omega) hu1,if_pos (by omega),hcc j (by omega)]
 .rw[if_neg (by omega),if_neg h1];by_cases h2:j<A+vs.length
  .rw[if_pos (by omega),if_pos h2];congr 1;omega
  .rw[if_neg (by omega),if_neg h2,QX (by omega) hu1,if_neg (by omega),if_pos (by omega),A0f];congr 1;omega
end Go.Abs
namespace Go.Proofs
open Go.RowKit Go.Lib Go.Abs
set_option maxRecDepth 100000 in
theorem Tryz.insLaw:InsLaw Tryz.prog 158 4 56:=by
 obtain⟨i0,z,hi0,J4,hz0,hzs,hby⟩:∃i0 z,Tryz.prog.info? 32=some i0/\i0.size=4/\i0.zero=some z/\z.cells.size=4/\i0.bytes=56:=⟨_,_,rfl,by kernel_rfl,rfl,by kernel_rfl,by kernel_rfl⟩;refine⟨by omega,by kernel_rfl,?_,?_⟩
 .intro w blk o n c i vb vo vc cur t cs vs Xa hnc hcm Gk hvl hcur hcc Dy Qx P4 h1c h1v;rcases A06 i n with A7|hge
  .obtain⟨us1,hu1⟩:∃us1,us1=(cur.toList.take (o+(i+1)*4)++cs.drop (i*4)++cur.toList.drop (o+(i+1)*4+(cs.drop (i*4)).length)).toArray:=⟨_,rfl⟩;obtain⟨us2,hu2⟩:∃us2,us2=(us1.toList.take (o+i*4)++vs++us1.toList.drop (o+i*4+vs.length)).toArray:=⟨_,rfl⟩;have h:=wN (o:=o) (A:=i*4) (vs:=vs) Gk (A0w _ Xa) hcc (by omega) (by rw[hvl,←A07];exact hu1) hu2;rw[hvl,←A07]at h;exact(Tryz.ins_shift blk o n c i vb vo vc cur us1 us2 t cs vs w A7 hnc hcm Gk hvl P4 hcur Dy hcc Qx h1c h1v hu1 hu2).mono λe w' ⟨h1,h2⟩=>⟨h1,1,us2,h2.trans (setRow_setRow _ _ _ _),h⟩
  .have e:i=n:=by omega
   subst e;obtain⟨us,WV⟩:∃us,us=(cur.toList.take (o+i*4)++vs++cur.toList.drop (o+i*4+vs.length)).toArray:=⟨_,rfl⟩;have h:=wM (o:=o) (vs:=vs) Gk hcc (by omega) WV;refine(Tryz.ins_end_room blk o i c vb vo vc cur t vs w hnc hcm hvl hcur Dy Qx h1v us WV).mono λe w' ⟨h1,h2⟩=>⟨h1,0,us,h2,?_,?_⟩
   .rw[WV];simp;omega
   .intro j hj;exact h j (by omega)
 .intro w base n c i vb vo vc cs vs Xa hnc BK hm hbig Gk hvl hnil MA Qx h1c h1v;have hbig':(n+1)*i0.bytes<=140737488355328:=by rw[hby];exact hbig
  have hG1:=grownCap_ge w (n+1) c 32;have hG2:=grownCap_le_maxLen w (n+1) c 32 hm;rcases A06 i n with A7|hge
  .cases base with
   |none=>exact absurd (hnil rfl) (by omega)
   |some a =>
    obtain⟨blk,o,sp⟩:=a;obtain⟨hsp,MA⟩:=MA _ rfl;have:=hsp (by omega);simp only at this;subst this;have hcs':∀j v,cs[j]?=some v->w.cell? ⟨blk,o+j,none⟩=some v:=λj v hj=>by
     have:=MA j v hj
     rwa [FZ]at this
    obtain⟨ROW,hROW⟩:∃ROW,ROW=(cs.take (i*4)).toArray++Builtin.zeroCells z.cells (n+1-i)++Builtin.zeroCells z.cells (grownCap w (n+1) c 32-(n+1)):=⟨_,rfl⟩;obtain⟨us1,hu1⟩:∃us1,us1=(ROW.toList.take (i*4)++vs++ROW.toList.drop (i*4+vs.length)).toArray:=⟨_,rfl⟩;obtain⟨us2,hu2⟩:∃us2,us2=(us1.toList.take ((i+1)*4)++cs.drop (i*4)++us1.toList.drop ((i+1)*4+(cs.drop (i*4)).length)).toArray:=⟨_,rfl⟩;have hRs:ROW.size=grownCap w (n+1) c 32*4:=by
     rw[hROW,A0b,A0b,size_zeroCells,size_zeroCells,hzs,A0n,A0Z,Gk];omega
    have hR0:∀j,j<i*4->ROW[j]?=cs[j]?:=λj hj=>by
     rw[hROW,A0d (by simp;omega),A0d (by simp;omega),A0h,A0q,if_pos hj]
    have hs1:us1.size=ROW.size:=by rw[hu1];simp;omega
    have hd:(cs.drop (i*4)).length=n*4-i*4:=by rw[A0o,Gk]
    refine(Tryz.ins_grow blk o n c i vb vo vc us1 us2 cs vs w i0 z hi0 hz0 J4 hzs A7 hnc BK hm hbig' Gk hvl hcs' Qx h1c h1v ROW hROW hu1 hu2).mono λe w' ⟨h1,q,h2⟩=>⟨q,_,us2,_,h1,h2,hG1,hG2,?_,?_⟩
    .rw[hu2];simp;omega
    .intro j hj;rw[QX (by omega) hu2,Ot (by omega),hvl];by_cases h1:j<i*4
     .rw[if_pos (by omega),if_pos h1,QX (by omega) hu1,if_pos h1,hR0 j h1]
     .rw[if_neg h1];by_cases h2:j<i*4+4
      .rw[if_pos (by omega),if_pos h2,QX (by omega) hu1,if_neg h1,if_pos (by omega)]
      .rw[if_neg (by omega),if_neg h2,if_pos (by omega),A0f];congr 1;omega
  .have e:i=n:=by omega
   subst e;refine(Tryz.ins_end_grow base i c vb vo vc cs vs w i0 z hi0 hz0 J4 hnc BK hm hbig' Gk hvl hnil (λa ha=>(MA a ha).2) Qx h1v).mono λe w' ⟨h1,h2⟩=>⟨1,_,_,_,h1,h2,hG1,hG2,?_,?_⟩
   .rw[A0b,size_zeroCells,hzs,A0n,A0c,Gk,hvl];omega
   .intro j hj;rw[A0d (by simp;omega),A0h,A0g (by omega),List.drop_eq_nil_of_le (by omega),A0s]
end Go.Proofs
namespace Go.Abs
open Go.RowKit (Below)
section
variable {P:Program} {E:Env}
structure InsLaw0 (P:Program) (f:FuncId) (K bytes:Nat):Prop where
 pos:0<K
 enter:Program.enterable P f=true
 newR:∀(w:World) (base:Option Addr) (vb vo vc:Nat) (vs:List Value),bytes<=H3->vs.length=K->(∀j v,vs[j]?=some v->w.cell? ⟨vb,vo+j,none⟩=some v)->(∀v∈vs,v.oneCell'=true) ->
  Calls P f #[.slice base 0 0,.int .i64 0,.slice (some ⟨vb,vo,none⟩) 1 vc] w λe w'=>∃(q G:Nat) (us:Array Value) (t:TypeId),e=.returned (.slice (some ⟨w.heap.size,0,none⟩) 1 G)/\w'=(w.drewN q).alloc (.cells us t)/\1<=G/\G<=maxLen/\G*K<=us.size /\
   ∀j,j<K->us[j]?=vs[j]?
theorem ik {f:FuncId} {K bytes:Nat} (L:InsLaw0 P f K bytes) (O:Orc) (args:G6) (h:AH) (r:AV) (h':AH) (he:(lL K bytes).run O args h=some (r,h')):Program.enterable P f=true /\
  ∀(E:Env) (vs:Array Value),SR E->E.h=h->Bm E args vs.toList ->
   Calls P f vs E.w λe w'=>∃u E',e=.returned u/\w'=E'.w/\Ext E E'/\SR E'/\E'.h=h'/\VR E' r u:=by
 refine⟨L.enter,λE avs hS hh hv=>?_⟩;subst hh;change UP K bytes args E.h=some (r,h')at he;unfold UP at he;split at he
 .rename_i z' i0 x0;unfold QC at he;split at he
  .rename_i s i q z x heq;cases heq;split at he
   .rename_i hc0;obtain⟨hzK,hag⟩:=hc0;obtain⟨avs⟩:=avs;simp only[Bm]at hv;obtain⟨v0,_,rfl,hv0,v1,_,rfl,hv1,v2,_,rfl,hv2,rfl⟩:=hv;simp only[VR]at hv1;subst hv1;obtain⟨vb,vo,vc,vs,rfl,hvl,hvc,hv1c,hvr,hK⟩:=aL hS hzK hv2;have hvc1:∀j u,vs[j]?=some u->E.w.cell? ⟨vb,vo+j,none⟩=some u:=λj u hu=>(hvc j u hu).1;simp only at he;split at he
    .rename_i hc;obtain⟨rfl,hb⟩:=hc;cases he;simp only[VR,PV]at hv0;obtain⟨base,len,cap,rfl,rfl,_,_,h4',_,_⟩:=hv0;have hcap:cap=0:=h4' trivial;subst hcap;refine(L.newR E.w base vb vo vc vs hb hvl hvc1 hv1c).mono λe w' ⟨q,G,us,te,h1,h2,h3,h4,h5,h6⟩=>?_;have x1:=Br hS (IN E.w q);have s1:=HV hS (IN E.w q);refine⟨_,({E with w:=E.w.drewN q}:Env).newFam us te G ⟨[x],K,true⟩,h1,h2,x1.trans (Kl s1 _ _ _ _),Pf s1 hK (by simpa using h3) h4 h5 (λj y hy=>?_),rfl,?_⟩
     .obtain⟨g1,g2⟩:=RB x1 hvr j y hy;refine⟨g1,λc y' hy'=>?_⟩;obtain⟨v,v1,v2⟩:=g2 c y' hy';have hjn:j=0:=by have:=(A0k.1 hy).1;simpa using this
      have hcK:c<K:=by have:=(A0k.1 hy').1;omega
      subst hjn;rw[Nat.zero_mul,A0p]at v1 ⊢;exact⟨v,by rw[h6 _ hcK];exact v1,v2⟩
     .simp only[VR,Env.newFam,w6];exact⟨_,_,⟨[x],K,true⟩,rfl,by simp,⟨by simp,λ_=>⟨_,_,rfl⟩⟩,λ_=>⟨A0z _,by simp,by simp,(λh=>nomatch h),λ_=>by simp⟩⟩
    .cases he
   .cases he
  .cases he
 .cases he
structure GrowLaw (P:Program) (f:FuncId) (K bytes:Nat):Prop where
 pos:0<K
 enter:Program.enterable P f=true
 zero:∀(w:World) (base:Option Addr),Calls P f #[.slice base 0 0,.int .i64 0] w λe w'=>e=.returned (.slice base 0 0)/\w'=w
 some:∀(w:World) (base:Option Addr) (n:Nat),0<n->n*bytes<=H3->n<=maxLen ->
  Calls P f #[.slice base 0 0,.int .i64 n] w λe w'=>∃(q G:Nat) (us:Array Value) (t:TypeId),e=.returned (.slice (some ⟨w.heap.size,0,none⟩) 0 G)/\w'=(w.drewN q).alloc (.cells us t)/\G<=maxLen/\G*K<=us.size
theorem ij {f:FuncId} {K bytes:Nat} (L:GrowLaw P f K bytes) (O:Orc) (args:G6) (h:AH) (r:AV) (h':AH) (he:(Zu K bytes).run O args h=some (r,h')):Program.enterable P f=true /\
  ∀(E:Env) (vs:Array Value),SR E->E.h=h->Bm E args vs.toList ->
   Calls P f vs E.w λe w'=>∃u E',e=.returned u/\w'=E'.w/\Ext E E'/\SR E'/\E'.h=h'/\VR E' r u:=by
 refine⟨L.enter,λE avs hS hh hv=>?_⟩;subst hh;change SY K bytes args E.h=some (r,h')at he;unfold SY at he;split at he
 .rename_i z n;obtain⟨avs⟩:=avs;simp only[Bm]at hv;obtain⟨v0,_,rfl,hv0,v1,_,rfl,hv1,rfl⟩:=hv;simp only[VR]at hv1;subst hv1;have hv0':=hv0;simp only[VR,PV]at hv0;obtain⟨base,len,cap,rfl,rfl,_,_,h4',_,_⟩:=hv0;have hcap:cap=0:=h4' trivial;subst hcap;split at he
  .rename_i h0;subst h0;cases he;exact(L.zero E.w base).mono λe w' ⟨h1,h2⟩=>⟨_,E,h1,h2,Ext.refl E,hS,rfl,hv0'⟩
  .split at he
   .rename_i hc;obtain⟨c1,c2,c3⟩:=hc;cases he;obtain⟨m,rfl⟩:∃m:Nat,n=m:=⟨n.toNat,by omega⟩;refine(L.some E.w base m (by omega) (by exact_mod_cast c2) (by exact_mod_cast c3)).mono λe w' ⟨q,G,us,te,h1,h2,h3,h4⟩=>?_;have x1:=Br hS (IN E.w q);have s1:=HV hS (IN E.w q);refine⟨_,({E with w:=E.w.drewN q}:Env).newFam us te G ⟨[],K,false⟩,h1,h2,x1.trans (Kl s1 _ _ _ _),Pf s1 L.pos (A0z _) h3 h4 (λj y hy=>by simp at hy),rfl,?_⟩
    simp only[VR,Env.newFam,w6];exact⟨_,_,⟨[],K,false⟩,rfl,by simp,⟨by simp,λh=>absurd rfl h⟩,λ_=>⟨A0z _,by simp,by simp,(λh=>nomatch h),λ_=>by simp⟩⟩
   .cases he
 .cases he
end
end Go.Abs
set_option linter.unusedVariables false
set_option linter.unusedSimpArgs false
namespace Go.Proofs
open Go.RowKit Go.Lib Go.Abs
theorem Tryz.powsUnd:Tryz.prog.underlying 163=some (.slice 167):=by kernel_rfl
set_option maxHeartbeats 4000000 in
set_option maxRecDepth 100000 in
theorem Tryz.insp_nil (base:Option Addr) (vb vo vc:Nat) (vs:List Value) (w:World) (i0:TypeInfo) (z:Value) (hi0:Tryz.prog.info? 167=some i0) (hz0:i0.zero=some z) (J4:i0.size=5) (hbig:i0.bytes<=140737488355328)
  (hvl:vs.length=5) (Qx:∀j v,vs[j]?=some v->w.cell? ⟨vb,vo+j,none⟩=some v) (h1v:∀v∈vs,v.oneCell'=true) :
  Calls Tryz.prog 311 #[.slice base 0 0,.int .i64 0,.slice (some ⟨vb,vo,none⟩) 1 vc] w λe w'=>e=.returned (.slice (some ⟨w.heap.size,0,none⟩) 1 (grownCap w 1 0 167)) /\
   w'=w.drew.alloc (.cells (vs.toArray++Builtin.zeroCells z.cells (grownCap w 1 0 167-1)) 167):=by
 have hsrc:Src Tryz.prog i0.size 163 (.slice (some ⟨vb,vo,none⟩) 1 vc) 1 vs w:=Src.ofSlice w Tryz.powsUnd ⟨vb,vo,none⟩ 1 vc vs (by rw[J4,hvl]) (λj u hj=>by rw[Addr.add_lit];exact Qx j u hj) h1v;have hold:(Builtin.firstCells i0.size 0 (.slice base 0 0)).run Tryz.prog w.drew=.ok ([]:List Value).toArray w.drew:=by
  rw[J4];cases base with
  |none=>exact run_firstCells_none w.drew 5 0 0 0
  |some a=>exact run_firstCells_some w.drew 5 0 a 0 0 [] rfl (λj v hj=>by simp at hj)
 have hrun:∀ty,(Builtin.append_ #[163,163] ty #[.slice base 0 0,.slice (some ⟨vb,vo,none⟩) 1 vc]).run Tryz.prog w=_:=λty =>
  run_append_grow_src w 163 163 ty 167 i0 z Tryz.powsUnd hi0 hz0 base 0 0 [] hold _ 1 vs hsrc (by omega) (by omega) (growslice_fits (by omega) (by rw[A0p,Nat.one_mul];exact hbig))
 rw[A0p,List.nil_append]at hrun;generalize hG:grownCap w 1 0 167=G at *
 generalize hR:vs.toArray++Builtin.zeroCells z.cells (G-1)=R at *
 clear hR hold hsrc hG
 go_enter Tryz.func311,Tryz.ntmps311
 cases base with
 |none =>
  go_wp2_with (at_builtin;refine Lib.wpList_append_run _ rfl _ _ _ _ rfl _ _ rfl rfl _ _ (hrun _) ?_)
  go_ret
  exact⟨rfl,rfl⟩
 |some a =>
  obtain⟨ab,ao,asp⟩:=a
  go_wp2_with (at_builtin;refine Lib.wpList_append_run _ rfl _ _ _ _ rfl _ _ rfl rfl _ _ (hrun _) ?_)
  all_goals (go_ret;exact⟨rfl,rfl⟩)
set_option maxRecDepth 100000 in
theorem Tryz.insLawP:InsLaw0 Tryz.prog 311 5 64:=by
 obtain⟨i0,z,hi0,J4,hz0,hzs,hby⟩:∃i0 z,Tryz.prog.info? 167=some i0/\i0.size=5/\i0.zero=some z/\z.cells.size=5/\i0.bytes=64:=⟨_,_,rfl,by kernel_rfl,rfl,by kernel_rfl,by kernel_rfl⟩;refine⟨by omega,by kernel_rfl,?_⟩;intro w base vb vo vc vs hb hvl Qx h1v;have hG1:=grownCap_ge w 1 0 167;have hG2:=grownCap_le_maxLen w 1 0 167 (by unfold maxLen;omega);refine(Tryz.insp_nil base vb vo vc vs w i0 z hi0 hz0 J4 (by rw[hby];omega) hvl Qx h1v).mono λe w' ⟨h1,h2⟩=>⟨1,_,_,_,h1,h2,hG1,hG2,?_,?_⟩
 .rw[A0b,size_zeroCells,hzs,A0n,hvl];omega
 .intro j hj;rw[A0d (by simp;omega),A0h]
set_option maxHeartbeats 4000000 in
set_option maxRecDepth 100000 in
theorem Tryz.growZero (base:Option Addr) (w:World):Calls Tryz.prog 147 #[.slice base 0 0,.int .i64 0] w λe w'=>e=.returned (.slice base 0 0)/\w'=w:=by
 go_enter Tryz.func147,Tryz.ntmps147
 go_wp2
 go_ret
 exact⟨rfl,rfl⟩
set_option maxHeartbeats 4000000 in
set_option maxRecDepth 100000 in
theorem Tryz.growSome (base:Option Addr) (n:Nat) (w:World) (i0:TypeInfo) (z:Value) (hi0:Tryz.prog.info? 32=some i0) (hz0:i0.zero=some z) (J4:i0.size=4) (h0:0<n) (hm:n<=maxLen) (hbig:n*i0.bytes<=140737488355328) :
  Calls Tryz.prog 147 #[.slice base 0 0,.int .i64 n] w λe w'=>e=.returned (.slice (some ⟨w.heap.size,0,none⟩) 0 (grownCap w n 0 32)) /\
   w'=w.drew.alloc (.cells (Builtin.zeroCells z.cells n++Builtin.zeroCells z.cells (grownCap w n 0 32-n)) 32):=by
 have hmm:maxLen<=9223372036854775807:=by unfold maxLen;omega
 have mixed:Tryz.prog.follows Departure.mixedOrders=true:=by kernel_rfl
 have hold:(Builtin.firstCells i0.size 0 (.slice base 0 0)).run Tryz.prog w.drew=.ok ([]:List Value).toArray w.drew:=by
  rw[J4];cases base with
  |none=>exact run_firstCells_none w.drew 4 0 0 0
  |some a=>exact run_firstCells_some w.drew 4 0 a 0 0 [] rfl (λj v hj=>by simp at hj)
 have hrz:∀ty,(Builtin.append_ #[30,3] ty #[.slice base 0 0,.int .i64 (n:Int)]).run Tryz.prog w =
   .ok (.slice (some ⟨w.heap.size,0,none⟩) n (grownCap w n 0 32)) (w.drew.alloc (.cells (Builtin.zeroCells z.cells n++Builtin.zeroCells z.cells (grownCap w n 0 32-n)) 32)):=λty=>by
  have h:=Lib.run_append_grow_zeros w 30 3 ty 32 i0 z .i64 .i64 Tryz.termsUnd Tryz.intUnd hi0 hz0 base 0 0 [] hold n (by omega) (by omega) (by omega) (by omega) (by omega)
   (by rw[A0p];exact growslice_fits (need:=n) (by omega) hbig)
  rw[A0p]at h;simpa using h
 have hG63:grownCap w n 0 32<=9223372036854775807:=by
  have:=grownCap_le_maxLen w n 0 32 hm;omega
 generalize hG:grownCap w n 0 32=G at *
 generalize hR:Builtin.zeroCells z.cells n++Builtin.zeroCells z.cells (G-n)=R at *
 have h1:¬((n:Int)<0):=by omega
 have h2:wrap64 (n:Int)=(n:Int):=by unfold wrap64;omega
 have h4:(n:Int) > 0:=by omega
 clear hR hold hG
 go_enter Tryz.func147,Tryz.ntmps147
 cases base with
 |none =>
  go_wp2_with (at_builtin;refine Lib.wpList_append_run _ rfl _ _ _ _ rfl _ _ rfl rfl _ _ (hrz _) ?_)
  all_goals (go_ret;exact⟨rfl,rfl⟩)
 |some a =>
  obtain⟨ab,ao,asp⟩:=a
  go_wp2_with (at_builtin;refine Lib.wpList_append_run _ rfl _ _ _ _ rfl _ _ rfl rfl _ _ (hrz _) ?_)
  all_goals (go_ret;exact⟨rfl,rfl⟩)
set_option maxRecDepth 100000 in
theorem Tryz.growLaw:GrowLaw Tryz.prog 147 4 56:=by
 obtain⟨i0,z,hi0,J4,hz0,hzs,hby⟩:∃i0 z,Tryz.prog.info? 32=some i0/\i0.size=4/\i0.zero=some z/\z.cells.size=4/\i0.bytes=56:=⟨_,_,rfl,by kernel_rfl,rfl,by kernel_rfl,by kernel_rfl⟩;refine⟨by omega,by kernel_rfl,λw base=>Tryz.growZero base w,λw base n h0 hb hm=>?_⟩;have hG1:=grownCap_ge w n 0 32;refine(Tryz.growSome base n w i0 z hi0 hz0 J4 h0 hm (by rw[hby];exact hb)).mono λe w' ⟨h1,h2⟩=>⟨1,_,_,_,h1,h2,grownCap_le_maxLen w n 0 32 hm,?_⟩;rw[A0b,size_zeroCells,size_zeroCells,hzs];omega
end Go.Proofs
namespace Go.Proofs
set_option maxHeartbeats 1000000 in
set_option maxRecDepth 100000 in
theorem Tryz.cmpString (a b:ByteArray) (w:World) :
  Calls Tryz.prog 134 #[.string a,.string b] w λe w'=>e=.returned (.int .i64 (Lib.compareBytes a.data.toList b.data.toList))/\w'=w:=by
 go_enter Tryz.func134,Tryz.ntmps134
 go_wp2
 rw[run_callFunc_extern Tryz.func187 (by kernel_rfl) (by kernel_rfl) (by kernel_rfl) (e:=Extern.BytealgCompare.compare) (by kernel_rfl),Lib.run_compareString];simp only[Result.andThen];rw[Oper.upon_value]
 go_wp2
 go_ret
 exact⟨rfl,rfl⟩
set_option maxHeartbeats 1000000 in
set_option maxRecDepth 100000 in
theorem Tryz.sliteIndexByte (s:ByteArray) (c:Int) (w:World) :
  Calls Tryz.prog 359 #[.string s,.int .u8 c] w λe w'=>e=.returned (.int .i64 (Lib.indexByte s.data.toList c.toNat.toUInt8))/\w'=w:=by
 go_enter Tryz.func359,Tryz.ntmps359
 go_wp2
 rw[run_callFunc_extern Tryz.func391 (by kernel_rfl) (by kernel_rfl) (by kernel_rfl) (e:=Extern.BytealgIndexByte.indexByte) (by kernel_rfl),Lib.run_indexByteString];simp only[Result.andThen];rw[Oper.upon_value]
 go_wp2
 go_ret
 exact⟨rfl,rfl⟩
set_option maxHeartbeats 2000000 in
set_option maxRecDepth 100000 in
theorem Tryz.sliteIndexOne (s:ByteArray) (c:UInt8) (w:World) :
  Calls Tryz.prog 304 #[.string s,.string ⟨#[c]⟩] w λe w'=>e=.returned (.int .i64 (Lib.indexByte s.data.toList c))/\w'=w:=by
 go_enter Tryz.func304,Tryz.ntmps304
 go_wp2_with (go_at_call 359;refine(Tryz.sliteIndexByte _ _ _).mono ?_;rintro e w' ⟨rfl,rfl⟩)
 .have h:([c] == s.toList)=true:=by assumption
  go_ret
  refine⟨?_,rfl⟩;have e:s.data.toList=[c]:=by rw[←Lib.toList_data];exact(beq_iff_eq.1 h).symm
  rw[e];simp[Lib.indexByte]
 .go_ret
  exact⟨rfl,rfl⟩
set_option maxHeartbeats 1000000 in
theorem Tryz.stringsIndexOne (s:ByteArray) (c:UInt8) (w:World) :
  Calls Tryz.prog 249 #[.string s,.string ⟨#[c]⟩] w λe w'=>e=.returned (.int .i64 (Lib.indexByte s.data.toList c))/\w'=w:=by
 go_enter Tryz.func249,Tryz.ntmps249
 go_wp2_with (go_at_call 304;refine(Tryz.sliteIndexOne _ _ _).mono ?_;rintro e w' ⟨rfl,rfl⟩)
 go_ret
 exact⟨rfl,rfl⟩
set_option maxHeartbeats 1000000 in
theorem Tryz.stringsContainsOne (s:ByteArray) (c:UInt8) (w:World) :
  Calls Tryz.prog 195 #[.string s,.string ⟨#[c]⟩] w λe w'=>e=.returned (.bool (decide (0<=Lib.indexByte s.data.toList c)))/\w'=w:=by
 go_enter Tryz.func195,Tryz.ntmps195
 go_wp2_with (go_at_call 249;refine(Tryz.stringsIndexOne _ _ _).mono ?_;rintro e w' ⟨rfl,rfl⟩)
 go_ret
 exact⟨rfl,rfl⟩
end Go.Proofs
namespace Go.Abs.Q
open Go.Proofs
open Go.RowKit (Below)
theorem XN:∀(a b:List UInt8),Lib.compareBytes a b=if Op.bytesLess a b then -1 else if a=b then 0 else 1
 | [],[]=>by simp[Lib.compareBytes,Op.bytesLess]
 | [],_::_=>by simp[Lib.compareBytes,Op.bytesLess]
 |_::_,[]=>by simp[Lib.compareBytes,Op.bytesLess]
 |x::a,y::b=>by
  simp only[Lib.compareBytes,Op.bytesLess,XN a b];by_cases h:x<y
  .simp[h]
  .by_cases h':y<x
   .have P4:x≠y:=λe=>h (e ▸ h');simp[h,h',P4]
   .have he:x=y:=by
     apply UInt8.le_antisymm
     .exact UInt8.not_lt.1 h'
     .exact UInt8.not_lt.1 h
    subst he;simp[h]
theorem eE (a b:J1):V6 a b=Lib.compareBytes a.data.toList b.data.toList:=by
 rw[XN,V6,Lib.toList_data,Lib.toList_data]
theorem TF (c:UInt8):∀l:List UInt8,0<=Lib.indexByte l c↔c∈l
 | []=>by simp[Lib.indexByte]
 |b::l=>by
  have ih:=TF c l;have hge:=Lib.indexByte_ge l c;by_cases h:b=c
  .subst h;simp[Lib.indexByte]
  .have h1:Lib.indexByte (b::l) c=if Lib.indexByte l c=-1 then -1 else Lib.indexByte l c+1:=by
    simp[Lib.indexByte,h]
   have h2:¬c=b:=λe=>h e.symm;rw[h1,A04];by_cases h3:Lib.indexByte l c=-1
   .rw[if_pos h3];constructor
    .intro k;omega
    .rintro(k|k)
     .exact absurd k h2
     .have:=ih.2 k;omega
   .rw[if_neg h3];constructor
    .intro k;exact .inr (ih.1 (by omega))
    .intro k;omega
theorem ZA (l:List UInt8) (c:UInt8):decide (0<=Lib.indexByte l c)=l.contains c:=by
 rw[Bool.eq_iff_iff,decide_eq_true_iff,TF];simp
theorem mixed:Tryz.prog.follows .mixedOrders=true:=by kernel_rfl
theorem wL (f:FuncId) (s:RSpec) (h:Ya f=some s):(f=E1/\s=ap 4)\/(f=N6/\s=mw 4 56)\/(f=O8/\s=lL 5 64)\/(f=Q3/\s=Zu 4 56):=by
 unfold Ya at h;split at h
 .rename_i hf;cases h;exact .inl ⟨hf,rfl⟩
 .split at h
  .rename_i hf;cases h;exact .inr (.inl ⟨hf,rfl⟩)
  .split at h
   .rename_i hf;cases h;exact .inr (.inr (.inl ⟨hf,rfl⟩))
   .split at h
    .rename_i hf;cases h;exact .inr (.inr (.inr ⟨hf,rfl⟩))
    .cases h
theorem QS:CfgS Tryz.prog Q:=by
 refine⟨λf rf h=>?_,λf s hs args r hr=>?_,mixed,λf s hs O hP args h r h' he=>?_⟩
 .have h1:BU f=some rf:=(RA f).symm.trans h;unfold BU at h1;split at h1
  .cases h1
  .exact h1
 rotate_left 1
 .have hs':Ya f=some s:=hs;rcases wL f s hs' with ⟨rfl,rfl⟩|⟨rfl,rfl⟩|⟨rfl,rfl⟩|⟨rfl,rfl⟩
  .exact kL Tryz.sortLays (by kernel_rfl) 4 Tryz.isAgg32 Tryz.sizeOf32 hP args h r h' he
  .exact my Tryz.insLaw O args h r h' he
  .exact ik Tryz.insLawP O args h r h' he
  .exact ij Tryz.growLaw O args h r h' he
 have hs':Qu f=some s:=(VE f).symm.trans hs;unfold Qu at hs';split at hs'
 .rename_i hf;subst hf;cases hs';unfold dK at hr;split at hr
  .rename_i a b;cases hr;refine⟨by kernel_rfl,λw ok0 vs _ hv=>?_⟩;have Qx:vs=#[.string a,.string b]:=by
    simp only[Dq,PV]at hv;obtain⟨u,us,h1,rfl,u',us',rfl,rfl,rfl⟩:=hv;cases vs
    simp_all
   subst Qx;refine(Tryz.cmpString a b w).mono λe w' ⟨he,hw⟩=>?_;subst hw;exact⟨_,he,Bl.refl _ _,by simp[PV,eE]⟩
  .cases hr
 .split at hs'
  .rename_i hf;subst hf;cases hs';unfold dL at hr;split at hr
   .rename_i a b;split at hr
    .rename_i c hb;cases hr;refine⟨by kernel_rfl,λw ok0 vs _ hv=>?_⟩;have hb':b=⟨#[c]⟩:=by
      obtain⟨⟨l⟩⟩:=b;simp at hb;rw[hb]
     subst hb';have Qx:vs=#[.string a,.string ⟨#[c]⟩]:=by
      simp only[Dq,PV]at hv;obtain⟨u,us,h1,rfl,u',us',rfl,rfl,rfl⟩:=hv;cases vs
      simp_all
     subst Qx;refine(Tryz.stringsContainsOne a c w).mono λe w' ⟨he,hw⟩=>?_;subst hw;exact⟨_,he,Bl.refl _ _,by simp[PV,ZA]⟩
    .cases hr
   .cases hr
  .cases hs'
end Go.Abs.Q
namespace Go.Abs.Q
open Go.Proofs
open Go.Proofs.YtohjdamplbhdpaaGreatDoor (Rows.uptoBulk Rows.uptoBulkAll)
variable {w:World}
theorem len2 {α:Type}:∀{l:List α},l.length=2->∃a b,l=[a,b]
 | [a,b],_=>⟨a,b,rfl⟩
theorem xG {w:World} {cs:G6} {us:Array Value} (h:CV w cs us.toList):PV w (yB w) (.agg cs) (.agg us):=by
 simp only[PV];exact⟨us,rfl,h.2,h.1⟩
end Go.Abs.Q
namespace Go.Proofs.YtohjdamplbhdpaaGreatDoor
open Go.ChangeShapes Go.WideShapes Go.ChangeAt Go.RowKit Go.Abs Go.Abs.Q
theorem own:ownKnob Tryz.prog.godebug=none:=by kernel_rfl
theorem laidOut:laidOutB Tryz.prog=true:=by kernel_rfl
def A0L:DataW Unit->List Value
 | .lit (.int k n)=>[.int k n]
 |_=>[]
def wZ:DataW Unit->List Value
 | .agg l=>l.flatMap A0L
 |_=>[]
def A0M:DataW Unit->List Value
 | .agg l=>l.flatMap wZ
 |_=>[]
def aB (l:List Value):Obj->Obj
 | .cells _ t frozen=>.cells l.toArray t frozen
 |o=>o
noncomputable def VT (os:Os):World :=
 {World.holding Tryz.prog os ⟨#[],#[],[]⟩with heap:=((World.holding Tryz.prog os ⟨#[],#[],[]⟩).heap.modify 1 (aB (wZ Rows.laid_unicode_utf8_first))).modify 2 (aB (A0M Rows.laid_unicode_utf8_acceptRanges))}
end Go.Proofs.YtohjdamplbhdpaaGreatDoor
namespace Go.Abs.Q
open Go.Proofs
attribute [local simp] E6 E8 fin K1 H2 P7 M6 R4 R3
def NW (m:Bool×Bool) (a:ByteArray):Tm:=VL (bs [115,107]) m [IK a]
def Lv (m:Bool×Bool) (a:ByteArray):Tm:=VL (bs [112,107]) m [NW m a]
def So (m:Bool×Bool) (a b:ByteArray):Tm:=VL (bs [115,104,107]) m [IK a,IK b]
def U9 (acc l:List Tm):List Tm:=l.foldl Lc acc
theorem PR (acc a b:G7):U9 acc (a++b)=U9 (U9 acc a) b:=List.foldl_append
theorem Bo:∀(l acc:G7),(U9 acc l).length<=acc.length+l.length
 | [],acc=>A08 _
 |t::l,acc=>by
  have h1:=Bo l (Lc acc t);have h2:=(dt acc t).1;show (U9 (Lc acc t) l).length<=_;rw[List.length_cons];omega
theorem Bp:∀(l acc:G7) {x:Tm},x∈U9 acc l->x∈acc\/x∈l
 | [],acc,x,h=>.inl h
 |t::l,acc,x,h=>by
  rcases Bp l (Lc acc t) h with h|h
  .rcases du h with h|h
   .exact .inl h
   .exact .inr (h ▸ List.mem_cons_self)
  .exact .inr (List.mem_cons_of_mem _ h)
def MF (m:Bool×Bool) (me:ByteArray) (rs:List ByteArray) (role:Nat):Nat->List Tm
 |0=>[]
 |i+1=>MF m me rs role i++(if i=role then []else match rs[i]? with|some r=>[So m me r,So m r me]|none=>[])
def Of (me:ByteArray) (s:Ste):Bool:=decide (s.frm=me)||decide (s.to=me)
def Sw (me:ByteArray) (l:List Ste):List Tm:=(l.filter (Of me)).map Ste.msg
theorem fQ {me:J1} {l:List Ste} {i:Nat} (h:i<l.length):Sw me (l.take (i+1))=Sw me (l.take i)++(if Of me l[i]=true then [l[i].msg]else []):=by
 unfold Sw;rw[A0e h,List.filter_append,A01];congr 1;by_cases hb:Of me l[i]=true
 .rw[if_pos hb,List.filter_cons_of_pos hb];rfl
 .rw[if_neg hb,List.filter_cons_of_neg hb];rfl
theorem Sp (m:I6) (me:J1) (rs:List ByteArray) (role:Nat):∀i,(MF m me rs role i).length<=2*i
 |0=>A08 _
 |i+1=>by
  have:=Sp m me rs role i;rw[MF,A0c];split
  .simp;omega
  .split<;>simp<;>omega
theorem Rp (m:I6) (me:J1) (rs:List ByteArray) (role:Nat):∀i,∀x∈MF m me rs role i,x.size=3
 |0,x,h=>by simp[MF]at h
 |i+1,x,h=>by
  rw[MF,List.mem_append]at h;rcases h with h|h
  .exact Rp m me rs role i x h
  .split at h
   .simp at h
   .split at h
    .simp only[A04,List.not_mem_nil,or_false]at h;rcases h with rfl|rfl<;>rfl
    .simp at h
theorem PY {me:J1} {l:List Fre} {x:Tm} (h:x∈IP me l):x.size=1:=by
 unfold IP at h;rw[A0m]at h;obtain⟨f,-,rfl⟩:=h;rfl
theorem fl (r n:Nar) (role:Nat) (me:J1) (hme:r.roles[role]?=some me) (i:Nat) (hi:i<r.steps.length):pc Q GS [Hk r n,.int .i64 (role:Nat),.int .i64 (i:Nat)]=some (.bool (Of me r.steps[i])):=by
 have sb:=DQ r n;have hme':IZ (r.roles.map AV.str) role=some (.str me):=G1 hme;have hx:=G1 (f:=EP) (A0a hi);unfold Of;generalize r.steps[i]=s at *
 by_cases hq:s.frm=me
 .rw[show (decide (s.frm=me)||decide (s.to=me))=true from by simp[hq]];refine HC X1 λfr hl h0 h1 h2=>?_;simp[X1]at hl h0 h1 h2;simp[X1,hl,h0,h1,h2,sb,hme',hx,hq]
 .rw[show (decide (s.frm=me)||decide (s.to=me))=decide (s.to=me) from by simp[hq]];have P4:=hq;refine HC X1 λfr hl h0 h1 h2=>?_;simp[X1]at hl h0 h1 h2;simp[X1,hl,h0,h1,h2,sb,hme',hx,P4]
theorem rx (rs:List ByteArray) (m0:I6) (B8:rs.length<=1000) (acc:G7) (hal:acc.length<=1000) (has:∀x∈acc,x.size<=1099511627776) (B0:List (List AV)) (fr:Fr) (h:AH) (hh:h.boxes=B0) (v0:AV) (hv0:A0 fr 8=v0) (hg0:KM false 4 (A4 acc) v0 h) (hl:fr.length=102) (h29:A0 fr 29=sl m0 1 (rs.map AV.str)) (h30:A0 fr 30=.int .i64 rs.length) (h31:A0 fr 31=.int .i64 0) :
  B6 (lp (A2 (K8 Q) (D6 O0) Ak) (fr,h)) λe C3 h'=>Kp Ak.wr fr C3/\e=.exit 0/\h'.boxes=B0/\KM false 4 (A4 (U9 acc (rs.map (Lv (true,true))))) (A0 C3 8) h':=by
 refine A9 rfl fr (λn fr h'=>∃(i:Nat),i+n=rs.length/\A0 fr 31=.int .i64 (i:Nat)/\(∃v,A0 fr 8=v/\h'.boxes=B0/\KM false 4 (A4 (U9 acc ((rs.take i).map (Lv (true,true))))) v h')) ?_ rs.length h ⟨0,by omega,h31,_,hv0,hh,hg0⟩;rintro J Φ hJ hΦ n D4 H1 K ⟨i,hi,k31,hr⟩;have A6:=K.1.trans hl;have k29:=A8 K 29 h29;have k30:=A8 K 30 h30;clear K;by_cases A7:i<rs.length
 .have L3:=C6 i (by omega);obtain⟨v,k8,hB,hg⟩:=hr;obtain⟨bx,fams⟩:=H1;simp only at hB;subst hB;have hx:=G1 (f:=AV.str) (A0a A7);have Bb:=Bo ((rs.take i).map (Lv (true,true))) acc;rw[A0l,A0Z]at Bb;have J4:∀x∈U9 acc ((rs.take i).map (Lv (true,true))),x.size<=1099511627776:=λx hx=>by
   rcases Bp _ _ hx with h|h
   .exact has x h
   .rw[A0m]at h;obtain⟨a,-,rfl⟩:=h;simp[Lv,NW,VL,IK,Tm.size,Tm.sizes]
  have Q7:(rs.take (i+1)).map (Lv (true,true))=(rs.take i).map (Lv (true,true))++[Lv (true,true) rs[i]]:=by
   rw[A0e A7,A01,List.map_cons,List.map_nil]
  generalize rs[i]=a at *
  have hG:=YD a;have hA:=YE (bs [115,107]) (true,true) [IK a];have hA2:=YE (bs [112,107]) (true,true) [NW (true,true) a];rw[show A4 [IK a]=[B9 (IK a)] from rfl]at hA;rw[show A4 [NW (true,true) a]=[B9 (NW (true,true) a)] from rfl]at hA2;change pc Q BB _=some (B9 (NW (true,true) a))at hA;change pc Q BB _=some (B9 (Lv (true,true) a))at hA2;obtain⟨v',F',hK,d7⟩:=Ui _ v ⟨bx,fams⟩ hg (Lv (true,true) a) (by omega) J4 (by simp[Lv,NW,VL,IK,Tm.size,Tm.sizes]);have e1:Lc (U9 acc ((rs.take i).map (Lv (true,true)))) (Lv (true,true) a)=U9 acc ((rs.take (i+1)).map (Lv (true,true))):=by
   rw[Q7,PR];rfl
  rw[e1]at d7;clear e1 Q7 hg J4;generalize Lv (true,true) a=t2 at *
  generalize NW (true,true) a=t1 at *
  generalize IK a=t0 at *
  simp[Ak,A6,k29,k30,k31,A7,L3,k8,hx,hG,hA,hA2,A5,hK];exact G0 hJ ⟨i+1,by omega,by simp[A6],v',by simp[A6],rfl,d7⟩
 .obtain⟨v,k8,hB,hg⟩:=hr;rw[A0g (by omega)]at hg;simp[Ak,A6,k30,k31,A7];exact hΦ _ _ _ ⟨rfl,hB,by simp[k8];exact I2 hg rfl⟩
theorem rv (rs:List ByteArray) (m0:I6) (B8:rs.length<=1000) (acc:G7) (hal:acc.length<=2000) (has:∀x∈acc,x.size<=1099511627776) (role:Nat) (me:J1) (C0:G6) (fr:Fr) (h:AH) (hh:h.boxes=[C0,(B9 (IK me)).cells]) (v0:AV) (hv0:A0 fr 8=v0) (hg0:KM false 4 (A4 acc) v0 h) (hl:fr.length=102) (h1:A0 fr 1=.int .i64 (role:Nat)) (h7:A0 fr 7=.ptr 1 0) (h46:A0 fr 46=sl m0 1 (rs.map AV.str)) (h47:A0 fr 47=.int .i64 rs.length) (h48:A0 fr 48=.int .i64 0) :
  B6 (lp (A2 (K8 Q) (D6 O0) d5) (fr,h)) λe C3 h'=>Kp d5.wr fr C3/\e=.exit 2/\h'.boxes=[C0,(B9 (IK me)).cells]/\KM false 4 (A4 (U9 acc (MF (true,true) me rs role rs.length))) (A0 C3 8) h':=by
 refine A9 rfl fr (λn fr h'=>∃(i:Nat),i+n=rs.length/\A0 fr 48=.int .i64 (i:Nat)/\(∃v,A0 fr 8=v/\h'.boxes=[C0,(B9 (IK me)).cells]/\KM false 4 (A4 (U9 acc (MF (true,true) me rs role i))) v h')) ?_ rs.length h ⟨0,by omega,h48,_,hv0,hh,hg0⟩;rintro J Φ hJ hΦ n D4 H1 K ⟨i,hi,k48,hr⟩;have A6:=K.1.trans hl;have k1:=A8 K 1 h1;have k7:=A8 K 7 h7;have k46:=A8 K 46 h46;have k47:=A8 K 47 h47;clear K;by_cases A7:i<rs.length
 .have L3:=C6 i (by omega);obtain⟨v,k8,hB,hg⟩:=hr;obtain⟨bx,fams⟩:=H1;simp only at hB;subst hB;have hx:=G1 (f:=AV.str) (A0a A7);have Bb:=Bo (MF (true,true) me rs role i) acc;have hl3:=Sp (true,true) me rs role i;have J4:∀x∈U9 acc (MF (true,true) me rs role i),x.size<=1099511627776:=λx hx=>by
   rcases Bp _ _ hx with h|h
   .exact has x h
   .have:=Rp _ _ _ _ _ x h;omega
  have Q7:MF (true,true) me rs role (i+1)=MF (true,true) me rs role i++(if i=role then []else [So (true,true) me rs[i],So (true,true) rs[i] me]):=by
   rw[MF,A0a A7]
  generalize rs[i]=a at *
  by_cases hir:i=role
  .rw[if_pos hir,A0s]at Q7;rw[←Q7]at hg;subst hir;simp[d5,A6,k1,k46,k47,k48,A7,L3,hx];exact G0 hJ ⟨i+1,by omega,by simp[A6],v,by simp[k8],by simp,I2 hg rfl⟩
  .rw[if_neg hir]at Q7;have hii:¬(i:Int)=(role:Int):=by omega
   have hG:=YD a;have hA:=YE (bs [115,104,107]) (true,true) [IK me,IK a];have hA2:=YE (bs [115,104,107]) (true,true) [IK a,IK me];rw[show A4 [IK me,IK a]=[B9 (IK me),B9 (IK a)] from rfl]at hA;rw[show A4 [IK a,IK me]=[B9 (IK a),B9 (IK me)] from rfl]at hA2;change pc Q BB _=some (B9 (So (true,true) me a))at hA;change pc Q BB _=some (B9 (So (true,true) a me))at hA2;obtain⟨v',F',hK,d7⟩:=Ui _ v ⟨[C0,(B9 (IK me)).cells],fams⟩ hg (So (true,true) me a) (by omega) J4 (by simp[So,VL,IK,Tm.size,Tm.sizes]);obtain⟨v2,F2,hK2,hg2⟩:=Ui _ v' ⟨[C0,(B9 (IK me)).cells],F'⟩ d7 (So (true,true) a me) (by have:=(dt (U9 acc (MF (true,true) me rs role i)) (So (true,true) me a)).1;omega) (λx hx=>by
    rcases du hx with h|h
    .exact J4 x h
    .subst h;simp[So,VL,IK,Tm.size,Tm.sizes]) (by simp[So,VL,IK,Tm.size,Tm.sizes])
   have e1:Lc (Lc (U9 acc (MF (true,true) me rs role i)) (So (true,true) me a)) (So (true,true) a me)=U9 acc (MF (true,true) me rs role (i+1)):=by
    rw[Q7,PR];rfl
   rw[e1]at hg2;clear e1 Q7 hg d7 J4;generalize So (true,true) me a=t2 at *
   generalize So (true,true) a me=t1 at *
   simp only[I3]at hK hK2;generalize IK a=t0 at *
   generalize IK me=tm at *
   simp[d5,A6,k1,k7,k46,k47,k48,A7,L3,k8,hx,hii,hG,hA,hA2,A5,hK,hK2];exact G0 hJ ⟨i+1,by omega,by simp[A6],v2,by simp[A6],by simp,hg2⟩
 .obtain⟨v,k8,hB,hg⟩:=hr;have hi2:i=rs.length:=by omega
  subst hi2;simp[d5,A6,k47,k48];exact hΦ _ _ _ ⟨rfl,hB,by simp[k8];exact I2 hg rfl⟩
theorem ru (l:G7) (m0:I6) (B8:l.length<=1000) (acc:G7) (hal:acc.length<=5000) (has:∀x∈acc,x.size<=1099511627776) (hls:∀x∈l,x.size<=1099511627776) (C0:G6) (fr:Fr) (h:AH) (B0:List (List AV)) (hB0:h.boxes=C0::B0) (v0:AV) (hv0:A0 fr 8=v0) (hg0:KM false 4 (A4 acc) v0 h) (hl:fr.length=102) (h73:A0 fr 73=sl m0 4 (A4 l)) (h74:A0 fr 74=.int .i64 l.length) (h75:A0 fr 75=.int .i64 0) :
  B6 (lp (A2 (K8 Q) (D6 O0) Aj) (fr,h)) λe C3 h'=>Kp Aj.wr fr C3/\e=.exit 4/\(∃B,h'.boxes=C0::B)/\KM false 4 (A4 (U9 acc l)) (A0 C3 8) h':=by
 refine A9 rfl fr (λn fr h'=>∃(i:Nat),i+n=l.length/\A0 fr 75=.int .i64 (i:Nat)/\(∃(B:List (List AV)) (v:AV),A0 fr 8=v/\h'.boxes=C0::B/\KM false 4 (A4 (U9 acc (l.take i))) v h')) ?_ l.length h ⟨0,by omega,h75,_,_,hv0,hB0,hg0⟩;rintro J Φ hJ hΦ n D4 H1 K ⟨i,hi,k75,hr⟩;have A6:=K.1.trans hl;have k73:=A8 K 73 h73;have k74:=A8 K 74 h74;clear K;by_cases A7:i<l.length
 .have L3:=C6 i (by omega);obtain⟨B,v,k8,hB,hg⟩:=hr;obtain⟨bx,fams⟩:=H1;simp only at hB;subst hB;have hx:=I0 A7;have Bb:=Bo (l.take i) acc;rw[A0Z]at Bb;have J4:∀x∈U9 acc (l.take i),x.size<=1099511627776:=λx hx=>by
   rcases Bp _ _ hx with h|h
   .exact has x h
   .exact hls x (A0i h)
  have hli:=hls _ (A00 A7);have Q7:l.take (i+1)=l.take i++[l[i]]:=A0e A7;generalize l[i]=t at *
  obtain⟨v',F',hK,d7⟩:=Ui _ v ⟨C0::(B++[(B9 t).cells]),fams⟩ (I2 hg rfl) t (by omega) J4 hli;have e1:Lc (U9 acc (l.take i)) t=U9 acc (l.take (i+1)):=by
   rw[Q7,PR];rfl
  rw[e1]at d7;clear e1 Q7 hg J4;simp only[I3]at hK;simp[Aj,A6,k73,k74,k75,A7,L3,k8,hx,hK];exact G0 hJ ⟨i+1,by omega,by simp[A6],_,v',by simp[A6],rfl,I2 d7 rfl⟩
 .obtain⟨B,v,k8,hB,hg⟩:=hr;rw[A0g (by omega)]at hg;simp[Aj,A6,k74,k75,A7];exact hΦ _ _ _ ⟨rfl,⟨B,hB⟩,by simp[k8];exact I2 hg rfl⟩
theorem rq (r na:Nar) (l:List Ste) (q:Nat) (hq:q<=r.steps.length) (hlq:l=r.steps.take q) (B8:l.length<=1000) (acc:G7) (hal:acc.length<=7000) (has:∀x∈acc,x.size<=1099511627776) (hls:∀x∈l,x.msg.size<=1099511627776) (role:Nat) (me:J1) (hme:r.roles[role]?=some me) (fr:Fr) (h:AH) (B0:List (List AV)) (hB0:h.boxes=(Hk r na).cells::B0) (v0:AV) (hv0:A0 fr 8=v0) (hg0:KM false 4 (A4 acc) v0 h) (hl:fr.length=102) (h1:A0 fr 1=.int .i64 (role:Nat)) (h3:A0 fr 3=.ptr 0 0) (h83:A0 fr 83=.int .i64 l.length) (h84:A0 fr 84=.int .i64 0) :
  B6 (lp (A2 (K8 Q) (D6 O0) b9) (fr,h)) λe C3 h'=>Kp b9.wr fr C3/\e=.exit 6/\KM false 4 (A4 (U9 acc (Sw me l))) (A0 C3 8) h':=by
 refine A9 rfl fr (λn fr h'=>∃(i:Nat),i+n=l.length/\A0 fr 84=.int .i64 (i:Nat)/\(∃(B:List (List AV)) (v:AV),A0 fr 8=v/\h'.boxes=(Hk r na).cells::B/\KM false 4 (A4 (U9 acc (Sw me (l.take i)))) v h')) ?_ l.length h ⟨0,by omega,h84,_,_,hv0,hB0,hg0⟩;rintro J Φ hJ hΦ n D4 H1 K ⟨i,hi,k84,hr⟩;have A6:=K.1.trans hl;have k1:=A8 K 1 h1;have k3:=A8 K 3 h3;have k83:=A8 K 83 h83;clear K;by_cases A7:i<l.length
 .have L3:=C6 i (by omega);obtain⟨B,v,k8,hB,hg⟩:=hr;obtain⟨bx,fams⟩:=H1;simp only at hB;subst hB;have sb:=DQ r na;have hlr:i<r.steps.length:=by rw[hlq,A0Z]at A7;omega
  have hli:l[i]=r.steps[i]:=by simp only[hlq,List.getElem_take]
  have hx:=G1 (f:=EP) (A0a hlr);have hI:=fl r na role me hme i hlr;have Bb:=Bo (Sw me (l.take i)) acc;have hml:(Sw me (l.take i)).length<=i:=by
   unfold Sw;rw[A0l];have:=A0t (Of me) (l.take i);rw[A0Z]at this;omega
  have J4:∀x∈U9 acc (Sw me (l.take i)),x.size<=1099511627776:=λx hx=>by
   rcases Bp _ _ hx with h|h
   .exact has x h
   .unfold Sw at h;rw[A0m]at h;obtain⟨s,hs,rfl⟩:=h;exact hls s (A0i (A02.1 hs).1)
  have hli2:=hls _ (A00 A7);have Q7:=fQ (me:=me) A7;rw[hli]at Q7 hli2;generalize r.steps[i]=s at *
  cases hb:Of me s with
  |false =>
   rw[hb]at Q7 hI;simp only[A0x,if_false,A0s]at Q7;rw[←Q7]at hg;simp[b9,A6,k1,k3,k83,k84,A7,L3,sb,hI];exact G0 hJ ⟨i+1,by omega,by simp[A6],_,v,by simp[k8],by rw[sb],I2 hg rfl⟩
  |true =>
   rw[hb]at Q7 hI;simp only[if_true]at Q7;obtain⟨v',F',hK,d7⟩:=Ui _ v ⟨(Hk r na).cells::B,fams⟩ hg s.msg (by omega) J4 hli2;have e1:Lc (U9 acc (Sw me (l.take i))) s.msg=U9 acc (Sw me (l.take (i+1))):=by
    rw[Q7,PR];rfl
   rw[e1]at d7;clear e1 Q7 hg J4;rw[sb]at hK;simp[b9,A6,k1,k3,k83,k84,A7,L3,sb,k8,hI,hx,hK];exact G0 hJ ⟨i+1,by omega,by simp[A6],B,v',by simp[A6],by rw[sb],I2 d7 rfl⟩
 .obtain⟨B,v,k8,hB,hg⟩:=hr;rw[A0g (by omega)]at hg;simp[b9,A6,k83,k84,A7];exact hΦ _ _ _ ⟨rfl,by simp[k8];exact I2 hg rfl⟩
def TH (m:Bool×Bool) (r n:Nar) (me:ByteArray) (role q:Nat):List Tm :=
 U9 (U9 (U9 (U9 [NW m me] (r.roles.map (Lv m))) (MF m me r.roles role r.roles.length)) (IP me n.fresh)) (Sw me (r.steps.take q))
structure Smol (r n:Nar):Prop where
 roles:r.roles.length<=1000
 fresh:n.fresh.length<=1000
 steps:r.steps.length<=1000
 msgs:∀s∈r.steps,s.msg.size<=1048576
theorem Mr (m:I6) (a b:J1):(NW m a).size=2/\(Lv m a).size=3/\(So m a b).size=3:=⟨rfl,rfl,rfl⟩
theorem Wq {m:I6} {r n:Nar} {me:J1} {role q:Nat} (h:Smol r n):(TH m r n me role q).length<=10000:=by
 unfold TH;have h1:=Bo (r.roles.map (Lv m)) [NW m me];have h2:=Bo (MF m me r.roles role r.roles.length) (U9 [NW m me] (r.roles.map (Lv m)));have h3:=Bo (IP me n.fresh) (U9 (U9 [NW m me] (r.roles.map (Lv m))) (MF m me r.roles role r.roles.length));have h4:=Bo (Sw me (r.steps.take q)) (U9 (U9 (U9 [NW m me] (r.roles.map (Lv m))) (MF m me r.roles role r.roles.length)) (IP me n.fresh));have h5:=Sp m me r.roles role r.roles.length;have h6:=RQ me n.fresh;have h7:(Sw me (r.steps.take q)).length<=r.steps.length:=by
  unfold Sw;rw[A0l];have:=A0t (Of me) (r.steps.take q);rw[A0Z]at this;omega
 rw[A0l,A0u]at h1;have:=h.roles;have:=h.fresh;have:=h.steps;omega
theorem vR {m:I6} {r n:Nar} {me:J1} {role q:Nat} {x:Tm} (h:x∈TH m r n me role q):x=NW m me\/(∃a∈r.roles,x=Lv m a)\/x∈MF m me r.roles role r.roles.length\/x∈IP me n.fresh\/∃s∈r.steps,Of me s=true/\x=s.msg:=by
 unfold TH at h;rcases Bp _ _ h with h|h
 .rcases Bp _ _ h with h|h
  .rcases Bp _ _ h with h|h
   .rcases Bp _ _ h with h|h
    .exact .inl (by simpa using h)
    .rw[A0m]at h;obtain⟨a,ha,rfl⟩:=h;exact .inr (.inl ⟨a,ha,rfl⟩)
   .exact .inr (.inr (.inl h))
  .exact .inr (.inr (.inr (.inl h)))
 .unfold Sw at h;rw[A0m]at h;obtain⟨s,hs,rfl⟩:=h;obtain⟨h1,h2⟩:=A02.1 hs;exact .inr (.inr (.inr (.inr ⟨s,A0i h1,h2,rfl⟩)))
theorem YI (r n:Nar) (F:Fine n) (S:Lens n) (hz:(Y0 n).2=0) (hs:Smol r n) (hrn:r.roles=n.roles) (role:Nat) (me:J1) (hme:r.roles[role]?=some me) (q:Nat) (hq:q<=r.steps.length) :
  ∃m,pc Q O0 [Hk r n,.int .i64 (role:Nat),.int .i64 (q:Nat)]=some (sl m 4 (A4 (TH (true,true) r n me role q))):=by
 suffices hQ:∃v,pc Q O0 [Hk r n,.int .i64 (role:Nat),.int .i64 (q:Nat)]=some v/\∃m:Bool×Bool,v=sl m 4 (A4 (TH (true,true) r n me role q)) by
  obtain⟨v,h1,m,rfl⟩:=hQ;exact⟨m,h1⟩
 have sb:=DQ r n;have hme':IZ (r.roles.map AV.str) role=some (.str me):=G1 hme;have hG:=YD me;have hA:=YE (bs [115,107]) (true,true) [IK me];rw[show A4 [IK me]=[B9 (IK me)] from rfl]at hA;change pc Q BB _=some (B9 (NW (true,true) me))at hA;obtain⟨mf,hFr⟩:=pg n F S hz role me (by rw[←hrn];exact hme);have s1:=hs.roles;have s2:=hs.fresh;have s3:=hs.steps;have b1:=Bo (r.roles.map (Lv (true,true))) [NW (true,true) me];rw[A0l,A0u]at b1;have b2:=Bo (MF (true,true) me r.roles role r.roles.length) (U9 [NW (true,true) me] (r.roles.map (Lv (true,true))));have b5:=Sp (true,true) me r.roles role r.roles.length;have b3:=Bo (IP me n.fresh) (U9 (U9 [NW (true,true) me] (r.roles.map (Lv (true,true)))) (MF (true,true) me r.roles role r.roles.length));have b6:=RQ me n.fresh;have z1:∀x∈[NW (true,true) me],x.size<=1099511627776:=λx hx=>by rw[List.mem_singleton.1 hx,(Mr _ me me).1];omega
 have z2:∀x∈U9 [NW (true,true) me] (r.roles.map (Lv (true,true))),x.size<=1099511627776:=λx hx=>by
  rcases Bp _ _ hx with h|h
  .exact z1 x h
  .rw[A0m]at h;obtain⟨a,-,rfl⟩:=h;rw[(Mr _ a a).2.1];omega
 have z3:∀x∈U9 (U9 [NW (true,true) me] (r.roles.map (Lv (true,true)))) (MF (true,true) me r.roles role r.roles.length),x.size<=1099511627776:=λx hx=>by
  rcases Bp _ _ hx with h|h
  .exact z2 x h
  .rw[Rp _ _ _ _ _ _ h];omega
 have z4:∀x∈U9 (U9 (U9 [NW (true,true) me] (r.roles.map (Lv (true,true)))) (MF (true,true) me r.roles role r.roles.length)) (IP me n.fresh),x.size<=1099511627776:=λx hx=>by
  rcases Bp _ _ hx with h|h
  .exact z3 x h
  .rw[PY h];omega
 unfold TH;generalize hK1:U9 [NW (true,true) me] (r.roles.map (Lv (true,true)))=k1 at *
 generalize hK2:U9 k1 (MF (true,true) me r.roles role r.roles.length)=k2 at *
 generalize hK3:U9 k2 (IP me n.fresh)=k3 at *
 generalize hK4:U9 k3 (Sw me (r.steps.take q))=k4 at *
 have nb:=E5 n;refine gI JI λΨ hΨ fr hl h0 h1 h2=>?_;simp[JI]at hl h0 h1 h2;simp[JI,hl,h0,h1,sb,hme',hG,hA,A5];refine B6.mono (rx r.roles r.rm s1 [NW (true,true) me] (by simp) z1 [(Hk r n).cells,(B9 (IK me)).cells] _ _ ?_ (sl (true,true) 4 (A4 [NW (true,true) me])) ?_ (qW _ _ _ _ _) ?_ ?_ ?_ ?_) ?_<;>first|(simp[hl,sb];done)|(simp[hl];rfl)|skip
 rintro e D4 ⟨bx,F1⟩ ⟨K,rfl,hB,hg⟩;have A6:D4.length=102:=K.1.trans (by simp[hl]);have k1':A0 D4 1=.int .i64 (role:Nat):=A8 K 1 (by simp[h1]);have k2':A0 D4 2=.int .i64 (q:Nat):=A8 K 2 (by simp[h2]);have k3':A0 D4 3=.ptr 0 0:=A8 K 3 (by simp[hl]);have k7':A0 D4 7=.ptr 1 0:=A8 K 7 (by simp[hl]);clear K;simp only at hB;subst hB;rw[hK1]at hg;generalize hv8:A0 D4 8=v8 at *
 simp[A6,k3',sb];refine B6.mono (rv r.roles r.rm s1 k1 (by omega) z2 role me (Hk r n).cells _ _ ?_ v8 ?_ (I2 hg rfl) ?_ ?_ ?_ ?_ ?_ ?_) ?_<;>first|(simp[A6,sb,k1',k7',hv8];done)|skip
 rintro e Q6 ⟨bx2,F2⟩ ⟨K,rfl,hB,hg2⟩;have Bb:Q6.length=102:=K.1.trans (by simp[A6]);have k1'':A0 Q6 1=.int .i64 (role:Nat):=A8 K 1 (by simp[k1']);have k2'':A0 Q6 2=.int .i64 (q:Nat):=A8 K 2 (by simp[k2']);have k3'':A0 Q6 3=.ptr 0 0:=A8 K 3 (by simp[k3']);clear K hg;simp only at hB;subst hB;rw[hK2]at hg2;generalize hv8':A0 Q6 8=v8' at *
 simp[Bb,k1'',k3'',sb,hFr];refine B6.mono (ru (IP me n.fresh) mf (by omega) k2 (by omega) z3 (λx hx=>by rw[PY hx];omega) (Hk r n).cells _ _ [(B9 (IK me)).cells] ?_ v8' ?_ (I2 hg2 rfl) ?_ ?_ ?_ ?_) ?_<;>first|(simp[Bb,sb,hv8'];done)|skip
 rintro e fr3 ⟨bx3,F3⟩ ⟨K,rfl,⟨B3,hB⟩,hg3⟩;have hl3:fr3.length=102:=K.1.trans (by simp[Bb]);have k1a:A0 fr3 1=.int .i64 (role:Nat):=A8 K 1 (by simp[k1'']);have k2a:A0 fr3 2=.int .i64 (q:Nat):=A8 K 2 (by simp[k2'']);have k3a:A0 fr3 3=.ptr 0 0:=A8 K 3 (by simp[k3'']);clear K hg2;simp only at hB;subst hB;rw[hK3]at hg3;generalize hv8a:A0 fr3 8=v8a at *
 have hql:(r.steps.take q).length=q:=by rw[A0Z];omega
 simp[k2a];refine B6.mono (rq r n (r.steps.take q) q hq rfl (by omega) k3 (by omega) z4 (λx hx=>by have:=hs.msgs x (A0i hx);omega) role me hme _ _ B3 rfl v8a ?_ (I2 hg3 rfl) ?_ ?_ ?_ ?_ ?_) ?_<;>first|(simp[hl3,k1a,k3a,hv8a,hql];done)|skip
 rintro e fr4 ⟨bx4,F4⟩ ⟨K,rfl,hg4⟩;have hl4:fr4.length=102:=K.1.trans (by simp[hl3]);clear K hg3;rw[hK4]at hg4;obtain⟨mm,hf⟩:=Pr hg4;simp only at hf;simp[hl4,hf];exact hΨ _ ⟨mm,rfl⟩
end Go.Abs.Q
