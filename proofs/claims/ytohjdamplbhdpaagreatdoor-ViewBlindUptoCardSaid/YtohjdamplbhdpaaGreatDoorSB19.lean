/- A part of the proof. -/
import Derived.Test.YtohjdamplbhdpaaGreatDoorSB18
import Derived.Test.YtohjdamplbhdpaaGreatDoorProg
import Derived.ProofKit
import Derived.WalkKit
import Derived.Lib.Walk
import Derived.Lib.SliceRun
import Derived.Shelf.RegionOpenPlain
import Derived.Shelf.Spec.SlicesInsert
import Derived.KernelRfl
import Derived.Lib.AppendZerosOnto
import Derived.Laws.NewBlocks
import Derived.Lib.Strings
import Derived.Lib.Slices
import Derived.Lib.Bytealg
import Derived.Test.YtohjdamplbhdpaaGreatDoorCards
import Derived.Test.YtohjdamplbhdpaaGreatDoorTie
import Derived.OpenShut
import Derived.JoinedCond
import Derived.Deep.DeepHandedRow
import Derived.Lib.LaidTab
set_option linter.all false
open List renaming length_take->A0O,getElem?_eq_getElem->A0P,length_append->A0R,take_succ_eq_append_getElem->A0T,getElem?_drop->A0U,take_of_length_le->A0V,getElem?_toArray->A0W,mem_of_mem_take->A0X,getElem?_append_left->A0Y,getElem?_eq_some_iff->A0Z,length_map->A0a,mem_map->A0b,size_toArray->A0c,length_drop->A0d,getElem?_take->A0f,getElem?_append_right->A0g,append_nil->A0h,length_filter_le->A0i,length_singleton->A0j,mem_of_mem_drop->A0k,getElem_mem->A0p,map_append->A0q,mem_filter->A0r,map_cons->A0t,mem_cons->A0u,map_nil->A0w
open Array renaming size_append->A0Q,getElem?_append_left->A0S
open Nat renaming zero_add->A0e,mul_le_mul_right->A0l,min_def->A0n,zero_le->A0o,min_eq_left->A0s,add_assoc->A0v,lt_or_ge->A0x,succ_mul->A0y,le_refl->A0z,sub_mul->A00
open Bool renaming false_eq_true->A0m
set_option linter.unusedVariables false
set_option linter.unusedSimpArgs false
namespace Go.Proofs
open Go.RowKit Go.Lib Go.Abs
theorem Tryz.setUnd:Tryz.prog.underlying 110=some (.slice 32):=by kernel_rfl
theorem Tryz.termsUnd:Tryz.prog.underlying 30=some (.slice 32):=by kernel_rfl
theorem Tryz.intUnd:Tryz.prog.underlying 3=some (.int .i64):=by kernel_rfl
set_option maxHeartbeats 4000000 in
set_option maxRecDepth 100000 in
theorem Tryz.ins_end_room (blk o n c vb vo vc:Nat) (cur:Array Value) (t:TypeId) (vs:List Value) (w:World) (BG:n+1<=c) (hm:c<=maxLen) (hvl:vs.length=4) (hcur:w.heap[blk]?=some (.cells cur t (0,0))) (Dr:o+c*4<=cur.size)
  (Qo:∀j v,vs[j]?=some v->w.cell? ⟨vb,vo+j,none⟩=some v) (h1v:∀v∈vs,v.oneCell'=true) (us:Array Value) (WH:us=(cur.toList.take (o+n*4)++vs++cur.toList.drop (o+n*4+vs.length)).toArray) :
  Calls Tryz.prog 158 #[.slice (some ⟨blk,o,none⟩) n c,.int .i64 n,.slice (some ⟨vb,vo,none⟩) 1 vc] w λe w'=>e=.returned (.slice (some ⟨blk,o,none⟩) (n+1) c)/\w'=w.setRow blk us:=by
 obtain⟨i0,hi0,J5⟩:∃i0,Tryz.prog.info? 32=some i0/\i0.size=4:=⟨_,rfl,by kernel_rfl⟩;have hrun:∀ty,(Builtin.append_ #[110,30] ty #[.slice (some ⟨blk,o,none⟩) n c,.slice (some ⟨vb,vo,none⟩) 1 vc]).run Tryz.prog w=_:=λty =>
  YW 110 30 ty 32 32 i0 Tryz.setUnd Tryz.termsUnd hi0 blk o n c cur t w hcur ⟨vb,vo,none⟩ 1 vc vs (by rw[J5,hvl]) (λj v hj=>by rw[Addr.add_lit];exact Qo j v hj) h1v BG (by rw[J5,hvl];omega)
 rw[J5,←WH]at hrun;have hmm:maxLen<=9223372036854775807:=by unfold maxLen;omega
 clear WH
 go_enter Tryz.func158,Tryz.ntmps158
 go_wp2_with (at_builtin;refine Lib.wpList_append_run _ rfl _ _ _ _ rfl _ _ rfl rfl _ _ (hrun _) ?_)
 go_ret
 exact⟨rfl,rfl⟩
set_option maxHeartbeats 4000000 in
set_option maxRecDepth 100000 in
theorem Tryz.ins_end_grow (base:Option Addr) (n c vb vo vc:Nat) (cs vs:List Value) (w:World) (i0:TypeInfo) (z:Value) (hi0:Tryz.prog.info? 32=some i0) (hz0:i0.zero=some z) (J5:i0.size=4) (hnc:n<=c) (BG:c<n+1) (hm:n+1<=maxLen) (hbig:(n+1)*i0.bytes<=140737488355328)
  (GK:cs.length=n*4) (hvl:vs.length=4) (hnil:base=none->n=0) (Lr:∀a,base=some a->∀j v,cs[j]?=some v->w.cell? (a.add j)=some v) (Qo:∀j v,vs[j]?=some v->w.cell? ⟨vb,vo+j,none⟩=some v) (h1v:∀v∈vs,v.oneCell'=true) :
  Calls Tryz.prog 158 #[.slice base n c,.int .i64 n,.slice (some ⟨vb,vo,none⟩) 1 vc] w λe w'=>e=.returned (.slice (some ⟨w.heap.size,0,none⟩) (n+1) (grownCap w (n+1) c 32)) /\
   w'=w.drew.alloc (.cells ((cs++vs).toArray++Builtin.zeroCells z.cells (grownCap w (n+1) c 32-(n+1))) 32):=by
 have hmm:maxLen<=9223372036854775807:=by unfold maxLen;omega
 have hsrc:Src Tryz.prog i0.size 30 (.slice (some ⟨vb,vo,none⟩) 1 vc) 1 vs w:=Src.ofSlice w Tryz.termsUnd ⟨vb,vo,none⟩ 1 vc vs (by rw[J5,hvl]) (λj u hj=>by rw[Addr.add_lit];exact Qo j u hj) h1v;have hold:(Builtin.firstCells i0.size n (.slice base n c)).run Tryz.prog w.drew=.ok cs.toArray w.drew:=by
  rw[J5];cases base with
  |none =>
   have h0:=hnil rfl;subst h0;have hc0:cs=[]:=List.length_eq_zero_iff.1 (by simpa using GK);rw[hc0];exact run_firstCells_none w.drew 4 0 0 c
  |some a=>exact run_firstCells_some w.drew 4 n a n c cs GK (λj v hj=>Lr a rfl j v hj)
 have hrun:∀ty,(Builtin.append_ #[110,30] ty #[.slice base n c,.slice (some ⟨vb,vo,none⟩) 1 vc]).run Tryz.prog w=_:=λty =>
  run_append_grow_src w 110 30 ty 32 i0 z Tryz.setUnd hi0 hz0 base n c cs hold _ 1 vs hsrc BG (by omega) (growslice_fits BG hbig)
 generalize hG:grownCap w (n+1) c 32=G at *
 generalize hR:(cs++vs).toArray++Builtin.zeroCells z.cells (G-(n+1))=R at *
 clear hR hold hsrc hG
 go_enter Tryz.func158,Tryz.ntmps158
 cases base with
 |none =>
  have h0:=hnil rfl;subst h0
  go_wp2_with (at_builtin;refine Lib.wpList_append_run _ rfl _ _ _ _ rfl _ _ rfl rfl _ _ (hrun _) ?_)
  go_ret
  exact⟨rfl,rfl⟩
 |some a =>
  obtain⟨ab,ao,asp⟩:=a
  go_wp2_with (at_builtin;refine Lib.wpList_append_run _ rfl _ _ _ _ rfl _ _ rfl rfl _ _ (hrun _) ?_)
  all_goals (go_ret;exact⟨rfl,rfl⟩)
set_option maxHeartbeats 4000000 in
set_option maxRecDepth 100000 in
theorem Tryz.ins_shift (blk o n c i vb vo vc:Nat) (cur us1 us2:Array Value) (t:TypeId) (cs vs:List Value) (w:World) (hi:i<n) (BG:n+1<=c) (hm:c<=maxLen) (GK:cs.length=n*4) (hvl:vs.length=4) (P6:vb≠blk)
  (hcur:w.heap[blk]?=some (.cells cur t (0,0))) (Dr:o+c*4<=cur.size) (hcc:∀j,j<n*4->cur[o+j]?=cs[j]?) (Qo:∀j v,vs[j]?=some v->w.cell? ⟨vb,vo+j,none⟩=some v) (h1c:∀v∈cs,v.oneCell'=true) (h1v:∀v∈vs,v.oneCell'=true)
  (hu1:us1=(cur.toList.take (o+(i+1)*4)++cs.drop (i*4)++cur.toList.drop (o+(i+1)*4+(cs.drop (i*4)).length)).toArray) (hu2:us2=(us1.toList.take (o+i*4)++vs++us1.toList.drop (o+i*4+vs.length)).toArray) :
  Calls Tryz.prog 158 #[.slice (some ⟨blk,o,none⟩) n c,.int .i64 i,.slice (some ⟨vb,vo,none⟩) 1 vc] w λe w'=>e=.returned (.slice (some ⟨blk,o,none⟩) (n+1) c)/\w'=(w.drew.setRow blk us1).setRow blk us2:=by
 have hmm:maxLen<=9223372036854775807:=by unfold maxLen;omega
 have hz2:¬((i:Int)=(n:Int)):=by omega
 have J5:(Tryz.prog.info? 32).map (·.size)=some 4:=by kernel_rfl
 have zz:∀w,(Go.sizeOf 32).run Tryz.prog w=.ok 4 w:=λw=>by
  cases hq:Tryz.prog.info? 32 with
  |none=>simp[hq]at J5
  |some i=>simp[hq]at J5;simp[Go.sizeOf,typeInfo,hq,J5]
 have hcs0:0<cur.size:=by omega
 have hv0:w.cell? ⟨vb,vo+0,none⟩=some vs[0]:=Qo 0 _ (A0P (by omega));obtain⟨curv,tv,frv,hcv,hcv0⟩:∃curv tv frv,w.heap[vb]?=some (.cells curv tv frv)/\0<curv.size:=by
  unfold World.cell? at hv0;split at hv0
  .rename_i a b c' h;refine⟨a,b,c',h,?_⟩;simp only[Option.isSome_none,A0m,if_false]at hv0;have:=(Array.getElem?_eq_some_iff.1 hv0).1;omega
  .cases hv0
 have hov:∀x lb cb,(callFunc 220 #[.slice (some ⟨vb,vo,none⟩) 1 vc,.slice (some ⟨blk,x,none⟩) lb cb]).run Tryz.prog w=.ok (.value (.bool false)) w:=λx lb cb=>by
  rw[run_callFunc_extern Tryz.func220 (by kernel_rfl) (by kernel_rfl) (by kernel_rfl) (e:=Extern.SlicesOverlaps.overlaps #[30,30] #[4]) (by kernel_rfl),
   VP w 30 30 4 32 Tryz.termsUnd 4 zz ⟨vb,vo,none⟩ ⟨blk,x,none⟩ 1 vc lb cb P6 curv cur tv t frv hcv hcv0 hcur hcs0]
  rfl
 have Dm:(cs.drop (i*4)).length=(n-i)*4:=by rw[A0d,GK,A00]
 have hcur':w.drew.heap[blk]?=some (.cells cur t (0,0)):=hcur;have hcp1:∀ty dc sc,(Builtin.copy_ #[110,110] ty #[.slice (some ⟨blk,o+(i+1)*4,none⟩) (n-i) dc,.slice (some ⟨blk,o+i*4,none⟩) (n+1-i) sc]).run Tryz.prog w.drew=.ok (goInt (n-i:Nat)) (w.drew.setRow blk us1):=λty dc sc=>by
  rw[hu1];exact QK w.drew _ _ ty 32 4 blk (o+(i+1)*4) (n-i) dc ⟨blk,o+i*4,none⟩ (n+1-i) sc (n-i) cur t (cs.drop (i*4)) Tryz.setUnd J5 hcur' (by simp only[A0n];split<;>omega) Dm
   (λj v hj=>by
    rw[Addr.add_lit,cell_of_row _ _ _ _ _ _ hcur'];rw[A0U]at hj;have hjn:i*4+j<n*4:=by have:=(A0Z.1 hj).1;omega
    rw[A0v,hcc _ hjn];exact hj) (by rw[Dm];omega) (λv hv=>h1c v (A0k hv))
 have hs1:us1.size=cur.size:=by rw[hu1];simp;omega
 have hW1:(w.drew.setRow blk us1).heap[blk]?=some (.cells us1 t (0,0)):=setRow_heap _ _ _ _ _ _ hcur';have hcp2:∀ty dc,(Builtin.copy_ #[110,30] ty #[.slice (some ⟨blk,o+i*4,none⟩) (n+1-i) dc,.slice (some ⟨vb,vo,none⟩) 1 vc]).run Tryz.prog (w.drew.setRow blk us1)=.ok (goInt (1:Nat)) ((w.drew.setRow blk us1).setRow blk us2):=λty dc=>by
  rw[hu2];exact QK (w.drew.setRow blk us1) _ _ ty 32 4 blk (o+i*4) (n+1-i) dc ⟨vb,vo,none⟩ 1 vc 1 us1 t vs Tryz.setUnd J5 hW1 (by simp only[A0n];split<;>omega) (by rw[hvl])
   (λj v hj=>by
    rw[Addr.add_lit,World.cell?_of_block (a:=⟨vb,vo+j,none⟩) (setRow_other _ _ _ _ P6)];exact Qo j v hj) (by rw[hvl,hs1];omega) h1v
 have mixed:Tryz.prog.follows Departure.mixedOrders=true:=by kernel_rfl
 have hw1:IntKind.i64.wrap ((i:Int)+1)=(i:Int)+1:=by rw[IntKind.wrap_i64];omega
 have hw2:IntKind.i64.wrap ((n:Int)+1)=(n:Int)+1:=by rw[IntKind.wrap_i64];omega
 have hb1:(0:Int)<=(i:Int)+1:=by omega
 have XT:i<=n:=by omega
 have htn:((i:Int)+1).toNat=i+1:=by omega
 have htn2:((n:Int)+1).toNat=n+1:=by omega
 have hb2:¬(c=i+1):=by omega
 have hb3:(i:Int)<=(n:Int)+1:=by omega
 have hb4:¬(c=i):=by omega
 clear hu1 hu2 hv0 hcc h1c h1v Qo hcv hW1 Dm
 go_enter Tryz.func158,Tryz.ntmps158
 go_wp2_with (simp only[hov])
 go_region_law_o (refine step_copy_runI rfl _ _ 110 110 rfl _ _ (by simp[Act.eval,Act.put]) (by simp[Act.eval,Act.put]) (hcp1 _ _ _) ?_)
 go_wp2_with (at_builtin;refine wpList_copy_runI _ rfl _ _ 110 30 rfl _ _ rfl rfl (hcp2 _ _) ?_)
 go_ret
 exact⟨rfl,rfl⟩
theorem Tv (w:World) (r us:Array Value) (t:TypeId):(w.alloc (.cells r t)).setRow w.heap.size us=w.alloc (.cells us t):=by
 unfold World.alloc World.setRow;congr 1;apply Array.ext_getElem?;intro k;simp only[Array.getElem?_modify,Array.getElem?_push];by_cases hk:w.heap.size=k
 .subst hk;simp
 .have:¬k=w.heap.size:=λe=>hk e.symm;simp[hk,this]
set_option maxHeartbeats 4000000 in
set_option maxRecDepth 100000 in
theorem Tryz.ins_grow (blk o n c i vb vo vc:Nat) (us1 us2:Array Value) (cs vs:List Value) (w:World) (i0:TypeInfo) (z:Value) (hi0:Tryz.prog.info? 32=some i0) (hz0:i0.zero=some z) (J5:i0.size=4) (hzs:z.cells.size=4) (hi:i<n) (hnc:n<=c) (BG:c<n+1) (hm:n+1<=maxLen) (hbig:(n+1)*i0.bytes<=140737488355328)
  (GK:cs.length=n*4) (hvl:vs.length=4) (Lr:∀j v,cs[j]?=some v->w.cell? ⟨blk,o+j,none⟩=some v) (Qo:∀j v,vs[j]?=some v->w.cell? ⟨vb,vo+j,none⟩=some v) (h1c:∀v∈cs,v.oneCell'=true) (h1v:∀v∈vs,v.oneCell'=true) (ROW:Array Value)
  (hROW:ROW=(cs.take (i*4)).toArray++Builtin.zeroCells z.cells (n+1-i)++Builtin.zeroCells z.cells (grownCap w (n+1) c 32-(n+1)))
  (hu1:us1=(ROW.toList.take (i*4)++vs++ROW.toList.drop (i*4+vs.length)).toArray) (hu2:us2=(us1.toList.take ((i+1)*4)++cs.drop (i*4)++us1.toList.drop ((i+1)*4+(cs.drop (i*4)).length)).toArray) :
  Calls Tryz.prog 158 #[.slice (some ⟨blk,o,none⟩) n c,.int .i64 i,.slice (some ⟨vb,vo,none⟩) 1 vc] w λe w'=>e=.returned (.slice (some ⟨w.heap.size,0,none⟩) (n+1) (grownCap w (n+1) c 32)) /\
   ∃q,w'=(w.drewN q).alloc (.cells us2 32):=by
 have hmm:maxLen<=9223372036854775807:=by unfold maxLen;omega
 have hz2:¬((i:Int)=(n:Int)):=by omega
 have hz3:(c:Int)<(n:Int)+1:=by omega
 have hszm:(Tryz.prog.info? 32).map (·.size)=some 4:=by rw[hi0];simp[J5]
 have zz:∀w,(Go.sizeOf 32).run Tryz.prog w=.ok 4 w:=λw=>by simp[Go.sizeOf,typeInfo,hi0,J5]
 have hbw:blk<w.heap.size:=block_lt_of_cell (Lr 0 _ (A0P (by omega)));have hvw:vb<w.heap.size:=block_lt_of_cell (Qo 0 _ (A0P (by omega)));have hik:i+(n+1-i)=n+1:=by omega
 have Tn:(n:Int)+1-(i:Int)=((n+1-i:Nat):Int):=by omega
 have hold:(Builtin.firstCells i0.size i (.slice (some ⟨blk,o,none⟩) i c)).run Tryz.prog w.drew=.ok (cs.take (i*4)).toArray w.drew:=by
  rw[J5];exact run_firstCells_some w.drew 4 i ⟨blk,o,none⟩ i c (cs.take (i*4)) (by rw[A0O,GK];omega) (λj v hj=>by
   rw[Addr.add_lit];rw[A0f]at hj;split at hj
   .exact Lr j v hj
   .cases hj)
 have hrz:∀ty,(Builtin.append_ #[110,3] ty #[.slice (some ⟨blk,o,none⟩) i c,.int .i64 ((n:Int)+1-(i:Int))]).run Tryz.prog w =
   .ok (.slice (some ⟨w.heap.size,0,none⟩) (n+1) (grownCap w (n+1) c 32)) (w.drew.alloc (.cells ROW 32)):=λty=>by
  have h:=Lib.run_append_grow_zeros w 110 3 ty 32 i0 z .i64 .i64 Tryz.setUnd Tryz.intUnd hi0 hz0 (some ⟨blk,o,none⟩) i c (cs.take (i*4)) hold (n+1-i) (by omega) (by omega) (by omega) (by omega)
   (by
     have:(n+1-i)*i0.bytes<=(n+1)*i0.bytes:=A0l _ (by omega);omega) (by rw[hik];exact growslice_fits BG hbig)
  rw[hik,←hROW]at h;rw[Tn];exact h
 obtain⟨G,hG⟩:∃G,G=grownCap w (n+1) c 32:=⟨_,rfl⟩;rw[←hG]at hrz hROW ⊢;have hGn:n+1<=G:=by rw[hG];exact grownCap_ge w _ _ _
 have hG63:G<=9223372036854775807:=by
  have:=grownCap_le_maxLen w (n+1) c 32 hm;rw[←hG]at this;omega
 have hRs:ROW.size=G*4:=by
  rw[hROW,A0Q,A0Q,size_zeroCells,size_zeroCells,hzs,A0c,A0O,GK];omega
 have hcur0:(w.drew.alloc (.cells ROW 32)).heap[w.heap.size]?=some (.cells ROW 32 (0,0)):=heap_alloc_new w.drew _;have hs1:us1.size=ROW.size:=by rw[hu1];simp;omega
 have hcell:∀(b j:Nat) (u:Value),b<w.heap.size->w.cell? ⟨b,j,none⟩=some u->∀r,(w.drew.alloc (.cells r 32)).cell? ⟨b,j,none⟩=some u:=λb j u hb hu r=>by
  rw[World.cell?_alloc_past (w:=w.drew) _ b j hb];exact hu
 have hcpA:∀ty dc,(Builtin.copy_ #[110,30] ty #[.slice (some ⟨w.heap.size,i*4,none⟩) (n+1-i) dc,.slice (some ⟨vb,vo,none⟩) 1 vc]).run Tryz.prog (w.alloc (.cells ROW 32)).drew=.ok (goInt (1:Nat)) (w.alloc (.cells us1 32)).drew:=λty dc=>by
  have h:=QK (w.drew.alloc (.cells ROW 32)) 110 30 ty 32 4 w.heap.size (i*4) (n+1-i) dc ⟨vb,vo,none⟩ 1 vc 1 ROW 32 vs Tryz.setUnd hszm hcur0 (by simp only[A0n];split<;>omega) (by rw[hvl])
   (λj v hj=>by rw[Addr.add_lit];exact hcell vb _ _ hvw (Qo j v hj) _) (by rw[hvl,hRs];omega) h1v
  rw[←hu1]at h;exact h.trans (congrArg _ (Tv w.drew ROW us1 _))
 have hcur1:(w.drew.alloc (.cells us1 32)).heap[w.heap.size]?=some (.cells us1 32 (0,0)):=heap_alloc_new w.drew _;have Dm:(cs.drop (i*4)).length=(n-i)*4:=by rw[A0d,GK,A00]
 have hcpB:∀ty dc sc,(Builtin.copy_ #[110,110] ty #[.slice (some ⟨w.heap.size,(i+1)*4,none⟩) (n-i) dc,.slice (some ⟨blk,o+i*4,none⟩) (n-i) sc]).run Tryz.prog (w.alloc (.cells us1 32)).drew.drew=.ok (goInt (n-i:Nat)) (w.alloc (.cells us2 32)).drew.drew:=λty dc sc=>by
  have h:=QK (w.drew.drew.alloc (.cells us1 32)) 110 110 ty 32 4 w.heap.size ((i+1)*4) (n-i) dc ⟨blk,o+i*4,none⟩ (n-i) sc (n-i) us1 32 (cs.drop (i*4)) Tryz.setUnd hszm hcur1 (by simp) Dm
   (λj v hj=>by
    rw[Addr.add_lit,A0v];exact hcell blk _ _ hbw (Lr _ v (by rwa [A0U]at hj)) _) (by rw[Dm,hs1,hRs];omega) (λv hv=>h1c v (A0k hv))
  rw[←hu2]at h;exact h.trans (congrArg _ (Tv w.drew.drew us1 us2 _))
 have hW:∀r,(w.drew.alloc (.cells r 32)).drew=w.drew.drew.alloc (.cells r 32):=λr=>rfl;have mixed:Tryz.prog.follows Departure.mixedOrders=true:=by kernel_rfl
 have hGi:¬(G=i):=by omega
 have hGim:¬(G=i+1):=by omega
 have hci:¬(c=i):=by omega
 have hw1:IntKind.i64.wrap ((i:Int)+1)=(i:Int)+1:=by rw[IntKind.wrap_i64];omega
 have hw2:IntKind.i64.wrap ((n:Int)+1)=(n:Int)+1:=by rw[IntKind.wrap_i64];omega
 have hb1:(0:Int)<=(i:Int)+1:=by omega
 have XT:i<=n:=by omega
 have htn:((i:Int)+1).toNat=i+1:=by omega
 have hb3:(i:Int)<=(n:Int):=by omega
 clear Tn hik hold hROW hG hu1 hu2 hcell hcur0 hcur1 hRs hs1 Dm
 go_enter Tryz.func158,Tryz.ntmps158
 go_wp2_with (first
  |(at_builtin;refine Lib.wpList_append_run _ rfl _ _ _ _ rfl _ _ rfl rfl _ _ (hrz _) ?_)
  |(at_builtin;refine wpList_copy_runI _ rfl _ _ 110 30 rfl _ _ rfl rfl (hcpA _ _) ?_))
 go_region_law_o (refine step_copy_runI rfl _ _ 110 110 rfl (.slice (some ⟨w.heap.size,(i+1)*4,none⟩) (n-i) (G-(i+1))) (.slice (some ⟨blk,o+i*4,none⟩) (n-i) (c-i)) (by simp[Act.eval,Act.put]) (by simp[Act.eval,Act.put]) (hcpB _ _ _) ?_)
 go_wp2
 go_ret
 exact⟨rfl,2,rfl⟩
end Go.Proofs
namespace Go.Abs
theorem Om {α:Type} {cs vs:List α} {A:Nat} (hA:A<=cs.length) (j:Nat):(cs.take A++vs++cs.drop A)[j]?=if j<A then cs[j]? else if j<A+vs.length then vs[j-A]? else cs[j-vs.length]?:=by
 by_cases h1:j<A
 .rw[if_pos h1,A0Y (by rw[A0R,A0O];omega),A0Y (by rw[A0O];omega),A0f,if_pos h1]
 .rw[if_neg h1];by_cases h2:j<A+vs.length
  .rw[if_pos h2,A0Y (by rw[A0R,A0O];omega),A0g (by rw[A0O];omega),A0O,A0s hA]
  .rw[if_neg h2,A0g (by rw[A0R,A0O];omega),A0R,A0O,A0s hA,A0U];congr 1;omega
theorem QN {cur us:Array Value} {vs:List Value} {off:Nat} (Dr:off+vs.length<=cur.size) (WH:us=(cur.toList.take off++vs++cur.toList.drop (off+vs.length)).toArray) (j:Nat):us[j]?=if j<off then cur[j]? else if j<off+vs.length then vs[j-off]? else cur[j]?:=by
 have:=Kk (l:=cur.toList) (off:=off) (vs:=vs) (by simpa using Dr) j;simp only[Array.getElem?_toList]at this;rw[WH,A0W,this]
theorem wA {cur us:Array Value} {cs vs:List Value} {o N:Nat} (GK:cs.length=N) (hcc:∀j,j<N->cur[o+j]?=cs[j]?) (Dr:o+N+vs.length<=cur.size) (WH:us=(cur.toList.take (o+N)++vs++cur.toList.drop (o+N+vs.length)).toArray) :
  ∀j,j<N+vs.length->us[o+j]?=(cs.take N++vs++cs.drop N)[j]?:=by
 intro j hj;rw[QN Dr WH,Om (by omega)];by_cases h1:j<N
 .rw[if_pos (by omega),if_pos h1,hcc j h1]
 .rw[if_neg (by omega),if_pos (by omega),if_neg h1,if_pos hj];congr 1;omega
theorem wC {cur us1 us2:Array Value} {cs vs:List Value} {o N A:Nat} (GK:cs.length=N) (hA:A<=N) (hcc:∀j,j<N->cur[o+j]?=cs[j]?) (Dr:o+N+vs.length<=cur.size)
  (hu1:us1=(cur.toList.take (o+(A+vs.length))++cs.drop A++cur.toList.drop (o+(A+vs.length)+(cs.drop A).length)).toArray) (hu2:us2=(us1.toList.take (o+A)++vs++us1.toList.drop (o+A+vs.length)).toArray) :
  us2.size=cur.size/\∀j,j<N+vs.length->us2[o+j]?=(cs.take A++vs++cs.drop A)[j]?:=by
 have hd:(cs.drop A).length=N-A:=by rw[A0d,GK]
 have hs1:us1.size=cur.size:=by rw[hu1];simp;omega
 refine⟨by rw[hu2];simp;omega,λj hj=>?_⟩;rw[QN (by omega) hu2,Om (by omega)];by_cases h1:j<A
 .rw[if_pos (by omega),if_pos h1,QN (by omega) hu1,if_pos (by omega),hcc j (by omega)]
 .rw[if_neg (by omega),if_neg h1];by_cases h2:j<A+vs.length
  .rw[if_pos (by omega),if_pos h2];congr 1;omega
  .rw[if_neg (by omega),if_neg h2,QN (by omega) hu1,if_neg (by omega),if_pos (by omega),A0U];congr 1;omega
end Go.Abs
namespace Go.Proofs
open Go.RowKit Go.Lib Go.Abs
set_option maxRecDepth 100000 in
theorem Tryz.insLaw:InsLaw Tryz.prog 158 4 56:=by
 obtain⟨i0,z,hi0,J5,hz0,hzs,hby⟩:∃i0 z,Tryz.prog.info? 32=some i0/\i0.size=4/\i0.zero=some z/\z.cells.size=4/\i0.bytes=56:=⟨_,_,rfl,by kernel_rfl,rfl,by kernel_rfl,by kernel_rfl⟩;refine⟨by omega,by kernel_rfl,?_,?_⟩
 .intro w blk o n c i vb vo vc cur t cs vs XT hnc hcm GK hvl hcur hcc Dr Qo P6 h1c h1v;rcases A0x i n with A7|hge
  .obtain⟨us1,hu1⟩:∃us1,us1=(cur.toList.take (o+(i+1)*4)++cs.drop (i*4)++cur.toList.drop (o+(i+1)*4+(cs.drop (i*4)).length)).toArray:=⟨_,rfl⟩;obtain⟨us2,hu2⟩:∃us2,us2=(us1.toList.take (o+i*4)++vs++us1.toList.drop (o+i*4+vs.length)).toArray:=⟨_,rfl⟩;have h:=wC (o:=o) (A:=i*4) (vs:=vs) GK (A0l _ XT) hcc (by omega) (by rw[hvl,←A0y];exact hu1) hu2;rw[hvl,←A0y]at h;exact(Tryz.ins_shift blk o n c i vb vo vc cur us1 us2 t cs vs w A7 hnc hcm GK hvl P6 hcur Dr hcc Qo h1c h1v hu1 hu2).mono λe w' ⟨h1,h2⟩=>⟨h1,1,us2,h2.trans (setRow_setRow _ _ _ _),h⟩
  .have e:i=n:=by omega
   subst e;obtain⟨us,WH⟩:∃us,us=(cur.toList.take (o+i*4)++vs++cur.toList.drop (o+i*4+vs.length)).toArray:=⟨_,rfl⟩;have h:=wA (o:=o) (vs:=vs) GK hcc (by omega) WH;refine(Tryz.ins_end_room blk o i c vb vo vc cur t vs w hnc hcm hvl hcur Dr Qo h1v us WH).mono λe w' ⟨h1,h2⟩=>⟨h1,0,us,h2,?_,?_⟩
   .rw[WH];simp;omega
   .intro j hj;exact h j (by omega)
 .intro w base n c i vb vo vc cs vs XT hnc BG hm hbig GK hvl hnil Lr Qo h1c h1v;have hbig':(n+1)*i0.bytes<=140737488355328:=by rw[hby];exact hbig
  have hG1:=grownCap_ge w (n+1) c 32;have hG2:=grownCap_le_maxLen w (n+1) c 32 hm;rcases A0x i n with A7|hge
  .cases base with
   |none=>exact absurd (hnil rfl) (by omega)
   |some a =>
    obtain⟨blk,o,sp⟩:=a;obtain⟨hsp,Lr⟩:=Lr _ rfl;have:=hsp (by omega);simp only at this;subst this;have hcs':∀j v,cs[j]?=some v->w.cell? ⟨blk,o+j,none⟩=some v:=λj v hj=>by
     have:=Lr j v hj
     rwa [FQ]at this
    obtain⟨ROW,hROW⟩:∃ROW,ROW=(cs.take (i*4)).toArray++Builtin.zeroCells z.cells (n+1-i)++Builtin.zeroCells z.cells (grownCap w (n+1) c 32-(n+1)):=⟨_,rfl⟩;obtain⟨us1,hu1⟩:∃us1,us1=(ROW.toList.take (i*4)++vs++ROW.toList.drop (i*4+vs.length)).toArray:=⟨_,rfl⟩;obtain⟨us2,hu2⟩:∃us2,us2=(us1.toList.take ((i+1)*4)++cs.drop (i*4)++us1.toList.drop ((i+1)*4+(cs.drop (i*4)).length)).toArray:=⟨_,rfl⟩;have hRs:ROW.size=grownCap w (n+1) c 32*4:=by
     rw[hROW,A0Q,A0Q,size_zeroCells,size_zeroCells,hzs,A0c,A0O,GK];omega
    have hR0:∀j,j<i*4->ROW[j]?=cs[j]?:=λj hj=>by
     rw[hROW,A0S (by simp;omega),A0S (by simp;omega),A0W,A0f,if_pos hj]
    have hs1:us1.size=ROW.size:=by rw[hu1];simp;omega
    have hd:(cs.drop (i*4)).length=n*4-i*4:=by rw[A0d,GK]
    refine(Tryz.ins_grow blk o n c i vb vo vc us1 us2 cs vs w i0 z hi0 hz0 J5 hzs A7 hnc BG hm hbig' GK hvl hcs' Qo h1c h1v ROW hROW hu1 hu2).mono λe w' ⟨h1,q,h2⟩=>⟨q,_,us2,_,h1,h2,hG1,hG2,?_,?_⟩
    .rw[hu2];simp;omega
    .intro j hj;rw[QN (by omega) hu2,Om (by omega),hvl];by_cases h1:j<i*4
     .rw[if_pos (by omega),if_pos h1,QN (by omega) hu1,if_pos h1,hR0 j h1]
     .rw[if_neg h1];by_cases h2:j<i*4+4
      .rw[if_pos (by omega),if_pos h2,QN (by omega) hu1,if_neg h1,if_pos (by omega)]
      .rw[if_neg (by omega),if_neg h2,if_pos (by omega),A0U];congr 1;omega
  .have e:i=n:=by omega
   subst e;refine(Tryz.ins_end_grow base i c vb vo vc cs vs w i0 z hi0 hz0 J5 hnc BG hm hbig' GK hvl hnil (λa ha=>(Lr a ha).2) Qo h1v).mono λe w' ⟨h1,h2⟩=>⟨1,_,_,_,h1,h2,hG1,hG2,?_,?_⟩
   .rw[A0Q,size_zeroCells,hzs,A0c,A0R,GK,hvl];omega
   .intro j hj;rw[A0S (by simp;omega),A0W,A0V (by omega),List.drop_eq_nil_of_le (by omega),A0h]
end Go.Proofs
namespace Go.Abs
open Go.RowKit (Below)
section
variable {P:Program} {E:Env}
structure InsLaw0 (P:Program) (f:FuncId) (K bytes:Nat):Prop where
 pos:0<K
 enter:Program.enterable P f=true
 newR:∀(w:World) (base:Option Addr) (vb vo vc:Nat) (vs:List Value),bytes<=H3->vs.length=K->(∀j v,vs[j]?=some v->w.cell? ⟨vb,vo+j,none⟩=some v)->(∀v∈vs,v.oneCell'=true) ->
  Calls P f #[.slice base 0 0,.int .i64 0,.slice (some ⟨vb,vo,none⟩) 1 vc] w λe w'=>∃(q G:Nat) (us:Array Value) (t:TypeId),e=.returned (.slice (some ⟨w.heap.size,0,none⟩) 1 G)/\w'=(w.drewN q).alloc (.cells us t)/\1<=G/\G<=maxLen/\G*K<=us.size /\
   ∀j,j<K->us[j]?=vs[j]?
theorem iV {f:FuncId} {K bytes:Nat} (L:InsLaw0 P f K bytes) (O:Orc) (args:G4) (h:AH) (r:AV) (h':AH) (he:(kz K bytes).run O args h=some (r,h')):Program.enterable P f=true /\
  ∀(E:Env) (vs:Array Value),SR E->E.h=h->Bh E args vs.toList ->
   Calls P f vs E.w λe w'=>∃u E',e=.returned u/\w'=E'.w/\Ext E E'/\SR E'/\E'.h=h'/\VR E' r u:=by
 refine⟨L.enter,λE avs hS hh hv=>?_⟩;subst hh;change UE K bytes args E.h=some (r,h')at he;unfold UE at he;split at he
 .rename_i z' i0 x0;unfold Pv at he;split at he
  .rename_i s i q z x heq;cases heq;split at he
   .rename_i hc0;obtain⟨hzK,hag⟩:=hc0;obtain⟨avs⟩:=avs;simp only[Bh]at hv;obtain⟨v0,_,rfl,hv0,v1,_,rfl,hv1,v2,_,rfl,hv2,rfl⟩:=hv;simp only[VR]at hv1;subst hv1;obtain⟨vb,vo,vc,vs,rfl,hvl,hvc,hv1c,hvr,hK⟩:=aD hS hzK hv2;have hvc1:∀j u,vs[j]?=some u->E.w.cell? ⟨vb,vo+j,none⟩=some u:=λj u hu=>(hvc j u hu).1;simp only at he;split at he
    .rename_i hc;obtain⟨rfl,hb⟩:=hc;cases he;simp only[VR,PV]at hv0;obtain⟨base,len,cap,rfl,rfl,_,_,h4',_,_⟩:=hv0;have hcap:cap=0:=h4' trivial;subst hcap;refine(L.newR E.w base vb vo vc vs hb hvl hvc1 hv1c).mono λe w' ⟨q,G,us,te,h1,h2,h3,h4,h5,h6⟩=>?_;have x1:=Bn hS (Hy E.w q);have s1:=HJ hS (Hy E.w q);refine⟨_,({E with w:=E.w.drewN q}:Env).newFam us te G ⟨[x],K,true⟩,h1,h2,x1.trans (Kc s1 _ _ _ _),PY s1 hK (by simpa using h3) h4 h5 (λj y hy=>?_),rfl,?_⟩
     .obtain⟨g1,g2⟩:=Qs x1 hvr j y hy;refine⟨g1,λc y' hy'=>?_⟩;obtain⟨v,v1,v2⟩:=g2 c y' hy';have hjn:j=0:=by have:=(A0Z.1 hy).1;simpa using this
      have hcK:c<K:=by have:=(A0Z.1 hy').1;omega
      subst hjn;rw[Nat.zero_mul,A0e]at v1 ⊢;exact⟨v,by rw[h6 _ hcK];exact v1,v2⟩
     .simp only[VR,Env.newFam,u7];exact⟨_,_,⟨[x],K,true⟩,rfl,by simp,⟨by simp,λ_=>⟨_,_,rfl⟩⟩,λ_=>⟨A0o _,by simp,by simp,(λh=>nomatch h),λ_=>by simp⟩⟩
    .cases he
   .cases he
  .cases he
 .cases he
structure GrowLaw (P:Program) (f:FuncId) (K bytes:Nat):Prop where
 pos:0<K
 enter:Program.enterable P f=true
 zero:∀(w:World) (base:Option Addr),Calls P f #[.slice base 0 0,.int .i64 0] w λe w'=>e=.returned (.slice base 0 0)/\w'=w
 some:∀(w:World) (base:Option Addr) (n:Nat),0<n->n*bytes<=H3->n<=maxLen ->
  Calls P f #[.slice base 0 0,.int .i64 n] w λe w'=>∃(q G:Nat) (us:Array Value) (t:TypeId),e=.returned (.slice (some ⟨w.heap.size,0,none⟩) 0 G)/\w'=(w.drewN q).alloc (.cells us t)/\G<=maxLen/\G*K<=us.size
theorem iU {f:FuncId} {K bytes:Nat} (L:GrowLaw P f K bytes) (O:Orc) (args:G4) (h:AH) (r:AV) (h':AH) (he:(Zn K bytes).run O args h=some (r,h')):Program.enterable P f=true /\
  ∀(E:Env) (vs:Array Value),SR E->E.h=h->Bh E args vs.toList ->
   Calls P f vs E.w λe w'=>∃u E',e=.returned u/\w'=E'.w/\Ext E E'/\SR E'/\E'.h=h'/\VR E' r u:=by
 refine⟨L.enter,λE avs hS hh hv=>?_⟩;subst hh;change SI K bytes args E.h=some (r,h')at he;unfold SI at he;split at he
 .rename_i z n;obtain⟨avs⟩:=avs;simp only[Bh]at hv;obtain⟨v0,_,rfl,hv0,v1,_,rfl,hv1,rfl⟩:=hv;simp only[VR]at hv1;subst hv1;have hv0':=hv0;simp only[VR,PV]at hv0;obtain⟨base,len,cap,rfl,rfl,_,_,h4',_,_⟩:=hv0;have hcap:cap=0:=h4' trivial;subst hcap;split at he
  .rename_i h0;subst h0;cases he;exact(L.zero E.w base).mono λe w' ⟨h1,h2⟩=>⟨_,E,h1,h2,Ext.refl E,hS,rfl,hv0'⟩
  .split at he
   .rename_i hc;obtain⟨c1,c2,c3⟩:=hc;cases he;obtain⟨m,rfl⟩:∃m:Nat,n=m:=⟨n.toNat,by omega⟩;refine(L.some E.w base m (by omega) (by exact_mod_cast c2) (by exact_mod_cast c3)).mono λe w' ⟨q,G,us,te,h1,h2,h3,h4⟩=>?_;have x1:=Bn hS (Hy E.w q);have s1:=HJ hS (Hy E.w q);refine⟨_,({E with w:=E.w.drewN q}:Env).newFam us te G ⟨[],K,false⟩,h1,h2,x1.trans (Kc s1 _ _ _ _),PY s1 L.pos (A0o _) h3 h4 (λj y hy=>by simp at hy),rfl,?_⟩
    simp only[VR,Env.newFam,u7];exact⟨_,_,⟨[],K,false⟩,rfl,by simp,⟨by simp,λh=>absurd rfl h⟩,λ_=>⟨A0o _,by simp,by simp,(λh=>nomatch h),λ_=>by simp⟩⟩
   .cases he
 .cases he
end
end Go.Abs
set_option linter.unusedVariables false
set_option linter.unusedSimpArgs false
namespace Go.Proofs
open Go.RowKit Go.Lib Go.Abs
theorem Tryz.powsUnd:Tryz.prog.underlying 163=some (.slice 167):=by kernel_rfl
set_option maxHeartbeats 4000000 in
set_option maxRecDepth 100000 in
theorem Tryz.insp_nil (base:Option Addr) (vb vo vc:Nat) (vs:List Value) (w:World) (i0:TypeInfo) (z:Value) (hi0:Tryz.prog.info? 167=some i0) (hz0:i0.zero=some z) (J5:i0.size=5) (hbig:i0.bytes<=140737488355328)
  (hvl:vs.length=5) (Qo:∀j v,vs[j]?=some v->w.cell? ⟨vb,vo+j,none⟩=some v) (h1v:∀v∈vs,v.oneCell'=true) :
  Calls Tryz.prog 311 #[.slice base 0 0,.int .i64 0,.slice (some ⟨vb,vo,none⟩) 1 vc] w λe w'=>e=.returned (.slice (some ⟨w.heap.size,0,none⟩) 1 (grownCap w 1 0 167)) /\
   w'=w.drew.alloc (.cells (vs.toArray++Builtin.zeroCells z.cells (grownCap w 1 0 167-1)) 167):=by
 have hsrc:Src Tryz.prog i0.size 163 (.slice (some ⟨vb,vo,none⟩) 1 vc) 1 vs w:=Src.ofSlice w Tryz.powsUnd ⟨vb,vo,none⟩ 1 vc vs (by rw[J5,hvl]) (λj u hj=>by rw[Addr.add_lit];exact Qo j u hj) h1v;have hold:(Builtin.firstCells i0.size 0 (.slice base 0 0)).run Tryz.prog w.drew=.ok ([]:List Value).toArray w.drew:=by
  rw[J5];cases base with
  |none=>exact run_firstCells_none w.drew 5 0 0 0
  |some a=>exact run_firstCells_some w.drew 5 0 a 0 0 [] rfl (λj v hj=>by simp at hj)
 have hrun:∀ty,(Builtin.append_ #[163,163] ty #[.slice base 0 0,.slice (some ⟨vb,vo,none⟩) 1 vc]).run Tryz.prog w=_:=λty =>
  run_append_grow_src w 163 163 ty 167 i0 z Tryz.powsUnd hi0 hz0 base 0 0 [] hold _ 1 vs hsrc (by omega) (by omega) (growslice_fits (by omega) (by rw[A0e,Nat.one_mul];exact hbig))
 rw[A0e,List.nil_append]at hrun;generalize hG:grownCap w 1 0 167=G at *
 generalize hR:vs.toArray++Builtin.zeroCells z.cells (G-1)=R at *
 clear hR hold hsrc hG
 go_enter Tryz.func311,Tryz.ntmps311
 cases base with
 |none =>
  go_wp2_with (at_builtin;refine Lib.wpList_append_run _ rfl _ _ _ _ rfl _ _ rfl rfl _ _ (hrun _) ?_)
  go_ret
  exact⟨rfl,rfl⟩
 |some a =>
  obtain⟨ab,ao,asp⟩:=a
  go_wp2_with (at_builtin;refine Lib.wpList_append_run _ rfl _ _ _ _ rfl _ _ rfl rfl _ _ (hrun _) ?_)
  all_goals (go_ret;exact⟨rfl,rfl⟩)
set_option maxRecDepth 100000 in
theorem Tryz.insLawP:InsLaw0 Tryz.prog 311 5 64:=by
 obtain⟨i0,z,hi0,J5,hz0,hzs,hby⟩:∃i0 z,Tryz.prog.info? 167=some i0/\i0.size=5/\i0.zero=some z/\z.cells.size=5/\i0.bytes=64:=⟨_,_,rfl,by kernel_rfl,rfl,by kernel_rfl,by kernel_rfl⟩;refine⟨by omega,by kernel_rfl,?_⟩;intro w base vb vo vc vs hb hvl Qo h1v;have hG1:=grownCap_ge w 1 0 167;have hG2:=grownCap_le_maxLen w 1 0 167 (by unfold maxLen;omega);refine(Tryz.insp_nil base vb vo vc vs w i0 z hi0 hz0 J5 (by rw[hby];omega) hvl Qo h1v).mono λe w' ⟨h1,h2⟩=>⟨1,_,_,_,h1,h2,hG1,hG2,?_,?_⟩
 .rw[A0Q,size_zeroCells,hzs,A0c,hvl];omega
 .intro j hj;rw[A0S (by simp;omega),A0W]
set_option maxHeartbeats 4000000 in
set_option maxRecDepth 100000 in
theorem Tryz.growZero (base:Option Addr) (w:World):Calls Tryz.prog 147 #[.slice base 0 0,.int .i64 0] w λe w'=>e=.returned (.slice base 0 0)/\w'=w:=by
 go_enter Tryz.func147,Tryz.ntmps147
 go_wp2
 go_ret
 exact⟨rfl,rfl⟩
set_option maxHeartbeats 4000000 in
set_option maxRecDepth 100000 in
theorem Tryz.growSome (base:Option Addr) (n:Nat) (w:World) (i0:TypeInfo) (z:Value) (hi0:Tryz.prog.info? 32=some i0) (hz0:i0.zero=some z) (J5:i0.size=4) (h0:0<n) (hm:n<=maxLen) (hbig:n*i0.bytes<=140737488355328) :
  Calls Tryz.prog 147 #[.slice base 0 0,.int .i64 n] w λe w'=>e=.returned (.slice (some ⟨w.heap.size,0,none⟩) 0 (grownCap w n 0 32)) /\
   w'=w.drew.alloc (.cells (Builtin.zeroCells z.cells n++Builtin.zeroCells z.cells (grownCap w n 0 32-n)) 32):=by
 have hmm:maxLen<=9223372036854775807:=by unfold maxLen;omega
 have mixed:Tryz.prog.follows Departure.mixedOrders=true:=by kernel_rfl
 have hold:(Builtin.firstCells i0.size 0 (.slice base 0 0)).run Tryz.prog w.drew=.ok ([]:List Value).toArray w.drew:=by
  rw[J5];cases base with
  |none=>exact run_firstCells_none w.drew 4 0 0 0
  |some a=>exact run_firstCells_some w.drew 4 0 a 0 0 [] rfl (λj v hj=>by simp at hj)
 have hrz:∀ty,(Builtin.append_ #[30,3] ty #[.slice base 0 0,.int .i64 (n:Int)]).run Tryz.prog w =
   .ok (.slice (some ⟨w.heap.size,0,none⟩) n (grownCap w n 0 32)) (w.drew.alloc (.cells (Builtin.zeroCells z.cells n++Builtin.zeroCells z.cells (grownCap w n 0 32-n)) 32)):=λty=>by
  have h:=Lib.run_append_grow_zeros w 30 3 ty 32 i0 z .i64 .i64 Tryz.termsUnd Tryz.intUnd hi0 hz0 base 0 0 [] hold n (by omega) (by omega) (by omega) (by omega) (by omega)
   (by rw[A0e];exact growslice_fits (need:=n) (by omega) hbig)
  rw[A0e]at h;simpa using h
 have hG63:grownCap w n 0 32<=9223372036854775807:=by
  have:=grownCap_le_maxLen w n 0 32 hm;omega
 generalize hG:grownCap w n 0 32=G at *
 generalize hR:Builtin.zeroCells z.cells n++Builtin.zeroCells z.cells (G-n)=R at *
 have h1:¬((n:Int)<0):=by omega
 have h2:wrap64 (n:Int)=(n:Int):=by unfold wrap64;omega
 have h4:(n:Int) > 0:=by omega
 clear hR hold hG
 go_enter Tryz.func147,Tryz.ntmps147
 cases base with
 |none =>
  go_wp2_with (at_builtin;refine Lib.wpList_append_run _ rfl _ _ _ _ rfl _ _ rfl rfl _ _ (hrz _) ?_)
  all_goals (go_ret;exact⟨rfl,rfl⟩)
 |some a =>
  obtain⟨ab,ao,asp⟩:=a
  go_wp2_with (at_builtin;refine Lib.wpList_append_run _ rfl _ _ _ _ rfl _ _ rfl rfl _ _ (hrz _) ?_)
  all_goals (go_ret;exact⟨rfl,rfl⟩)
set_option maxRecDepth 100000 in
theorem Tryz.growLaw:GrowLaw Tryz.prog 147 4 56:=by
 obtain⟨i0,z,hi0,J5,hz0,hzs,hby⟩:∃i0 z,Tryz.prog.info? 32=some i0/\i0.size=4/\i0.zero=some z/\z.cells.size=4/\i0.bytes=56:=⟨_,_,rfl,by kernel_rfl,rfl,by kernel_rfl,by kernel_rfl⟩;refine⟨by omega,by kernel_rfl,λw base=>Tryz.growZero base w,λw base n h0 hb hm=>?_⟩;have hG1:=grownCap_ge w n 0 32;refine(Tryz.growSome base n w i0 z hi0 hz0 J5 h0 hm (by rw[hby];exact hb)).mono λe w' ⟨h1,h2⟩=>⟨1,_,_,_,h1,h2,grownCap_le_maxLen w n 0 32 hm,?_⟩;rw[A0Q,size_zeroCells,size_zeroCells,hzs];omega
end Go.Proofs
namespace Go.Proofs
set_option maxHeartbeats 1000000 in
set_option maxRecDepth 100000 in
theorem Tryz.cmpString (a b:ByteArray) (w:World) :
  Calls Tryz.prog 134 #[.string a,.string b] w λe w'=>e=.returned (.int .i64 (Lib.compareBytes a.data.toList b.data.toList))/\w'=w:=by
 go_enter Tryz.func134,Tryz.ntmps134
 go_wp2
 rw[run_callFunc_extern Tryz.func187 (by kernel_rfl) (by kernel_rfl) (by kernel_rfl) (e:=Extern.BytealgCompare.compare) (by kernel_rfl),Lib.run_compareString];simp only[Result.andThen];rw[Oper.upon_value]
 go_wp2
 go_ret
 exact⟨rfl,rfl⟩
set_option maxHeartbeats 1000000 in
set_option maxRecDepth 100000 in
theorem Tryz.sliteIndexByte (s:ByteArray) (c:Int) (w:World) :
  Calls Tryz.prog 359 #[.string s,.int .u8 c] w λe w'=>e=.returned (.int .i64 (Lib.indexByte s.data.toList c.toNat.toUInt8))/\w'=w:=by
 go_enter Tryz.func359,Tryz.ntmps359
 go_wp2
 rw[run_callFunc_extern Tryz.func391 (by kernel_rfl) (by kernel_rfl) (by kernel_rfl) (e:=Extern.BytealgIndexByte.indexByte) (by kernel_rfl),Lib.run_indexByteString];simp only[Result.andThen];rw[Oper.upon_value]
 go_wp2
 go_ret
 exact⟨rfl,rfl⟩
set_option maxHeartbeats 2000000 in
set_option maxRecDepth 100000 in
theorem Tryz.sliteIndexOne (s:ByteArray) (c:UInt8) (w:World) :
  Calls Tryz.prog 304 #[.string s,.string ⟨#[c]⟩] w λe w'=>e=.returned (.int .i64 (Lib.indexByte s.data.toList c))/\w'=w:=by
 go_enter Tryz.func304,Tryz.ntmps304
 go_wp2_with (go_at_call 359;refine(Tryz.sliteIndexByte _ _ _).mono ?_;rintro e w' ⟨rfl,rfl⟩)
 .have h:([c] == s.toList)=true:=by assumption
  go_ret
  refine⟨?_,rfl⟩;have e:s.data.toList=[c]:=by rw[←Lib.toList_data];exact(beq_iff_eq.1 h).symm
  rw[e];simp[Lib.indexByte]
 .go_ret
  exact⟨rfl,rfl⟩
set_option maxHeartbeats 1000000 in
theorem Tryz.stringsIndexOne (s:ByteArray) (c:UInt8) (w:World) :
  Calls Tryz.prog 249 #[.string s,.string ⟨#[c]⟩] w λe w'=>e=.returned (.int .i64 (Lib.indexByte s.data.toList c))/\w'=w:=by
 go_enter Tryz.func249,Tryz.ntmps249
 go_wp2_with (go_at_call 304;refine(Tryz.sliteIndexOne _ _ _).mono ?_;rintro e w' ⟨rfl,rfl⟩)
 go_ret
 exact⟨rfl,rfl⟩
set_option maxHeartbeats 1000000 in
theorem Tryz.stringsContainsOne (s:ByteArray) (c:UInt8) (w:World) :
  Calls Tryz.prog 195 #[.string s,.string ⟨#[c]⟩] w λe w'=>e=.returned (.bool (decide (0<=Lib.indexByte s.data.toList c)))/\w'=w:=by
 go_enter Tryz.func195,Tryz.ntmps195
 go_wp2_with (go_at_call 249;refine(Tryz.stringsIndexOne _ _ _).mono ?_;rintro e w' ⟨rfl,rfl⟩)
 go_ret
 exact⟨rfl,rfl⟩
end Go.Proofs
namespace Go.Abs.Q
open Go.Proofs
open Go.RowKit (Below)
theorem XF:∀(a b:List UInt8),Lib.compareBytes a b=if Op.bytesLess a b then -1 else if a=b then 0 else 1
 | [],[]=>by simp[Lib.compareBytes,Op.bytesLess]
 | [],_::_=>by simp[Lib.compareBytes,Op.bytesLess]
 |_::_,[]=>by simp[Lib.compareBytes,Op.bytesLess]
 |x::a,y::b=>by
  simp only[Lib.compareBytes,Op.bytesLess,XF a b];by_cases h:x<y
  .simp[h]
  .by_cases h':y<x
   .have P6:x≠y:=λe=>h (e ▸ h');simp[h,h',P6]
   .have he:x=y:=by
     apply UInt8.le_antisymm
     .exact UInt8.not_lt.1 h'
     .exact UInt8.not_lt.1 h
    subst he;simp[h]
theorem dp (a b:J3):V4 a b=Lib.compareBytes a.data.toList b.data.toList:=by
 rw[XF,V4,Lib.toList_data,Lib.toList_data]
theorem Sp (c:UInt8):∀l:List UInt8,0<=Lib.indexByte l c↔c∈l
 | []=>by simp[Lib.indexByte]
 |b::l=>by
  have ih:=Sp c l;have hge:=Lib.indexByte_ge l c;by_cases h:b=c
  .subst h;simp[Lib.indexByte]
  .have h1:Lib.indexByte (b::l) c=if Lib.indexByte l c=-1 then -1 else Lib.indexByte l c+1:=by
    simp[Lib.indexByte,h]
   have h2:¬c=b:=λe=>h e.symm;rw[h1,A0u];by_cases h3:Lib.indexByte l c=-1
   .rw[if_pos h3];constructor
    .intro k;omega
    .rintro(k|k)
     .exact absurd k h2
     .have:=ih.2 k;omega
   .rw[if_neg h3];constructor
    .intro k;exact .inr (ih.1 (by omega))
    .intro k;omega
theorem Yu (l:List UInt8) (c:UInt8):decide (0<=Lib.indexByte l c)=l.contains c:=by
 rw[Bool.eq_iff_iff,decide_eq_true_iff,Sp];simp
theorem mixed:Tryz.prog.follows .mixedOrders=true:=by kernel_rfl
theorem vz (f:FuncId) (s:RSpec) (h:YU f=some s):(f=D9/\s=af 4)\/(f=N5/\s=mY 4 56)\/(f=O7/\s=kz 5 64)\/(f=Q1/\s=Zn 4 56):=by
 unfold YU at h;split at h
 .rename_i hf;cases h;exact .inl ⟨hf,rfl⟩
 .split at h
  .rename_i hf;cases h;exact .inr (.inl ⟨hf,rfl⟩)
  .split at h
   .rename_i hf;cases h;exact .inr (.inr (.inl ⟨hf,rfl⟩))
   .split at h
    .rename_i hf;cases h;exact .inr (.inr (.inr ⟨hf,rfl⟩))
    .cases h
theorem QS:CfgS Tryz.prog Q:=by
 refine⟨λf rf h=>?_,λf s hs args r hr=>?_,mixed,λf s hs O hP args h r h' he=>?_⟩
 .have h1:BQ f=some rf:=(Qr f).symm.trans h;unfold BQ at h1;split at h1
  .cases h1
  .exact h1
 rotate_left 1
 .have hs':YU f=some s:=hs;rcases vz f s hs' with ⟨rfl,rfl⟩|⟨rfl,rfl⟩|⟨rfl,rfl⟩|⟨rfl,rfl⟩
  .exact kB Tryz.sortLays (by kernel_rfl) 4 Tryz.isAgg32 Tryz.sizeOf32 hP args h r h' he
  .exact mZ Tryz.insLaw O args h r h' he
  .exact iV Tryz.insLawP O args h r h' he
  .exact iU Tryz.growLaw O args h r h' he
 have hs':Qk f=some s:=(Uq f).symm.trans hs;unfold Qk at hs';split at hs'
 .rename_i hf;subst hf;cases hs';unfold dC at hr;split at hr
  .rename_i a b;cases hr;refine⟨by kernel_rfl,λw ok0 vs _ hv=>?_⟩;have Qo:vs=#[.string a,.string b]:=by
    simp only[Dk,PV]at hv;obtain⟨u,us,h1,rfl,u',us',rfl,rfl,rfl⟩:=hv;cases vs
    simp_all
   subst Qo;refine(Tryz.cmpString a b w).mono λe w' ⟨he,hw⟩=>?_;subst hw;exact⟨_,he,Bl.refl _ _,by simp[PV,dp]⟩
  .cases hr
 .split at hs'
  .rename_i hf;subst hf;cases hs';unfold dD at hr;split at hr
   .rename_i a b;split at hr
    .rename_i c hb;cases hr;refine⟨by kernel_rfl,λw ok0 vs _ hv=>?_⟩;have hb':b=⟨#[c]⟩:=by
      obtain⟨⟨l⟩⟩:=b;simp at hb;rw[hb]
     subst hb';have Qo:vs=#[.string a,.string ⟨#[c]⟩]:=by
      simp only[Dk,PV]at hv;obtain⟨u,us,h1,rfl,u',us',rfl,rfl,rfl⟩:=hv;cases vs
      simp_all
     subst Qo;refine(Tryz.stringsContainsOne a c w).mono λe w' ⟨he,hw⟩=>?_;subst hw;exact⟨_,he,Bl.refl _ _,by simp[PV,Yu]⟩
    .cases hr
   .cases hr
  .cases hs'
end Go.Abs.Q
namespace Go.Abs.Q
open Go.Proofs
open Go.Proofs.YtohjdamplbhdpaaGreatDoor (Rows.uptoBulk Rows.uptoBulkAll)
variable {w:World}
theorem cAt:Tryz.prog.cellsOf 42=2:=by kernel_rfl
theorem xi {α:Type}:∀{l:List α},l.length=2->∃a b,l=[a,b]
 | [a,b],_=>⟨a,b,rfl⟩
theorem sB (n:Nat):OD Tryz.prog w 42 (λp:Int×Int=>[.int .i64 p.1,.int .i64 p.2]) (λ_=>True) (λ_=>1) n:=by
 intro H enc cs x hx;obtain⟨m,xs,rfl,GK,Zs,hx1,hf⟩:=Kl Tryz.underlying42 cAt hx;obtain⟨y0,hy0,h0⟩:=hf 0 _ rfl;obtain⟨y1,hy1,h1⟩:=hf 1 _ rfl;clear hf;obtain⟨v0,v1,rfl⟩:=xi GK;obtain⟨z0,z1,rfl⟩:=xi Zs;simp only[List.getElem?_cons_zero,List.getElem?_cons_succ,Option.some.injEq]at hy0 hy1;subst hy0 hy1;simp only[List.getElem_toArray,List.getElem_cons_zero,List.getElem_cons_succ,qZ,List.drop_zero,List.drop_succ_cons,List.take_succ_cons,List.take_zero]at h0 h1;obtain⟨a,-,w0,cv0⟩:=JE (w:=w) Tryz.underlying3 m enc _ _ h0;obtain⟨b,-,w1,cv1⟩:=JE (w:=w) Tryz.underlying3 m enc _ _ h1;refine⟨(a,b),trivial,?_,CD cv0 cv1⟩;rw[hx1];dsimp only at w0 w1;simp only[A0t,A0w,Rows.uptoBulk,Rows.uptoBulkAll];omega
theorem qC {w:World} {cs:G4} {us:Array Value} (h:CV w cs us.toList):PV w (xn w) (.agg cs) (.agg us):=by
 simp only[PV];exact⟨us,rfl,h.2,h.1⟩
end Go.Abs.Q
namespace Go.Proofs.YtohjdamplbhdpaaGreatDoor
open Go.ChangeShapes Go.WideShapes Go.ChangeAt Go.RowKit Go.Abs Go.Abs.Q
theorem own:ownKnob Tryz.prog.godebug=none:=by kernel_rfl
theorem laidOut:laidOutB Tryz.prog=true:=by kernel_rfl
def A0A:DataW Unit->List Value
 | .lit (.int k n)=>[.int k n]
 |_=>[]
def wP:DataW Unit->List Value
 | .agg l=>l.flatMap A0A
 |_=>[]
def A0B:DataW Unit->List Value
 | .agg l=>l.flatMap wP
 |_=>[]
def Zv (l:List Value):Obj->Obj
 | .cells _ t frozen=>.cells l.toArray t frozen
 |o=>o
noncomputable def VF (os:Os):World :=
 {World.holding Tryz.prog os ⟨#[],#[],[]⟩with heap:=((World.holding Tryz.prog os ⟨#[],#[],[]⟩).heap.modify 1 (Zv (wP Rows.laid_unicode_utf8_first))).modify 2 (Zv (A0B Rows.laid_unicode_utf8_acceptRanges))}
end Go.Proofs.YtohjdamplbhdpaaGreatDoor
namespace Go.Abs.Q
open Go.Proofs
attribute [local simp] E6 E7 fin K1 H4 P2 L5 R0 Q9
def NO (m:Bool×Bool) (a:ByteArray):Tm:=Uy (bs [115,107]) m [Hv a]
def Lm (m:Bool×Bool) (a:ByteArray):Tm:=Uy (bs [112,107]) m [NO m a]
def Sa (m:Bool×Bool) (a b:ByteArray):Tm:=Uy (bs [115,104,107]) m [Hv a,Hv b]
def U7 (acc l:List Tm):List Tm:=l.foldl LT acc
theorem PL (acc a b:G6):U7 acc (a++b)=U7 (U7 acc a) b:=List.foldl_append
theorem Bj:∀(l acc:G6),(U7 acc l).length<=acc.length+l.length
 | [],acc=>A0z _
 |t::l,acc=>by
  have h1:=Bj l (LT acc t);have h2:=(da acc t).1;show (U7 (LT acc t) l).length<=_;rw[List.length_cons];omega
theorem Bk:∀(l acc:G6) {x:Tm},x∈U7 acc l->x∈acc\/x∈l
 | [],acc,x,h=>.inl h
 |t::l,acc,x,h=>by
  rcases Bk l (LT acc t) h with h|h
  .rcases df h with h|h
   .exact .inl h
   .exact .inr (h ▸ List.mem_cons_self)
  .exact .inr (List.mem_cons_of_mem _ h)
def Lw (m:Bool×Bool) (me:ByteArray) (rs:List ByteArray) (role:Nat):Nat->List Tm
 |0=>[]
 |i+1=>Lw m me rs role i++(if i=role then []else match rs[i]? with|some r=>[Sa m me r,Sa m r me]|none=>[])
def OZ (me:ByteArray) (s:Ste):Bool:=decide (s.frm=me)||decide (s.to=me)
def Si (me:ByteArray) (l:List Ste):List Tm:=(l.filter (OZ me)).map Ste.msg
theorem fD {me:J3} {l:List Ste} {i:Nat} (h:i<l.length):Si me (l.take (i+1))=Si me (l.take i)++(if OZ me l[i]=true then [l[i].msg]else []):=by
 unfold Si;rw[A0T h,List.filter_append,A0q];congr 1;by_cases hb:OZ me l[i]=true
 .rw[if_pos hb,List.filter_cons_of_pos hb];rfl
 .rw[if_neg hb,List.filter_cons_of_neg hb];rfl
theorem Sb (m:I6) (me:J3) (rs:List ByteArray) (role:Nat):∀i,(Lw m me rs role i).length<=2*i
 |0=>A0z _
 |i+1=>by
  have:=Sb m me rs role i;rw[Lw,A0R];split
  .simp;omega
  .split<;>simp<;>omega
theorem Re (m:I6) (me:J3) (rs:List ByteArray) (role:Nat):∀i,∀x∈Lw m me rs role i,x.size=3
 |0,x,h=>by simp[Lw]at h
 |i+1,x,h=>by
  rw[Lw,List.mem_append]at h;rcases h with h|h
  .exact Re m me rs role i x h
  .split at h
   .simp at h
   .split at h
    .simp only[A0u,List.not_mem_nil,or_false]at h;rcases h with rfl|rfl<;>rfl
    .simp at h
theorem PR {me:J3} {l:List Fre} {x:Tm} (h:x∈Hz me l):x.size=1:=by
 unfold Hz at h;rw[A0b]at h;obtain⟨f,-,rfl⟩:=h;rfl
theorem fY (r n:Nar) (role:Nat) (me:J3) (hme:r.roles[role]?=some me) (i:Nat) (hi:i<r.steps.length):pc Q GH [HV r n,.int .i64 (role:Nat),.int .i64 (i:Nat)]=some (.bool (OZ me r.steps[i])):=by
 have sb:=DJ r n;have hme':Hm (r.roles.map AV.str) role=some (.str me):=G1 hme;have hx:=G1 (f:=El) (A0P hi);unfold OZ;generalize r.steps[i]=s at *
 by_cases hq:s.frm=me
 .rw[show (decide (s.frm=me)||decide (s.to=me))=true from by simp[hq]];refine Gp W8 λfr hl h0 h1 h2=>?_;simp[W8]at hl h0 h1 h2;simp[W8,hl,h0,h1,h2,sb,hme',hx,hq]
 .rw[show (decide (s.frm=me)||decide (s.to=me))=decide (s.to=me) from by simp[hq]];have P6:=hq;refine Gp W8 λfr hl h0 h1 h2=>?_;simp[W8]at hl h0 h1 h2;simp[W8,hl,h0,h1,h2,sb,hme',hx,P6]
theorem rZ (rs:List ByteArray) (m0:I6) (B9:rs.length<=1000) (acc:G6) (hal:acc.length<=1000) (has:∀x∈acc,x.size<=1099511627776) (B0:List (List AV)) (fr:Fr) (h:AH) (hh:h.boxes=B0) (v0:AV) (hv0:A0 fr 8=v0) (hg0:KF false 4 (A4 acc) v0 h) (hl:fr.length=102) (h29:A0 fr 29=sl m0 1 (rs.map AV.str)) (h30:A0 fr 30=.int .i64 rs.length) (h31:A0 fr 31=.int .i64 0) :
  B7 (lp (A2 (K8 Q) (D6 N9) Af) (fr,h)) λe C3 h'=>Kp Af.wr fr C3/\e=.exit 0/\h'.boxes=B0/\KF false 4 (A4 (U7 acc (rs.map (Lm (true,true))))) (A0 C3 8) h':=by
 refine B4 rfl fr (λn fr h'=>∃(i:Nat),i+n=rs.length/\A0 fr 31=.int .i64 (i:Nat)/\(∃v,A0 fr 8=v/\h'.boxes=B0/\KF false 4 (A4 (U7 acc ((rs.take i).map (Lm (true,true))))) v h')) ?_ rs.length h ⟨0,by omega,h31,_,hv0,hh,hg0⟩;rintro J Φ hJ hΦ n D5 H1 K ⟨i,hi,k31,hr⟩;have A6:=K.1.trans hl;have k29:=A8 K 29 h29;have k30:=A8 K 30 h30;clear K;by_cases A7:i<rs.length
 .have L4:=C6 i (by omega);obtain⟨v,k8,hB,hg⟩:=hr;obtain⟨bx,fams⟩:=H1;simp only at hB;subst hB;have hx:=G1 (f:=AV.str) (A0P A7);have CK:=Bj ((rs.take i).map (Lm (true,true))) acc;rw[A0a,A0O]at CK;have J5:∀x∈U7 acc ((rs.take i).map (Lm (true,true))),x.size<=1099511627776:=λx hx=>by
   rcases Bk _ _ hx with h|h
   .exact has x h
   .rw[A0b]at h;obtain⟨a,-,rfl⟩:=h;simp[Lm,NO,Uy,Hv,Tm.size,Tm.sizes]
  have Q4:(rs.take (i+1)).map (Lm (true,true))=(rs.take i).map (Lm (true,true))++[Lm (true,true) rs[i]]:=by
   rw[A0T A7,A0q,A0t,A0w]
  generalize rs[i]=a at *
  have hG:=Xw a;have hA:=Xx (bs [115,107]) (true,true) [Hv a];have hA2:=Xx (bs [112,107]) (true,true) [NO (true,true) a];rw[show A4 [Hv a]=[B8 (Hv a)] from rfl]at hA;rw[show A4 [NO (true,true) a]=[B8 (NO (true,true) a)] from rfl]at hA2;change pc Q Ax _=some (B8 (NO (true,true) a))at hA;change pc Q Ax _=some (B8 (Lm (true,true) a))at hA2;obtain⟨v',F',hK,Z9⟩:=UV _ v ⟨bx,fams⟩ hg (Lm (true,true) a) (by omega) J5 (by simp[Lm,NO,Uy,Hv,Tm.size,Tm.sizes]);have e1:LT (U7 acc ((rs.take i).map (Lm (true,true)))) (Lm (true,true) a)=U7 acc ((rs.take (i+1)).map (Lm (true,true))):=by
   rw[Q4,PL];rfl
  rw[e1]at Z9;clear e1 Q4 hg J5;generalize Lm (true,true) a=t2 at *
  generalize NO (true,true) a=t1 at *
  generalize Hv a=t0 at *
  simp[Af,A6,k29,k30,k31,A7,L4,k8,hx,hG,hA,hA2,A5,hK];exact G0 hJ ⟨i+1,by omega,by simp[A6],v',by simp[A6],rfl,Z9⟩
 .obtain⟨v,k8,hB,hg⟩:=hr;rw[A0V (by omega)]at hg;simp[Af,A6,k30,k31,A7];exact hΦ _ _ _ ⟨rfl,hB,by simp[k8];exact I2 hg rfl⟩
theorem rY (rs:List ByteArray) (m0:I6) (B9:rs.length<=1000) (acc:G6) (hal:acc.length<=2000) (has:∀x∈acc,x.size<=1099511627776) (role:Nat) (me:J3) (C0:G4) (fr:Fr) (h:AH) (hh:h.boxes=[C0,(B8 (Hv me)).cells]) (v0:AV) (hv0:A0 fr 8=v0) (hg0:KF false 4 (A4 acc) v0 h) (hl:fr.length=102) (h1:A0 fr 1=.int .i64 (role:Nat)) (h7:A0 fr 7=.ptr 1 0) (h46:A0 fr 46=sl m0 1 (rs.map AV.str)) (h47:A0 fr 47=.int .i64 rs.length) (h48:A0 fr 48=.int .i64 0) :
  B7 (lp (A2 (K8 Q) (D6 N9) Z7) (fr,h)) λe C3 h'=>Kp Z7.wr fr C3/\e=.exit 2/\h'.boxes=[C0,(B8 (Hv me)).cells]/\KF false 4 (A4 (U7 acc (Lw (true,true) me rs role rs.length))) (A0 C3 8) h':=by
 refine B4 rfl fr (λn fr h'=>∃(i:Nat),i+n=rs.length/\A0 fr 48=.int .i64 (i:Nat)/\(∃v,A0 fr 8=v/\h'.boxes=[C0,(B8 (Hv me)).cells]/\KF false 4 (A4 (U7 acc (Lw (true,true) me rs role i))) v h')) ?_ rs.length h ⟨0,by omega,h48,_,hv0,hh,hg0⟩;rintro J Φ hJ hΦ n D5 H1 K ⟨i,hi,k48,hr⟩;have A6:=K.1.trans hl;have k1:=A8 K 1 h1;have k7:=A8 K 7 h7;have k46:=A8 K 46 h46;have k47:=A8 K 47 h47;clear K;by_cases A7:i<rs.length
 .have L4:=C6 i (by omega);obtain⟨v,k8,hB,hg⟩:=hr;obtain⟨bx,fams⟩:=H1;simp only at hB;subst hB;have hx:=G1 (f:=AV.str) (A0P A7);have CK:=Bj (Lw (true,true) me rs role i) acc;have hl3:=Sb (true,true) me rs role i;have J5:∀x∈U7 acc (Lw (true,true) me rs role i),x.size<=1099511627776:=λx hx=>by
   rcases Bk _ _ hx with h|h
   .exact has x h
   .have:=Re _ _ _ _ _ x h;omega
  have Q4:Lw (true,true) me rs role (i+1)=Lw (true,true) me rs role i++(if i=role then []else [Sa (true,true) me rs[i],Sa (true,true) rs[i] me]):=by
   rw[Lw,A0P A7]
  generalize rs[i]=a at *
  by_cases hir:i=role
  .rw[if_pos hir,A0h]at Q4;rw[←Q4]at hg;subst hir;simp[Z7,A6,k1,k46,k47,k48,A7,L4,hx];exact G0 hJ ⟨i+1,by omega,by simp[A6],v,by simp[k8],by simp,I2 hg rfl⟩
  .rw[if_neg hir]at Q4;have hii:¬(i:Int)=(role:Int):=by omega
   have hG:=Xw a;have hA:=Xx (bs [115,104,107]) (true,true) [Hv me,Hv a];have hA2:=Xx (bs [115,104,107]) (true,true) [Hv a,Hv me];rw[show A4 [Hv me,Hv a]=[B8 (Hv me),B8 (Hv a)] from rfl]at hA;rw[show A4 [Hv a,Hv me]=[B8 (Hv a),B8 (Hv me)] from rfl]at hA2;change pc Q Ax _=some (B8 (Sa (true,true) me a))at hA;change pc Q Ax _=some (B8 (Sa (true,true) a me))at hA2;obtain⟨v',F',hK,Z9⟩:=UV _ v ⟨[C0,(B8 (Hv me)).cells],fams⟩ hg (Sa (true,true) me a) (by omega) J5 (by simp[Sa,Uy,Hv,Tm.size,Tm.sizes]);obtain⟨v2,F2,hK2,hg2⟩:=UV _ v' ⟨[C0,(B8 (Hv me)).cells],F'⟩ Z9 (Sa (true,true) a me) (by have:=(da (U7 acc (Lw (true,true) me rs role i)) (Sa (true,true) me a)).1;omega) (λx hx=>by
    rcases df hx with h|h
    .exact J5 x h
    .subst h;simp[Sa,Uy,Hv,Tm.size,Tm.sizes]) (by simp[Sa,Uy,Hv,Tm.size,Tm.sizes])
   have e1:LT (LT (U7 acc (Lw (true,true) me rs role i)) (Sa (true,true) me a)) (Sa (true,true) a me)=U7 acc (Lw (true,true) me rs role (i+1)):=by
    rw[Q4,PL];rfl
   rw[e1]at hg2;clear e1 Q4 hg Z9 J5;generalize Sa (true,true) me a=t2 at *
   generalize Sa (true,true) a me=t1 at *
   simp only[I3]at hK hK2;generalize Hv a=t0 at *
   generalize Hv me=tm at *
   simp[Z7,A6,k1,k7,k46,k47,k48,A7,L4,k8,hx,hii,hG,hA,hA2,A5,hK,hK2];exact G0 hJ ⟨i+1,by omega,by simp[A6],v2,by simp[A6],by simp,hg2⟩
 .obtain⟨v,k8,hB,hg⟩:=hr;have hi2:i=rs.length:=by omega
  subst hi2;simp[Z7,A6,k47,k48];exact hΦ _ _ _ ⟨rfl,hB,by simp[k8];exact I2 hg rfl⟩
theorem rX (l:G6) (m0:I6) (B9:l.length<=1000) (acc:G6) (hal:acc.length<=5000) (has:∀x∈acc,x.size<=1099511627776) (hls:∀x∈l,x.size<=1099511627776) (C0:G4) (fr:Fr) (h:AH) (B0:List (List AV)) (hB0:h.boxes=C0::B0) (v0:AV) (hv0:A0 fr 8=v0) (hg0:KF false 4 (A4 acc) v0 h) (hl:fr.length=102) (h73:A0 fr 73=sl m0 4 (A4 l)) (h74:A0 fr 74=.int .i64 l.length) (h75:A0 fr 75=.int .i64 0) :
  B7 (lp (A2 (K8 Q) (D6 N9) Ae) (fr,h)) λe C3 h'=>Kp Ae.wr fr C3/\e=.exit 4/\(∃B,h'.boxes=C0::B)/\KF false 4 (A4 (U7 acc l)) (A0 C3 8) h':=by
 refine B4 rfl fr (λn fr h'=>∃(i:Nat),i+n=l.length/\A0 fr 75=.int .i64 (i:Nat)/\(∃(B:List (List AV)) (v:AV),A0 fr 8=v/\h'.boxes=C0::B/\KF false 4 (A4 (U7 acc (l.take i))) v h')) ?_ l.length h ⟨0,by omega,h75,_,_,hv0,hB0,hg0⟩;rintro J Φ hJ hΦ n D5 H1 K ⟨i,hi,k75,hr⟩;have A6:=K.1.trans hl;have k73:=A8 K 73 h73;have k74:=A8 K 74 h74;clear K;by_cases A7:i<l.length
 .have L4:=C6 i (by omega);obtain⟨B,v,k8,hB,hg⟩:=hr;obtain⟨bx,fams⟩:=H1;simp only at hB;subst hB;have hx:=I0 A7;have CK:=Bj (l.take i) acc;rw[A0O]at CK;have J5:∀x∈U7 acc (l.take i),x.size<=1099511627776:=λx hx=>by
   rcases Bk _ _ hx with h|h
   .exact has x h
   .exact hls x (A0X h)
  have hli:=hls _ (A0p A7);have Q4:l.take (i+1)=l.take i++[l[i]]:=A0T A7;generalize l[i]=t at *
  obtain⟨v',F',hK,Z9⟩:=UV _ v ⟨C0::(B++[(B8 t).cells]),fams⟩ (I2 hg rfl) t (by omega) J5 hli;have e1:LT (U7 acc (l.take i)) t=U7 acc (l.take (i+1)):=by
   rw[Q4,PL];rfl
  rw[e1]at Z9;clear e1 Q4 hg J5;simp only[I3]at hK;simp[Ae,A6,k73,k74,k75,A7,L4,k8,hx,hK];exact G0 hJ ⟨i+1,by omega,by simp[A6],_,v',by simp[A6],rfl,I2 Z9 rfl⟩
 .obtain⟨B,v,k8,hB,hg⟩:=hr;rw[A0V (by omega)]at hg;simp[Ae,A6,k74,k75,A7];exact hΦ _ _ _ ⟨rfl,⟨B,hB⟩,by simp[k8];exact I2 hg rfl⟩
theorem rW (r na:Nar) (l:List Ste) (q:Nat) (hq:q<=r.steps.length) (hlq:l=r.steps.take q) (B9:l.length<=1000) (acc:G6) (hal:acc.length<=7000) (has:∀x∈acc,x.size<=1099511627776) (hls:∀x∈l,x.msg.size<=1099511627776) (role:Nat) (me:J3) (hme:r.roles[role]?=some me) (fr:Fr) (h:AH) (B0:List (List AV)) (hB0:h.boxes=(HV r na).cells::B0) (v0:AV) (hv0:A0 fr 8=v0) (hg0:KF false 4 (A4 acc) v0 h) (hl:fr.length=102) (h1:A0 fr 1=.int .i64 (role:Nat)) (h3:A0 fr 3=.ptr 0 0) (h83:A0 fr 83=.int .i64 l.length) (h84:A0 fr 84=.int .i64 0) :
  B7 (lp (A2 (K8 Q) (D6 N9) Z6) (fr,h)) λe C3 h'=>Kp Z6.wr fr C3/\e=.exit 6/\KF false 4 (A4 (U7 acc (Si me l))) (A0 C3 8) h':=by
 refine B4 rfl fr (λn fr h'=>∃(i:Nat),i+n=l.length/\A0 fr 84=.int .i64 (i:Nat)/\(∃(B:List (List AV)) (v:AV),A0 fr 8=v/\h'.boxes=(HV r na).cells::B/\KF false 4 (A4 (U7 acc (Si me (l.take i)))) v h')) ?_ l.length h ⟨0,by omega,h84,_,_,hv0,hB0,hg0⟩;rintro J Φ hJ hΦ n D5 H1 K ⟨i,hi,k84,hr⟩;have A6:=K.1.trans hl;have k1:=A8 K 1 h1;have k3:=A8 K 3 h3;have k83:=A8 K 83 h83;clear K;by_cases A7:i<l.length
 .have L4:=C6 i (by omega);obtain⟨B,v,k8,hB,hg⟩:=hr;obtain⟨bx,fams⟩:=H1;simp only at hB;subst hB;have sb:=DJ r na;have hlr:i<r.steps.length:=by rw[hlq,A0O]at A7;omega
  have hli:l[i]=r.steps[i]:=by simp only[hlq,List.getElem_take]
  have hx:=G1 (f:=El) (A0P hlr);have hI:=fY r na role me hme i hlr;have CK:=Bj (Si me (l.take i)) acc;have hml:(Si me (l.take i)).length<=i:=by
   unfold Si;rw[A0a];have:=A0i (OZ me) (l.take i);rw[A0O]at this;omega
  have J5:∀x∈U7 acc (Si me (l.take i)),x.size<=1099511627776:=λx hx=>by
   rcases Bk _ _ hx with h|h
   .exact has x h
   .unfold Si at h;rw[A0b]at h;obtain⟨s,hs,rfl⟩:=h;exact hls s (A0X (A0r.1 hs).1)
  have hli2:=hls _ (A0p A7);have Q4:=fD (me:=me) A7;rw[hli]at Q4 hli2;generalize r.steps[i]=s at *
  cases hb:OZ me s with
  |false =>
   rw[hb]at Q4 hI;simp only[A0m,if_false,A0h]at Q4;rw[←Q4]at hg;simp[Z6,A6,k1,k3,k83,k84,A7,L4,sb,hI];exact G0 hJ ⟨i+1,by omega,by simp[A6],_,v,by simp[k8],by rw[sb],I2 hg rfl⟩
  |true =>
   rw[hb]at Q4 hI;simp only[if_true]at Q4;obtain⟨v',F',hK,Z9⟩:=UV _ v ⟨(HV r na).cells::B,fams⟩ hg s.msg (by omega) J5 hli2;have e1:LT (U7 acc (Si me (l.take i))) s.msg=U7 acc (Si me (l.take (i+1))):=by
    rw[Q4,PL];rfl
   rw[e1]at Z9;clear e1 Q4 hg J5;rw[sb]at hK;simp[Z6,A6,k1,k3,k83,k84,A7,L4,sb,k8,hI,hx,hK];exact G0 hJ ⟨i+1,by omega,by simp[A6],B,v',by simp[A6],by rw[sb],I2 Z9 rfl⟩
 .obtain⟨B,v,k8,hB,hg⟩:=hr;rw[A0V (by omega)]at hg;simp[Z6,A6,k83,k84,A7];exact hΦ _ _ _ ⟨rfl,by simp[k8];exact I2 hg rfl⟩
def Ss (m:Bool×Bool) (r n:Nar) (me:ByteArray) (role q:Nat):List Tm :=
 U7 (U7 (U7 (U7 [NO m me] (r.roles.map (Lm m))) (Lw m me r.roles role r.roles.length)) (Hz me n.fresh)) (Si me (r.steps.take q))
structure Smol (r n:Nar):Prop where
 roles:r.roles.length<=1000
 fresh:n.fresh.length<=1000
 steps:r.steps.length<=1000
 msgs:∀s∈r.steps,s.msg.size<=1048576
theorem Mi (m:I6) (a b:J3):(NO m a).size=2/\(Lm m a).size=3/\(Sa m a b).size=3:=⟨rfl,rfl,rfl⟩
theorem We {m:I6} {r n:Nar} {me:J3} {role q:Nat} (h:Smol r n):(Ss m r n me role q).length<=10000:=by
 unfold Ss;have h1:=Bj (r.roles.map (Lm m)) [NO m me];have h2:=Bj (Lw m me r.roles role r.roles.length) (U7 [NO m me] (r.roles.map (Lm m)));have h3:=Bj (Hz me n.fresh) (U7 (U7 [NO m me] (r.roles.map (Lm m))) (Lw m me r.roles role r.roles.length));have h4:=Bj (Si me (r.steps.take q)) (U7 (U7 (U7 [NO m me] (r.roles.map (Lm m))) (Lw m me r.roles role r.roles.length)) (Hz me n.fresh));have h5:=Sb m me r.roles role r.roles.length;have h6:=RE me n.fresh;have h7:(Si me (r.steps.take q)).length<=r.steps.length:=by
  unfold Si;rw[A0a];have:=A0i (OZ me) (r.steps.take q);rw[A0O]at this;omega
 rw[A0a,A0j]at h1;have:=h.roles;have:=h.fresh;have:=h.steps;omega
theorem vF {m:I6} {r n:Nar} {me:J3} {role q:Nat} {x:Tm} (h:x∈Ss m r n me role q):x=NO m me\/(∃a∈r.roles,x=Lm m a)\/x∈Lw m me r.roles role r.roles.length\/x∈Hz me n.fresh\/∃s∈r.steps,OZ me s=true/\x=s.msg:=by
 unfold Ss at h;rcases Bk _ _ h with h|h
 .rcases Bk _ _ h with h|h
  .rcases Bk _ _ h with h|h
   .rcases Bk _ _ h with h|h
    .exact .inl (by simpa using h)
    .rw[A0b]at h;obtain⟨a,ha,rfl⟩:=h;exact .inr (.inl ⟨a,ha,rfl⟩)
   .exact .inr (.inr (.inl h))
  .exact .inr (.inr (.inr (.inl h)))
 .unfold Si at h;rw[A0b]at h;obtain⟨s,hs,rfl⟩:=h;obtain⟨h1,h2⟩:=A0r.1 hs;exact .inr (.inr (.inr (.inr ⟨s,A0X h1,h2,rfl⟩)))
theorem YB (r n:Nar) (F:Fine n) (S:Lens n) (hz:(l8 n).2=0) (hs:Smol r n) (hrn:r.roles=n.roles) (role:Nat) (me:J3) (hme:r.roles[role]?=some me) (q:Nat) (hq:q<=r.steps.length) :
  ∃m,pc Q N9 [HV r n,.int .i64 (role:Nat),.int .i64 (q:Nat)]=some (sl m 4 (A4 (Ss (true,true) r n me role q))):=by
 suffices hQ:∃v,pc Q N9 [HV r n,.int .i64 (role:Nat),.int .i64 (q:Nat)]=some v/\∃m:Bool×Bool,v=sl m 4 (A4 (Ss (true,true) r n me role q)) by
  obtain⟨v,h1,m,rfl⟩:=hQ;exact⟨m,h1⟩
 have sb:=DJ r n;have hme':Hm (r.roles.map AV.str) role=some (.str me):=G1 hme;have hG:=Xw me;have hA:=Xx (bs [115,107]) (true,true) [Hv me];rw[show A4 [Hv me]=[B8 (Hv me)] from rfl]at hA;change pc Q Ax _=some (B8 (NO (true,true) me))at hA;obtain⟨mf,hFr⟩:=oq n F S hz role me (by rw[←hrn];exact hme);have s1:=hs.roles;have s2:=hs.fresh;have s3:=hs.steps;have b1:=Bj (r.roles.map (Lm (true,true))) [NO (true,true) me];rw[A0a,A0j]at b1;have b2:=Bj (Lw (true,true) me r.roles role r.roles.length) (U7 [NO (true,true) me] (r.roles.map (Lm (true,true))));have b5:=Sb (true,true) me r.roles role r.roles.length;have b3:=Bj (Hz me n.fresh) (U7 (U7 [NO (true,true) me] (r.roles.map (Lm (true,true)))) (Lw (true,true) me r.roles role r.roles.length));have b6:=RE me n.fresh;have z1:∀x∈[NO (true,true) me],x.size<=1099511627776:=λx hx=>by rw[List.mem_singleton.1 hx,(Mi _ me me).1];omega
 have z2:∀x∈U7 [NO (true,true) me] (r.roles.map (Lm (true,true))),x.size<=1099511627776:=λx hx=>by
  rcases Bk _ _ hx with h|h
  .exact z1 x h
  .rw[A0b]at h;obtain⟨a,-,rfl⟩:=h;rw[(Mi _ a a).2.1];omega
 have z3:∀x∈U7 (U7 [NO (true,true) me] (r.roles.map (Lm (true,true)))) (Lw (true,true) me r.roles role r.roles.length),x.size<=1099511627776:=λx hx=>by
  rcases Bk _ _ hx with h|h
  .exact z2 x h
  .rw[Re _ _ _ _ _ _ h];omega
 have z4:∀x∈U7 (U7 (U7 [NO (true,true) me] (r.roles.map (Lm (true,true)))) (Lw (true,true) me r.roles role r.roles.length)) (Hz me n.fresh),x.size<=1099511627776:=λx hx=>by
  rcases Bk _ _ hx with h|h
  .exact z3 x h
  .rw[PR h];omega
 unfold Ss;generalize hK1:U7 [NO (true,true) me] (r.roles.map (Lm (true,true)))=k1 at *
 generalize hK2:U7 k1 (Lw (true,true) me r.roles role r.roles.length)=k2 at *
 generalize hK3:U7 k2 (Hz me n.fresh)=k3 at *
 generalize hK4:U7 k3 (Si me (r.steps.take q))=k4 at *
 have nb:=E9 n;refine WL Iv λΨ hΨ fr hl h0 h1 h2=>?_;simp[Iv]at hl h0 h1 h2;simp[Iv,hl,h0,h1,sb,hme',hG,hA,A5];refine B7.mono (rZ r.roles r.rm s1 [NO (true,true) me] (by simp) z1 [(HV r n).cells,(B8 (Hv me)).cells] _ _ ?_ (sl (true,true) 4 (A4 [NO (true,true) me])) ?_ (qH _ _ _ _ _) ?_ ?_ ?_ ?_) ?_<;>first|(simp[hl,sb];done)|(simp[hl];rfl)|skip
 rintro e D5 ⟨bx,F1⟩ ⟨K,rfl,hB,hg⟩;have A6:D5.length=102:=K.1.trans (by simp[hl]);have k1':A0 D5 1=.int .i64 (role:Nat):=A8 K 1 (by simp[h1]);have k2':A0 D5 2=.int .i64 (q:Nat):=A8 K 2 (by simp[h2]);have k3':A0 D5 3=.ptr 0 0:=A8 K 3 (by simp[hl]);have k7':A0 D5 7=.ptr 1 0:=A8 K 7 (by simp[hl]);clear K;simp only at hB;subst hB;rw[hK1]at hg;generalize hv8:A0 D5 8=v8 at *
 simp[A6,k3',sb];refine B7.mono (rY r.roles r.rm s1 k1 (by omega) z2 role me (HV r n).cells _ _ ?_ v8 ?_ (I2 hg rfl) ?_ ?_ ?_ ?_ ?_ ?_) ?_<;>first|(simp[A6,sb,k1',k7',hv8];done)|skip
 rintro e R3 ⟨bx2,F2⟩ ⟨K,rfl,hB,hg2⟩;have CK:R3.length=102:=K.1.trans (by simp[A6]);have k1'':A0 R3 1=.int .i64 (role:Nat):=A8 K 1 (by simp[k1']);have k2'':A0 R3 2=.int .i64 (q:Nat):=A8 K 2 (by simp[k2']);have k3'':A0 R3 3=.ptr 0 0:=A8 K 3 (by simp[k3']);clear K hg;simp only at hB;subst hB;rw[hK2]at hg2;generalize hv8':A0 R3 8=v8' at *
 simp[CK,k1'',k3'',sb,hFr];refine B7.mono (rX (Hz me n.fresh) mf (by omega) k2 (by omega) z3 (λx hx=>by rw[PR hx];omega) (HV r n).cells _ _ [(B8 (Hv me)).cells] ?_ v8' ?_ (I2 hg2 rfl) ?_ ?_ ?_ ?_) ?_<;>first|(simp[CK,sb,hv8'];done)|skip
 rintro e fr3 ⟨bx3,F3⟩ ⟨K,rfl,⟨B3,hB⟩,hg3⟩;have hl3:fr3.length=102:=K.1.trans (by simp[CK]);have k1a:A0 fr3 1=.int .i64 (role:Nat):=A8 K 1 (by simp[k1'']);have k2a:A0 fr3 2=.int .i64 (q:Nat):=A8 K 2 (by simp[k2'']);have k3a:A0 fr3 3=.ptr 0 0:=A8 K 3 (by simp[k3'']);clear K hg2;simp only at hB;subst hB;rw[hK3]at hg3;generalize hv8a:A0 fr3 8=v8a at *
 have hql:(r.steps.take q).length=q:=by rw[A0O];omega
 simp[k2a];refine B7.mono (rW r n (r.steps.take q) q hq rfl (by omega) k3 (by omega) z4 (λx hx=>by have:=hs.msgs x (A0X hx);omega) role me hme _ _ B3 rfl v8a ?_ (I2 hg3 rfl) ?_ ?_ ?_ ?_ ?_) ?_<;>first|(simp[hl3,k1a,k3a,hv8a,hql];done)|skip
 rintro e fr4 ⟨bx4,F4⟩ ⟨K,rfl,hg4⟩;have hl4:fr4.length=102:=K.1.trans (by simp[hl3]);clear K hg3;rw[hK4]at hg4;obtain⟨mm,hf⟩:=Pl hg4;simp only at hf;simp[hl4,hf];exact hΨ _ ⟨mm,rfl⟩
end Go.Abs.Q
