/- A part of the proof. -/
import Derived.Test.YtohjdamplbhdpaaGreatDoorSK27
import Derived.Test.YtohjdamplbhdpaaGreatDoorProg
import Derived.ProofKit
import Derived.WalkKit
import Derived.Lib.Walk
import Derived.Lib.SliceRun
import Derived.Shelf.RegionOpenPlain
import Derived.Shelf.Spec.SlicesInsert
import Derived.KernelRfl
import Derived.Lib.AppendZerosOnto
import Derived.Laws.NewBlocks
import Derived.Lib.Strings
import Derived.Lib.Slices
import Derived.Lib.Bytealg
import Derived.Test.YtohjdamplbhdpaaGreatDoorCards
import Derived.Test.YtohjdamplbhdpaaGreatDoorTie
import Derived.OpenShut
import Derived.JoinedCond
import Derived.Deep.DeepHandedRow
import Derived.Lib.LaidTab
set_option linter.all false
open List renaming length_take->A0A,getElem?_eq_getElem->A0B,length_append->A0D,getElem?_drop->A0F,getElem?_toArray->A0G,getElem?_append_left->A0H,getElem?_eq_some_iff->A0I,size_toArray->A0J,length_drop->A0K,take_succ_eq_append_getElem->A0L,getElem?_take->A0N,getElem?_append_right->A0O,take_of_length_le->A0P,mem_of_mem_drop->A0Q,map_append->A0U,map_cons->A0W,mem_cons->A0X,map_nil->A0Z,mem_map->A0a
open Array renaming size_append->A0C,getElem?_append_left->A0E
open Nat renaming zero_add->A0M,mul_le_mul_right->A0R,min_def->A0S,zero_le->A0T,min_eq_left->A0V,add_assoc->A0Y,lt_or_ge->A0b,succ_mul->A0c,le_refl->A0d,sub_mul->A0e
set_option linter.unusedVariables false
set_option linter.unusedSimpArgs false
namespace Go.Proofs
open Go.RowKit Go.Lib Go.Abs
theorem Tryz.setUnd:Tryz.prog.underlying 110=some (.slice 32):=by kernel_rfl
theorem Tryz.termsUnd:Tryz.prog.underlying 30=some (.slice 32):=by kernel_rfl
theorem Tryz.intUnd:Tryz.prog.underlying 3=some (.int .i64):=by kernel_rfl
set_option maxHeartbeats 4000000 in
set_option maxRecDepth 100000 in
theorem Tryz.ins_end_room (blk o n c vb vo vc:Nat) (cur:Array Value) (t:TypeId) (vs:List Value) (w:World) (AY:n+1<=c) (hm:c<=maxLen) (hvl:vs.length=4) (hcur:w.heap[blk]?=some (.cells cur t (0,0))) (Cl:o+c*4<=cur.size)
  (OX:∀j v,vs[j]?=some v->w.cell? ⟨vb,vo+j,none⟩=some v) (h1v:∀v∈vs,v.oneCell'=true) (us:Array Value) (TU:us=(cur.toList.take (o+n*4)++vs++cur.toList.drop (o+n*4+vs.length)).toArray) :
  Calls Tryz.prog 158 #[.slice (some ⟨blk,o,none⟩) n c,.int .i64 n,.slice (some ⟨vb,vo,none⟩) 1 vc] w λe w'=>e=.returned (.slice (some ⟨blk,o,none⟩) (n+1) c)/\w'=w.setRow blk us:=by
 obtain⟨i0,hi0,I9⟩:∃i0,Tryz.prog.info? 32=some i0/\i0.size=4:=⟨_,rfl,by kernel_rfl⟩;have hrun:∀ty,(Builtin.append_ #[110,30] ty #[.slice (some ⟨blk,o,none⟩) n c,.slice (some ⟨vb,vo,none⟩) 1 vc]).run Tryz.prog w=_:=λty =>
  VK 110 30 ty 32 32 i0 Tryz.setUnd Tryz.termsUnd hi0 blk o n c cur t w hcur ⟨vb,vo,none⟩ 1 vc vs (by rw[I9,hvl]) (λj v hj=>by rw[Addr.add_lit];exact OX j v hj) h1v AY (by rw[I9,hvl];omega)
 rw[I9,←TU]at hrun;have xS:maxLen<=9223372036854775807:=by unfold maxLen;omega
 clear TU
 go_enter Tryz.func158,Tryz.ntmps158
 go_wp2_with (at_builtin;refine Lib.wpList_append_run _ rfl _ _ _ _ rfl _ _ rfl rfl _ _ (hrun _) ?_)
 go_ret
 exact⟨rfl,rfl⟩
set_option maxHeartbeats 4000000 in
set_option maxRecDepth 100000 in
theorem Tryz.ins_end_grow (base:Option Addr) (n c vb vo vc:Nat) (cs vs:List Value) (w:World) (i0:TypeInfo) (z:Value) (hi0:Tryz.prog.info? 32=some i0) (hz0:i0.zero=some z) (I9:i0.size=4) (hnc:n<=c) (AY:c<n+1) (hm:n+1<=maxLen) (hbig:(n+1)*i0.bytes<=140737488355328)
  (GF:cs.length=n*4) (hvl:vs.length=4) (hnil:base=none->n=0) (KE:∀a,base=some a->∀j v,cs[j]?=some v->w.cell? (a.add j)=some v) (OX:∀j v,vs[j]?=some v->w.cell? ⟨vb,vo+j,none⟩=some v) (h1v:∀v∈vs,v.oneCell'=true) :
  Calls Tryz.prog 158 #[.slice base n c,.int .i64 n,.slice (some ⟨vb,vo,none⟩) 1 vc] w λe w'=>e=.returned (.slice (some ⟨w.heap.size,0,none⟩) (n+1) (grownCap w (n+1) c 32)) /\
   w'=w.drew.alloc (.cells ((cs++vs).toArray++Builtin.zeroCells z.cells (grownCap w (n+1) c 32-(n+1))) 32):=by
 have xS:maxLen<=9223372036854775807:=by unfold maxLen;omega
 have hsrc:Src Tryz.prog i0.size 30 (.slice (some ⟨vb,vo,none⟩) 1 vc) 1 vs w:=Src.ofSlice w Tryz.termsUnd ⟨vb,vo,none⟩ 1 vc vs (by rw[I9,hvl]) (λj u hj=>by rw[Addr.add_lit];exact OX j u hj) h1v;have hold:(Builtin.firstCells i0.size n (.slice base n c)).run Tryz.prog w.drew=.ok cs.toArray w.drew:=by
  rw[I9];cases base with
  |none =>
   have h0:=hnil rfl;subst h0;have hc0:cs=[]:=List.length_eq_zero_iff.1 (by simpa using GF);rw[hc0];exact run_firstCells_none w.drew 4 0 0 c
  |some a=>exact run_firstCells_some w.drew 4 n a n c cs GF (λj v hj=>KE a rfl j v hj)
 have hrun:∀ty,(Builtin.append_ #[110,30] ty #[.slice base n c,.slice (some ⟨vb,vo,none⟩) 1 vc]).run Tryz.prog w=_:=λty =>
  run_append_grow_src w 110 30 ty 32 i0 z Tryz.setUnd hi0 hz0 base n c cs hold _ 1 vs hsrc AY (by omega) (growslice_fits AY hbig)
 generalize hG:grownCap w (n+1) c 32=G at *
 generalize hR:(cs++vs).toArray++Builtin.zeroCells z.cells (G-(n+1))=R at *
 clear hR hold hsrc hG
 go_enter Tryz.func158,Tryz.ntmps158
 cases base with
 |none =>
  have h0:=hnil rfl;subst h0
  go_wp2_with (at_builtin;refine Lib.wpList_append_run _ rfl _ _ _ _ rfl _ _ rfl rfl _ _ (hrun _) ?_)
  go_ret
  exact⟨rfl,rfl⟩
 |some a =>
  obtain⟨ab,ao,asp⟩:=a
  go_wp2_with (at_builtin;refine Lib.wpList_append_run _ rfl _ _ _ _ rfl _ _ rfl rfl _ _ (hrun _) ?_)
  all_goals (go_ret;exact⟨rfl,rfl⟩)
set_option maxHeartbeats 4000000 in
set_option maxRecDepth 100000 in
theorem Tryz.ins_shift (blk o n c i vb vo vc:Nat) (cur us1 us2:Array Value) (t:TypeId) (cs vs:List Value) (w:World) (hi:i<n) (AY:n+1<=c) (hm:c<=maxLen) (GF:cs.length=n*4) (hvl:vs.length=4) (P1:vb≠blk)
  (hcur:w.heap[blk]?=some (.cells cur t (0,0))) (Cl:o+c*4<=cur.size) (hcc:∀j,j<n*4->cur[o+j]?=cs[j]?) (OX:∀j v,vs[j]?=some v->w.cell? ⟨vb,vo+j,none⟩=some v) (h1c:∀v∈cs,v.oneCell'=true) (h1v:∀v∈vs,v.oneCell'=true)
  (hu1:us1=(cur.toList.take (o+(i+1)*4)++cs.drop (i*4)++cur.toList.drop (o+(i+1)*4+(cs.drop (i*4)).length)).toArray) (hu2:us2=(us1.toList.take (o+i*4)++vs++us1.toList.drop (o+i*4+vs.length)).toArray) :
  Calls Tryz.prog 158 #[.slice (some ⟨blk,o,none⟩) n c,.int .i64 i,.slice (some ⟨vb,vo,none⟩) 1 vc] w λe w'=>e=.returned (.slice (some ⟨blk,o,none⟩) (n+1) c)/\w'=(w.drew.setRow blk us1).setRow blk us2:=by
 have xS:maxLen<=9223372036854775807:=by unfold maxLen;omega
 have hz2:¬((i:Int)=(n:Int)):=by omega
 have I9:(Tryz.prog.info? 32).map (·.size)=some 4:=by kernel_rfl
 have zz:∀w,(Go.sizeOf 32).run Tryz.prog w=.ok 4 w:=λw=>by
  cases hq:Tryz.prog.info? 32 with
  |none=>simp[hq]at I9
  |some i=>simp[hq]at I9;simp[Go.sizeOf,typeInfo,hq,I9]
 have hcs0:0<cur.size:=by omega
 have hv0:w.cell? ⟨vb,vo+0,none⟩=some vs[0]:=OX 0 _ (A0B (by omega));obtain⟨curv,tv,frv,hcv,hcv0⟩:∃curv tv frv,w.heap[vb]?=some (.cells curv tv frv)/\0<curv.size:=by
  unfold World.cell? at hv0;split at hv0
  .rename_i a b c' h;refine⟨a,b,c',h,?_⟩;simp only[Option.isSome_none,Bool.false_eq_true,if_false]at hv0;have:=(Array.getElem?_eq_some_iff.1 hv0).1;omega
  .cases hv0
 have hov:∀x lb cb,(callFunc 220 #[.slice (some ⟨vb,vo,none⟩) 1 vc,.slice (some ⟨blk,x,none⟩) lb cb]).run Tryz.prog w=.ok (.value (.bool false)) w:=λx lb cb=>by
  rw[run_callFunc_extern Tryz.func220 (by kernel_rfl) (by kernel_rfl) (by kernel_rfl) (e:=Extern.SlicesOverlaps.overlaps #[30,30] #[4]) (by kernel_rfl),
   Sf w 30 30 4 32 Tryz.termsUnd 4 zz ⟨vb,vo,none⟩ ⟨blk,x,none⟩ 1 vc lb cb P1 curv cur tv t frv hcv hcv0 hcur hcs0]
  rfl
 have DX:(cs.drop (i*4)).length=(n-i)*4:=by rw[A0K,GF,A0e]
 have hcur':w.drew.heap[blk]?=some (.cells cur t (0,0)):=hcur;have hcp1:∀ty dc sc,(Builtin.copy_ #[110,110] ty #[.slice (some ⟨blk,o+(i+1)*4,none⟩) (n-i) dc,.slice (some ⟨blk,o+i*4,none⟩) (n+1-i) sc]).run Tryz.prog w.drew=.ok (goInt (n-i:Nat)) (w.drew.setRow blk us1):=λty dc sc=>by
  rw[hu1];exact Nx w.drew _ _ ty 32 4 blk (o+(i+1)*4) (n-i) dc ⟨blk,o+i*4,none⟩ (n+1-i) sc (n-i) cur t (cs.drop (i*4)) Tryz.setUnd I9 hcur' (by simp only[A0S];split<;>omega) DX
   (λj v hj=>by
    rw[Addr.add_lit,cell_of_row _ _ _ _ _ _ hcur'];rw[A0F]at hj;have hjn:i*4+j<n*4:=by have:=(A0I.1 hj).1;omega
    rw[A0Y,hcc _ hjn];exact hj) (by rw[DX];omega) (λv hv=>h1c v (A0Q hv))
 have hs1:us1.size=cur.size:=by rw[hu1];simp;omega
 have hW1:(w.drew.setRow blk us1).heap[blk]?=some (.cells us1 t (0,0)):=setRow_heap _ _ _ _ _ _ hcur';have hcp2:∀ty dc,(Builtin.copy_ #[110,30] ty #[.slice (some ⟨blk,o+i*4,none⟩) (n+1-i) dc,.slice (some ⟨vb,vo,none⟩) 1 vc]).run Tryz.prog (w.drew.setRow blk us1)=.ok (goInt (1:Nat)) ((w.drew.setRow blk us1).setRow blk us2):=λty dc=>by
  rw[hu2];exact Nx (w.drew.setRow blk us1) _ _ ty 32 4 blk (o+i*4) (n+1-i) dc ⟨vb,vo,none⟩ 1 vc 1 us1 t vs Tryz.setUnd I9 hW1 (by simp only[A0S];split<;>omega) (by rw[hvl])
   (λj v hj=>by
    rw[Addr.add_lit,World.cell?_of_block (a:=⟨vb,vo+j,none⟩) (setRow_other _ _ _ _ P1)];exact OX j v hj) (by rw[hvl,hs1];omega) h1v
 have mixed:Tryz.prog.follows Departure.mixedOrders=true:=by kernel_rfl
 have hw1:IntKind.i64.wrap ((i:Int)+1)=(i:Int)+1:=by rw[IntKind.wrap_i64];omega
 have hw2:IntKind.i64.wrap ((n:Int)+1)=(n:Int)+1:=by rw[IntKind.wrap_i64];omega
 have hb1:(0:Int)<=(i:Int)+1:=by omega
 have Ys:i<=n:=by omega
 have htn:((i:Int)+1).toNat=i+1:=by omega
 have htn2:((n:Int)+1).toNat=n+1:=by omega
 have hb2:¬(c=i+1):=by omega
 have hb3:(i:Int)<=(n:Int)+1:=by omega
 have hb4:¬(c=i):=by omega
 clear hu1 hu2 hv0 hcc h1c h1v OX hcv hW1 DX
 go_enter Tryz.func158,Tryz.ntmps158
 go_wp2_with (simp only[hov])
 go_region_law_o (refine step_copy_runI rfl _ _ 110 110 rfl _ _ (by simp[Act.eval,Act.put]) (by simp[Act.eval,Act.put]) (hcp1 _ _ _) ?_)
 go_wp2_with (at_builtin;refine wpList_copy_runI _ rfl _ _ 110 30 rfl _ _ rfl rfl (hcp2 _ _) ?_)
 go_ret
 exact⟨rfl,rfl⟩
theorem RH (w:World) (r us:Array Value) (t:TypeId):(w.alloc (.cells r t)).setRow w.heap.size us=w.alloc (.cells us t):=by
 unfold World.alloc World.setRow;congr 1;apply Array.ext_getElem?;intro k;simp only[Array.getElem?_modify,Array.getElem?_push];by_cases hk:w.heap.size=k
 .subst hk;simp
 .have:¬k=w.heap.size:=λe=>hk e.symm;simp[hk,this]
set_option maxHeartbeats 4000000 in
set_option maxRecDepth 100000 in
theorem Tryz.ins_grow (blk o n c i vb vo vc:Nat) (us1 us2:Array Value) (cs vs:List Value) (w:World) (i0:TypeInfo) (z:Value) (hi0:Tryz.prog.info? 32=some i0) (hz0:i0.zero=some z) (I9:i0.size=4) (hzs:z.cells.size=4) (hi:i<n) (hnc:n<=c) (AY:c<n+1) (hm:n+1<=maxLen) (hbig:(n+1)*i0.bytes<=140737488355328)
  (GF:cs.length=n*4) (hvl:vs.length=4) (KE:∀j v,cs[j]?=some v->w.cell? ⟨blk,o+j,none⟩=some v) (OX:∀j v,vs[j]?=some v->w.cell? ⟨vb,vo+j,none⟩=some v) (h1c:∀v∈cs,v.oneCell'=true) (h1v:∀v∈vs,v.oneCell'=true) (ROW:Array Value)
  (hROW:ROW=(cs.take (i*4)).toArray++Builtin.zeroCells z.cells (n+1-i)++Builtin.zeroCells z.cells (grownCap w (n+1) c 32-(n+1)))
  (hu1:us1=(ROW.toList.take (i*4)++vs++ROW.toList.drop (i*4+vs.length)).toArray) (hu2:us2=(us1.toList.take ((i+1)*4)++cs.drop (i*4)++us1.toList.drop ((i+1)*4+(cs.drop (i*4)).length)).toArray) :
  Calls Tryz.prog 158 #[.slice (some ⟨blk,o,none⟩) n c,.int .i64 i,.slice (some ⟨vb,vo,none⟩) 1 vc] w λe w'=>e=.returned (.slice (some ⟨w.heap.size,0,none⟩) (n+1) (grownCap w (n+1) c 32)) /\
   ∃q,w'=(w.drewN q).alloc (.cells us2 32):=by
 have xS:maxLen<=9223372036854775807:=by unfold maxLen;omega
 have hz2:¬((i:Int)=(n:Int)):=by omega
 have hz3:(c:Int)<(n:Int)+1:=by omega
 have hszm:(Tryz.prog.info? 32).map (·.size)=some 4:=by rw[hi0];simp[I9]
 have zz:∀w,(Go.sizeOf 32).run Tryz.prog w=.ok 4 w:=λw=>by simp[Go.sizeOf,typeInfo,hi0,I9]
 have hbw:blk<w.heap.size:=block_lt_of_cell (KE 0 _ (A0B (by omega)));have hvw:vb<w.heap.size:=block_lt_of_cell (OX 0 _ (A0B (by omega)));have hik:i+(n+1-i)=n+1:=by omega
 have Rx:(n:Int)+1-(i:Int)=((n+1-i:Nat):Int):=by omega
 have hold:(Builtin.firstCells i0.size i (.slice (some ⟨blk,o,none⟩) i c)).run Tryz.prog w.drew=.ok (cs.take (i*4)).toArray w.drew:=by
  rw[I9];exact run_firstCells_some w.drew 4 i ⟨blk,o,none⟩ i c (cs.take (i*4)) (by rw[A0A,GF];omega) (λj v hj=>by
   rw[Addr.add_lit];rw[A0N]at hj;split at hj
   .exact KE j v hj
   .cases hj)
 have hrz:∀ty,(Builtin.append_ #[110,3] ty #[.slice (some ⟨blk,o,none⟩) i c,.int .i64 ((n:Int)+1-(i:Int))]).run Tryz.prog w =
   .ok (.slice (some ⟨w.heap.size,0,none⟩) (n+1) (grownCap w (n+1) c 32)) (w.drew.alloc (.cells ROW 32)):=λty=>by
  have h:=Lib.run_append_grow_zeros w 110 3 ty 32 i0 z .i64 .i64 Tryz.setUnd Tryz.intUnd hi0 hz0 (some ⟨blk,o,none⟩) i c (cs.take (i*4)) hold (n+1-i) (by omega) (by omega) (by omega) (by omega)
   (by
     have:(n+1-i)*i0.bytes<=(n+1)*i0.bytes:=A0R _ (by omega);omega) (by rw[hik];exact growslice_fits AY hbig)
  rw[hik,←hROW]at h;rw[Rx];exact h
 obtain⟨G,hG⟩:∃G,G=grownCap w (n+1) c 32:=⟨_,rfl⟩;rw[←hG]at hrz hROW ⊢;have hGn:n+1<=G:=by rw[hG];exact grownCap_ge w _ _ _
 have hG63:G<=9223372036854775807:=by
  have:=grownCap_le_maxLen w (n+1) c 32 hm;rw[←hG]at this;omega
 have hRs:ROW.size=G*4:=by
  rw[hROW,A0C,A0C,size_zeroCells,size_zeroCells,hzs,A0J,A0A,GF];omega
 have hcur0:(w.drew.alloc (.cells ROW 32)).heap[w.heap.size]?=some (.cells ROW 32 (0,0)):=heap_alloc_new w.drew _;have hs1:us1.size=ROW.size:=by rw[hu1];simp;omega
 have hcell:∀(b j:Nat) (u:Value),b<w.heap.size->w.cell? ⟨b,j,none⟩=some u->∀r,(w.drew.alloc (.cells r 32)).cell? ⟨b,j,none⟩=some u:=λb j u hb hu r=>by
  rw[World.cell?_alloc_past (w:=w.drew) _ b j hb];exact hu
 have hcpA:∀ty dc,(Builtin.copy_ #[110,30] ty #[.slice (some ⟨w.heap.size,i*4,none⟩) (n+1-i) dc,.slice (some ⟨vb,vo,none⟩) 1 vc]).run Tryz.prog (w.alloc (.cells ROW 32)).drew=.ok (goInt (1:Nat)) (w.alloc (.cells us1 32)).drew:=λty dc=>by
  have h:=Nx (w.drew.alloc (.cells ROW 32)) 110 30 ty 32 4 w.heap.size (i*4) (n+1-i) dc ⟨vb,vo,none⟩ 1 vc 1 ROW 32 vs Tryz.setUnd hszm hcur0 (by simp only[A0S];split<;>omega) (by rw[hvl])
   (λj v hj=>by rw[Addr.add_lit];exact hcell vb _ _ hvw (OX j v hj) _) (by rw[hvl,hRs];omega) h1v
  rw[←hu1]at h;exact h.trans (congrArg _ (RH w.drew ROW us1 _))
 have hcur1:(w.drew.alloc (.cells us1 32)).heap[w.heap.size]?=some (.cells us1 32 (0,0)):=heap_alloc_new w.drew _;have DX:(cs.drop (i*4)).length=(n-i)*4:=by rw[A0K,GF,A0e]
 have hcpB:∀ty dc sc,(Builtin.copy_ #[110,110] ty #[.slice (some ⟨w.heap.size,(i+1)*4,none⟩) (n-i) dc,.slice (some ⟨blk,o+i*4,none⟩) (n-i) sc]).run Tryz.prog (w.alloc (.cells us1 32)).drew.drew=.ok (goInt (n-i:Nat)) (w.alloc (.cells us2 32)).drew.drew:=λty dc sc=>by
  have h:=Nx (w.drew.drew.alloc (.cells us1 32)) 110 110 ty 32 4 w.heap.size ((i+1)*4) (n-i) dc ⟨blk,o+i*4,none⟩ (n-i) sc (n-i) us1 32 (cs.drop (i*4)) Tryz.setUnd hszm hcur1 (by simp) DX
   (λj v hj=>by
    rw[Addr.add_lit,A0Y];exact hcell blk _ _ hbw (KE _ v (by rwa [A0F]at hj)) _) (by rw[DX,hs1,hRs];omega) (λv hv=>h1c v (A0Q hv))
  rw[←hu2]at h;exact h.trans (congrArg _ (RH w.drew.drew us1 us2 _))
 have hW:∀r,(w.drew.alloc (.cells r 32)).drew=w.drew.drew.alloc (.cells r 32):=λr=>rfl;have mixed:Tryz.prog.follows Departure.mixedOrders=true:=by kernel_rfl
 have hGi:¬(G=i):=by omega
 have hGim:¬(G=i+1):=by omega
 have hci:¬(c=i):=by omega
 have hw1:IntKind.i64.wrap ((i:Int)+1)=(i:Int)+1:=by rw[IntKind.wrap_i64];omega
 have hw2:IntKind.i64.wrap ((n:Int)+1)=(n:Int)+1:=by rw[IntKind.wrap_i64];omega
 have hb1:(0:Int)<=(i:Int)+1:=by omega
 have Ys:i<=n:=by omega
 have htn:((i:Int)+1).toNat=i+1:=by omega
 have hb3:(i:Int)<=(n:Int):=by omega
 clear Rx hik hold hROW hG hu1 hu2 hcell hcur0 hcur1 hRs hs1 DX
 go_enter Tryz.func158,Tryz.ntmps158
 go_wp2_with (first
  |(at_builtin;refine Lib.wpList_append_run _ rfl _ _ _ _ rfl _ _ rfl rfl _ _ (hrz _) ?_)
  |(at_builtin;refine wpList_copy_runI _ rfl _ _ 110 30 rfl _ _ rfl rfl (hcpA _ _) ?_))
 go_region_law_o (refine step_copy_runI rfl _ _ 110 110 rfl (.slice (some ⟨w.heap.size,(i+1)*4,none⟩) (n-i) (G-(i+1))) (.slice (some ⟨blk,o+i*4,none⟩) (n-i) (c-i)) (by simp[Act.eval,Act.put]) (by simp[Act.eval,Act.put]) (hcpB _ _ _) ?_)
 go_wp2
 go_ret
 exact⟨rfl,2,rfl⟩
end Go.Proofs
namespace Go.Abs
theorem Mh {α:Type} {cs vs:List α} {A:Nat} (hA:A<=cs.length) (j:Nat):(cs.take A++vs++cs.drop A)[j]?=if j<A then cs[j]? else if j<A+vs.length then vs[j-A]? else cs[j-vs.length]?:=by
 by_cases h1:j<A
 .rw[if_pos h1,A0H (by rw[A0D,A0A];omega),A0H (by rw[A0A];omega),A0N,if_pos h1]
 .rw[if_neg h1];by_cases h2:j<A+vs.length
  .rw[if_pos h2,A0H (by rw[A0D,A0A];omega),A0O (by rw[A0A];omega),A0A,A0V hA]
  .rw[if_neg h2,A0O (by rw[A0D,A0A];omega),A0D,A0A,A0V hA,A0F];congr 1;omega
theorem OC {cur us:Array Value} {vs:List Value} {off:Nat} (Cl:off+vs.length<=cur.size) (TU:us=(cur.toList.take off++vs++cur.toList.drop (off+vs.length)).toArray) (j:Nat):us[j]?=if j<off then cur[j]? else if j<off+vs.length then vs[j-off]? else cur[j]?:=by
 have:=JD (l:=cur.toList) (off:=off) (vs:=vs) (by simpa using Cl) j;simp only[Array.getElem?_toList]at this;rw[TU,A0G,this]
theorem pr {cur us:Array Value} {cs vs:List Value} {o N:Nat} (GF:cs.length=N) (hcc:∀j,j<N->cur[o+j]?=cs[j]?) (Cl:o+N+vs.length<=cur.size) (TU:us=(cur.toList.take (o+N)++vs++cur.toList.drop (o+N+vs.length)).toArray) :
  ∀j,j<N+vs.length->us[o+j]?=(cs.take N++vs++cs.drop N)[j]?:=by
 intro j hj;rw[OC Cl TU,Mh (by omega)];by_cases h1:j<N
 .rw[if_pos (by omega),if_pos h1,hcc j h1]
 .rw[if_neg (by omega),if_pos (by omega),if_neg h1,if_pos hj];congr 1;omega
theorem pt {cur us1 us2:Array Value} {cs vs:List Value} {o N A:Nat} (GF:cs.length=N) (hA:A<=N) (hcc:∀j,j<N->cur[o+j]?=cs[j]?) (Cl:o+N+vs.length<=cur.size)
  (hu1:us1=(cur.toList.take (o+(A+vs.length))++cs.drop A++cur.toList.drop (o+(A+vs.length)+(cs.drop A).length)).toArray) (hu2:us2=(us1.toList.take (o+A)++vs++us1.toList.drop (o+A+vs.length)).toArray) :
  us2.size=cur.size/\∀j,j<N+vs.length->us2[o+j]?=(cs.take A++vs++cs.drop A)[j]?:=by
 have hd:(cs.drop A).length=N-A:=by rw[A0K,GF]
 have hs1:us1.size=cur.size:=by rw[hu1];simp;omega
 refine⟨by rw[hu2];simp;omega,λj hj=>?_⟩;rw[OC (by omega) hu2,Mh (by omega)];by_cases h1:j<A
 .rw[if_pos (by omega),if_pos h1,OC (by omega) hu1,if_pos (by omega),hcc j (by omega)]
 .rw[if_neg (by omega),if_neg h1];by_cases h2:j<A+vs.length
  .rw[if_pos (by omega),if_pos h2];congr 1;omega
  .rw[if_neg (by omega),if_neg h2,OC (by omega) hu1,if_neg (by omega),if_pos (by omega),A0F];congr 1;omega
end Go.Abs
namespace Go.Proofs
open Go.RowKit Go.Lib Go.Abs
set_option maxRecDepth 100000 in
theorem Tryz.insLaw:InsLaw Tryz.prog 158 4 56:=by
 obtain⟨i0,z,hi0,I9,hz0,hzs,hby⟩:∃i0 z,Tryz.prog.info? 32=some i0/\i0.size=4/\i0.zero=some z/\z.cells.size=4/\i0.bytes=56:=⟨_,_,rfl,by kernel_rfl,rfl,by kernel_rfl,by kernel_rfl⟩;refine⟨by omega,by kernel_rfl,?_,?_⟩
 .intro w blk o n c i vb vo vc cur t cs vs Ys hnc hcm GF hvl hcur hcc Cl OX P1 h1c h1v;rcases A0b i n with A7|hge
  .obtain⟨us1,hu1⟩:∃us1,us1=(cur.toList.take (o+(i+1)*4)++cs.drop (i*4)++cur.toList.drop (o+(i+1)*4+(cs.drop (i*4)).length)).toArray:=⟨_,rfl⟩;obtain⟨us2,hu2⟩:∃us2,us2=(us1.toList.take (o+i*4)++vs++us1.toList.drop (o+i*4+vs.length)).toArray:=⟨_,rfl⟩;have h:=pt (o:=o) (A:=i*4) (vs:=vs) GF (A0R _ Ys) hcc (by omega) (by rw[hvl,←A0c];exact hu1) hu2;rw[hvl,←A0c]at h;exact(Tryz.ins_shift blk o n c i vb vo vc cur us1 us2 t cs vs w A7 hnc hcm GF hvl P1 hcur Cl hcc OX h1c h1v hu1 hu2).mono λe w' ⟨h1,h2⟩=>⟨h1,1,us2,h2.trans (setRow_setRow _ _ _ _),h⟩
  .have e:i=n:=by omega
   subst e;obtain⟨us,TU⟩:∃us,us=(cur.toList.take (o+i*4)++vs++cur.toList.drop (o+i*4+vs.length)).toArray:=⟨_,rfl⟩;have h:=pr (o:=o) (vs:=vs) GF hcc (by omega) TU;refine(Tryz.ins_end_room blk o i c vb vo vc cur t vs w hnc hcm hvl hcur Cl OX h1v us TU).mono λe w' ⟨h1,h2⟩=>⟨h1,0,us,h2,?_,?_⟩
   .rw[TU];simp;omega
   .intro j hj;exact h j (by omega)
 .intro w base n c i vb vo vc cs vs Ys hnc AY hm hbig GF hvl hnil KE OX h1c h1v;have hbig':(n+1)*i0.bytes<=140737488355328:=by rw[hby];exact hbig
  have hG1:=grownCap_ge w (n+1) c 32;have hG2:=grownCap_le_maxLen w (n+1) c 32 hm;rcases A0b i n with A7|hge
  .cases base with
   |none=>exact absurd (hnil rfl) (by omega)
   |some a =>
    obtain⟨blk,o,sp⟩:=a;obtain⟨hsp,KE⟩:=KE _ rfl;have:=hsp (by omega);simp only at this;subst this;have hcs':∀j v,cs[j]?=some v->w.cell? ⟨blk,o+j,none⟩=some v:=λj v hj=>by
     have:=KE j v hj
     rwa [Dw]at this
    obtain⟨ROW,hROW⟩:∃ROW,ROW=(cs.take (i*4)).toArray++Builtin.zeroCells z.cells (n+1-i)++Builtin.zeroCells z.cells (grownCap w (n+1) c 32-(n+1)):=⟨_,rfl⟩;obtain⟨us1,hu1⟩:∃us1,us1=(ROW.toList.take (i*4)++vs++ROW.toList.drop (i*4+vs.length)).toArray:=⟨_,rfl⟩;obtain⟨us2,hu2⟩:∃us2,us2=(us1.toList.take ((i+1)*4)++cs.drop (i*4)++us1.toList.drop ((i+1)*4+(cs.drop (i*4)).length)).toArray:=⟨_,rfl⟩;have hRs:ROW.size=grownCap w (n+1) c 32*4:=by
     rw[hROW,A0C,A0C,size_zeroCells,size_zeroCells,hzs,A0J,A0A,GF];omega
    have hR0:∀j,j<i*4->ROW[j]?=cs[j]?:=λj hj=>by
     rw[hROW,A0E (by simp;omega),A0E (by simp;omega),A0G,A0N,if_pos hj]
    have hs1:us1.size=ROW.size:=by rw[hu1];simp;omega
    have hd:(cs.drop (i*4)).length=n*4-i*4:=by rw[A0K,GF]
    refine(Tryz.ins_grow blk o n c i vb vo vc us1 us2 cs vs w i0 z hi0 hz0 I9 hzs A7 hnc AY hm hbig' GF hvl hcs' OX h1c h1v ROW hROW hu1 hu2).mono λe w' ⟨h1,q,h2⟩=>⟨q,_,us2,_,h1,h2,hG1,hG2,?_,?_⟩
    .rw[hu2];simp;omega
    .intro j hj;rw[OC (by omega) hu2,Mh (by omega),hvl];by_cases h1:j<i*4
     .rw[if_pos (by omega),if_pos h1,OC (by omega) hu1,if_pos h1,hR0 j h1]
     .rw[if_neg h1];by_cases h2:j<i*4+4
      .rw[if_pos (by omega),if_pos h2,OC (by omega) hu1,if_neg h1,if_pos (by omega)]
      .rw[if_neg (by omega),if_neg h2,if_pos (by omega),A0F];congr 1;omega
  .have e:i=n:=by omega
   subst e;refine(Tryz.ins_end_grow base i c vb vo vc cs vs w i0 z hi0 hz0 I9 hnc AY hm hbig' GF hvl hnil (λa ha=>(KE a ha).2) OX h1v).mono λe w' ⟨h1,h2⟩=>⟨1,_,_,_,h1,h2,hG1,hG2,?_,?_⟩
   .rw[A0C,size_zeroCells,hzs,A0J,A0D,GF,hvl];omega
   .intro j hj;rw[A0E (by simp;omega),A0G,A0P (by omega),List.drop_eq_nil_of_le (by omega),List.append_nil]
end Go.Proofs
namespace Go.Abs
open Go.RowKit (Below)
section
variable {P:Program} {E:Env}
structure InsLaw0 (P:Program) (f:FuncId) (K bytes:Nat):Prop where
 pos:0<K
 enter:Program.enterable P f=true
 newR:∀(w:World) (base:Option Addr) (vb vo vc:Nat) (vs:List Value),bytes<=H6->vs.length=K->(∀j v,vs[j]?=some v->w.cell? ⟨vb,vo+j,none⟩=some v)->(∀v∈vs,v.oneCell'=true) ->
  Calls P f #[.slice base 0 0,.int .i64 0,.slice (some ⟨vb,vo,none⟩) 1 vc] w λe w'=>∃(q G:Nat) (us:Array Value) (t:TypeId),e=.returned (.slice (some ⟨w.heap.size,0,none⟩) 1 G)/\w'=(w.drewN q).alloc (.cells us t)/\1<=G/\G<=maxLen/\G*K<=us.size /\
   ∀j,j<K->us[j]?=vs[j]?
theorem ch {f:FuncId} {K bytes:Nat} (L:InsLaw0 P f K bytes) (O:Orc) (args:G1) (h:AH) (r:AV) (h':AH) (he:(fC K bytes).run O args h=some (r,h')):Program.enterable P f=true /\
  ∀(E:Env) (vs:Array Value),SR E->E.h=h->Au E args vs.toList ->
   Calls P f vs E.w λe w'=>∃u E',e=.returned u/\w'=E'.w/\Ext E E'/\SR E'/\E'.h=h'/\VR E' r u:=by
 refine⟨L.enter,λE avs hS hh hv=>?_⟩;subst hh;change RT K bytes args E.h=some (r,h')at he;unfold RT at he;split at he
 .rename_i z' i0 x0;unfold Nh at he;split at he
  .rename_i s i q z x heq;cases heq;split at he
   .rename_i hc0;obtain⟨hzK,hag⟩:=hc0;obtain⟨avs⟩:=avs;simp only[Au]at hv;obtain⟨v0,_,rfl,hv0,v1,_,rfl,hv1,v2,_,rfl,hv2,rfl⟩:=hv;simp only[VR]at hv1;subst hv1;obtain⟨vb,vo,vc,vs,rfl,hvl,hvc,hv1c,hvr,hK⟩:=Wi hS hzK hv2;have hvc1:∀j u,vs[j]?=some u->E.w.cell? ⟨vb,vo+j,none⟩=some u:=λj u hu=>(hvc j u hu).1;simp only at he;split at he
    .rename_i hc;obtain⟨rfl,hb⟩:=hc;cases he;simp only[VR,PV]at hv0;obtain⟨base,len,cap,rfl,rfl,_,_,h4',_,_⟩:=hv0;have hcap:cap=0:=h4' trivial;subst hcap;refine(L.newR E.w base vb vo vc vs hb hvl hvc1 hv1c).mono λe w' ⟨q,G,us,te,h1,h2,h3,h4,h5,h6⟩=>?_;have x1:=Az hS (GZ E.w q);have s1:=Ff hS (GZ E.w q);refine⟨_,({E with w:=E.w.drewN q}:Env).newFam us te G ⟨[x],K,true⟩,h1,h2,x1.trans (Ix s1 _ _ _ _),NK s1 hK (by simpa using h3) h4 h5 (λj y hy=>?_),rfl,?_⟩
     .obtain⟨g1,g2⟩:=Of x1 hvr j y hy;refine⟨g1,λc y' hy'=>?_⟩;obtain⟨v,v1,v2⟩:=g2 c y' hy';have hjn:j=0:=by have:=(A0I.1 hy).1;simpa using this
      have hcK:c<K:=by have:=(A0I.1 hy').1;omega
      subst hjn;rw[Nat.zero_mul,A0M]at v1 ⊢;exact⟨v,by rw[h6 _ hcK];exact v1,v2⟩
     .simp only[VR,Env.newFam,j5];exact⟨_,_,⟨[x],K,true⟩,rfl,by simp,⟨by simp,λ_=>⟨_,_,rfl⟩⟩,λ_=>⟨A0T _,by simp,by simp,(λh=>nomatch h),λ_=>by simp⟩⟩
    .cases he
   .cases he
  .cases he
 .cases he
structure GrowLaw (P:Program) (f:FuncId) (K bytes:Nat):Prop where
 pos:0<K
 enter:Program.enterable P f=true
 zero:∀(w:World) (base:Option Addr),Calls P f #[.slice base 0 0,.int .i64 0] w λe w'=>e=.returned (.slice base 0 0)/\w'=w
 some:∀(w:World) (base:Option Addr) (n:Nat),0<n->n*bytes<=H6->n<=maxLen ->
  Calls P f #[.slice base 0 0,.int .i64 n] w λe w'=>∃(q G:Nat) (us:Array Value) (t:TypeId),e=.returned (.slice (some ⟨w.heap.size,0,none⟩) 0 G)/\w'=(w.drewN q).alloc (.cells us t)/\G<=maxLen/\G*K<=us.size
theorem cg {f:FuncId} {K bytes:Nat} (L:GrowLaw P f K bytes) (O:Orc) (args:G1) (h:AH) (r:AV) (h':AH) (he:(WV K bytes).run O args h=some (r,h')):Program.enterable P f=true /\
  ∀(E:Env) (vs:Array Value),SR E->E.h=h->Au E args vs.toList ->
   Calls P f vs E.w λe w'=>∃u E',e=.returned u/\w'=E'.w/\Ext E E'/\SR E'/\E'.h=h'/\VR E' r u:=by
 refine⟨L.enter,λE avs hS hh hv=>?_⟩;subst hh;change Po K bytes args E.h=some (r,h')at he;unfold Po at he;split at he
 .rename_i z n;obtain⟨avs⟩:=avs;simp only[Au]at hv;obtain⟨v0,_,rfl,hv0,v1,_,rfl,hv1,rfl⟩:=hv;simp only[VR]at hv1;subst hv1;have hv0':=hv0;simp only[VR,PV]at hv0;obtain⟨base,len,cap,rfl,rfl,_,_,h4',_,_⟩:=hv0;have hcap:cap=0:=h4' trivial;subst hcap;split at he
  .rename_i h0;subst h0;cases he;exact(L.zero E.w base).mono λe w' ⟨h1,h2⟩=>⟨_,E,h1,h2,Ext.refl E,hS,rfl,hv0'⟩
  .split at he
   .rename_i hc;obtain⟨c1,c2,c3⟩:=hc;cases he;obtain⟨m,rfl⟩:∃m:Nat,n=m:=⟨n.toNat,by omega⟩;refine(L.some E.w base m (by omega) (by exact_mod_cast c2) (by exact_mod_cast c3)).mono λe w' ⟨q,G,us,te,h1,h2,h3,h4⟩=>?_;have x1:=Az hS (GZ E.w q);have s1:=Ff hS (GZ E.w q);refine⟨_,({E with w:=E.w.drewN q}:Env).newFam us te G ⟨[],K,false⟩,h1,h2,x1.trans (Ix s1 _ _ _ _),NK s1 L.pos (A0T _) h3 h4 (λj y hy=>by simp at hy),rfl,?_⟩
    simp only[VR,Env.newFam,j5];exact⟨_,_,⟨[],K,false⟩,rfl,by simp,⟨by simp,λh=>absurd rfl h⟩,λ_=>⟨A0T _,by simp,by simp,(λh=>nomatch h),λ_=>by simp⟩⟩
   .cases he
 .cases he
end
end Go.Abs
set_option linter.unusedVariables false
set_option linter.unusedSimpArgs false
namespace Go.Proofs
open Go.RowKit Go.Lib Go.Abs
theorem Tryz.powsUnd:Tryz.prog.underlying 163=some (.slice 167):=by kernel_rfl
set_option maxHeartbeats 4000000 in
set_option maxRecDepth 100000 in
theorem Tryz.insp_nil (base:Option Addr) (vb vo vc:Nat) (vs:List Value) (w:World) (i0:TypeInfo) (z:Value) (hi0:Tryz.prog.info? 167=some i0) (hz0:i0.zero=some z) (I9:i0.size=5) (hbig:i0.bytes<=140737488355328)
  (hvl:vs.length=5) (OX:∀j v,vs[j]?=some v->w.cell? ⟨vb,vo+j,none⟩=some v) (h1v:∀v∈vs,v.oneCell'=true) :
  Calls Tryz.prog 311 #[.slice base 0 0,.int .i64 0,.slice (some ⟨vb,vo,none⟩) 1 vc] w λe w'=>e=.returned (.slice (some ⟨w.heap.size,0,none⟩) 1 (grownCap w 1 0 167)) /\
   w'=w.drew.alloc (.cells (vs.toArray++Builtin.zeroCells z.cells (grownCap w 1 0 167-1)) 167):=by
 have hsrc:Src Tryz.prog i0.size 163 (.slice (some ⟨vb,vo,none⟩) 1 vc) 1 vs w:=Src.ofSlice w Tryz.powsUnd ⟨vb,vo,none⟩ 1 vc vs (by rw[I9,hvl]) (λj u hj=>by rw[Addr.add_lit];exact OX j u hj) h1v;have hold:(Builtin.firstCells i0.size 0 (.slice base 0 0)).run Tryz.prog w.drew=.ok ([]:List Value).toArray w.drew:=by
  rw[I9];cases base with
  |none=>exact run_firstCells_none w.drew 5 0 0 0
  |some a=>exact run_firstCells_some w.drew 5 0 a 0 0 [] rfl (λj v hj=>by simp at hj)
 have hrun:∀ty,(Builtin.append_ #[163,163] ty #[.slice base 0 0,.slice (some ⟨vb,vo,none⟩) 1 vc]).run Tryz.prog w=_:=λty =>
  run_append_grow_src w 163 163 ty 167 i0 z Tryz.powsUnd hi0 hz0 base 0 0 [] hold _ 1 vs hsrc (by omega) (by omega) (growslice_fits (by omega) (by rw[A0M,Nat.one_mul];exact hbig))
 rw[A0M,List.nil_append]at hrun;generalize hG:grownCap w 1 0 167=G at *
 generalize hR:vs.toArray++Builtin.zeroCells z.cells (G-1)=R at *
 clear hR hold hsrc hG
 go_enter Tryz.func311,Tryz.ntmps311
 cases base with
 |none =>
  go_wp2_with (at_builtin;refine Lib.wpList_append_run _ rfl _ _ _ _ rfl _ _ rfl rfl _ _ (hrun _) ?_)
  go_ret
  exact⟨rfl,rfl⟩
 |some a =>
  obtain⟨ab,ao,asp⟩:=a
  go_wp2_with (at_builtin;refine Lib.wpList_append_run _ rfl _ _ _ _ rfl _ _ rfl rfl _ _ (hrun _) ?_)
  all_goals (go_ret;exact⟨rfl,rfl⟩)
set_option maxRecDepth 100000 in
theorem Tryz.insLawP:InsLaw0 Tryz.prog 311 5 64:=by
 obtain⟨i0,z,hi0,I9,hz0,hzs,hby⟩:∃i0 z,Tryz.prog.info? 167=some i0/\i0.size=5/\i0.zero=some z/\z.cells.size=5/\i0.bytes=64:=⟨_,_,rfl,by kernel_rfl,rfl,by kernel_rfl,by kernel_rfl⟩;refine⟨by omega,by kernel_rfl,?_⟩;intro w base vb vo vc vs hb hvl OX h1v;have hG1:=grownCap_ge w 1 0 167;have hG2:=grownCap_le_maxLen w 1 0 167 (by unfold maxLen;omega);refine(Tryz.insp_nil base vb vo vc vs w i0 z hi0 hz0 I9 (by rw[hby];omega) hvl OX h1v).mono λe w' ⟨h1,h2⟩=>⟨1,_,_,_,h1,h2,hG1,hG2,?_,?_⟩
 .rw[A0C,size_zeroCells,hzs,A0J,hvl];omega
 .intro j hj;rw[A0E (by simp;omega),A0G]
set_option maxHeartbeats 4000000 in
set_option maxRecDepth 100000 in
theorem Tryz.growZero (base:Option Addr) (w:World):Calls Tryz.prog 147 #[.slice base 0 0,.int .i64 0] w λe w'=>e=.returned (.slice base 0 0)/\w'=w:=by
 go_enter Tryz.func147,Tryz.ntmps147
 go_wp2
 go_ret
 exact⟨rfl,rfl⟩
set_option maxHeartbeats 4000000 in
set_option maxRecDepth 100000 in
theorem Tryz.growSome (base:Option Addr) (n:Nat) (w:World) (i0:TypeInfo) (z:Value) (hi0:Tryz.prog.info? 32=some i0) (hz0:i0.zero=some z) (I9:i0.size=4) (h0:0<n) (hm:n<=maxLen) (hbig:n*i0.bytes<=140737488355328) :
  Calls Tryz.prog 147 #[.slice base 0 0,.int .i64 n] w λe w'=>e=.returned (.slice (some ⟨w.heap.size,0,none⟩) 0 (grownCap w n 0 32)) /\
   w'=w.drew.alloc (.cells (Builtin.zeroCells z.cells n++Builtin.zeroCells z.cells (grownCap w n 0 32-n)) 32):=by
 have xS:maxLen<=9223372036854775807:=by unfold maxLen;omega
 have mixed:Tryz.prog.follows Departure.mixedOrders=true:=by kernel_rfl
 have hold:(Builtin.firstCells i0.size 0 (.slice base 0 0)).run Tryz.prog w.drew=.ok ([]:List Value).toArray w.drew:=by
  rw[I9];cases base with
  |none=>exact run_firstCells_none w.drew 4 0 0 0
  |some a=>exact run_firstCells_some w.drew 4 0 a 0 0 [] rfl (λj v hj=>by simp at hj)
 have hrz:∀ty,(Builtin.append_ #[30,3] ty #[.slice base 0 0,.int .i64 (n:Int)]).run Tryz.prog w =
   .ok (.slice (some ⟨w.heap.size,0,none⟩) n (grownCap w n 0 32)) (w.drew.alloc (.cells (Builtin.zeroCells z.cells n++Builtin.zeroCells z.cells (grownCap w n 0 32-n)) 32)):=λty=>by
  have h:=Lib.run_append_grow_zeros w 30 3 ty 32 i0 z .i64 .i64 Tryz.termsUnd Tryz.intUnd hi0 hz0 base 0 0 [] hold n (by omega) (by omega) (by omega) (by omega) (by omega)
   (by rw[A0M];exact growslice_fits (need:=n) (by omega) hbig)
  rw[A0M]at h;simpa using h
 have hG63:grownCap w n 0 32<=9223372036854775807:=by
  have:=grownCap_le_maxLen w n 0 32 hm;omega
 generalize hG:grownCap w n 0 32=G at *
 generalize hR:Builtin.zeroCells z.cells n++Builtin.zeroCells z.cells (G-n)=R at *
 have h1:¬((n:Int)<0):=by omega
 have h2:wrap64 (n:Int)=(n:Int):=by unfold wrap64;omega
 have h4:(n:Int) > 0:=by omega
 clear hR hold hG
 go_enter Tryz.func147,Tryz.ntmps147
 cases base with
 |none =>
  go_wp2_with (at_builtin;refine Lib.wpList_append_run _ rfl _ _ _ _ rfl _ _ rfl rfl _ _ (hrz _) ?_)
  all_goals (go_ret;exact⟨rfl,rfl⟩)
 |some a =>
  obtain⟨ab,ao,asp⟩:=a
  go_wp2_with (at_builtin;refine Lib.wpList_append_run _ rfl _ _ _ _ rfl _ _ rfl rfl _ _ (hrz _) ?_)
  all_goals (go_ret;exact⟨rfl,rfl⟩)
set_option maxRecDepth 100000 in
theorem Tryz.growLaw:GrowLaw Tryz.prog 147 4 56:=by
 obtain⟨i0,z,hi0,I9,hz0,hzs,hby⟩:∃i0 z,Tryz.prog.info? 32=some i0/\i0.size=4/\i0.zero=some z/\z.cells.size=4/\i0.bytes=56:=⟨_,_,rfl,by kernel_rfl,rfl,by kernel_rfl,by kernel_rfl⟩;refine⟨by omega,by kernel_rfl,λw base=>Tryz.growZero base w,λw base n h0 hb hm=>?_⟩;have hG1:=grownCap_ge w n 0 32;refine(Tryz.growSome base n w i0 z hi0 hz0 I9 h0 hm (by rw[hby];exact hb)).mono λe w' ⟨h1,h2⟩=>⟨1,_,_,_,h1,h2,grownCap_le_maxLen w n 0 32 hm,?_⟩;rw[A0C,size_zeroCells,size_zeroCells,hzs];omega
end Go.Proofs
namespace Go.Proofs
set_option maxHeartbeats 1000000 in
set_option maxRecDepth 100000 in
theorem Tryz.cmpString (a b:ByteArray) (w:World) :
  Calls Tryz.prog 134 #[.string a,.string b] w λe w'=>e=.returned (.int .i64 (Lib.compareBytes a.data.toList b.data.toList))/\w'=w:=by
 go_enter Tryz.func134,Tryz.ntmps134
 go_wp2
 rw[run_callFunc_extern Tryz.func187 (by kernel_rfl) (by kernel_rfl) (by kernel_rfl) (e:=Extern.BytealgCompare.compare) (by kernel_rfl),Lib.run_compareString];simp only[Result.andThen];rw[Oper.upon_value]
 go_wp2
 go_ret
 exact⟨rfl,rfl⟩
set_option maxHeartbeats 1000000 in
set_option maxRecDepth 100000 in
theorem Tryz.sliteIndexByte (s:ByteArray) (c:Int) (w:World) :
  Calls Tryz.prog 359 #[.string s,.int .u8 c] w λe w'=>e=.returned (.int .i64 (Lib.indexByte s.data.toList c.toNat.toUInt8))/\w'=w:=by
 go_enter Tryz.func359,Tryz.ntmps359
 go_wp2
 rw[run_callFunc_extern Tryz.func391 (by kernel_rfl) (by kernel_rfl) (by kernel_rfl) (e:=Extern.BytealgIndexByte.indexByte) (by kernel_rfl),Lib.run_indexByteString];simp only[Result.andThen];rw[Oper.upon_value]
 go_wp2
 go_ret
 exact⟨rfl,rfl⟩
set_option maxHeartbeats 2000000 in
set_option maxRecDepth 100000 in
theorem Tryz.sliteIndexOne (s:ByteArray) (c:UInt8) (w:World) :
  Calls Tryz.prog 304 #[.string s,.string ⟨#[c]⟩] w λe w'=>e=.returned (.int .i64 (Lib.indexByte s.data.toList c))/\w'=w:=by
 go_enter Tryz.func304,Tryz.ntmps304
 go_wp2_with (go_at_call 359;refine(Tryz.sliteIndexByte _ _ _).mono ?_;rintro e w' ⟨rfl,rfl⟩)
 .have h:([c] == s.toList)=true:=by assumption
  go_ret
  refine⟨?_,rfl⟩;have e:s.data.toList=[c]:=by rw[←Lib.toList_data];exact(beq_iff_eq.1 h).symm
  rw[e];simp[Lib.indexByte]
 .go_ret
  exact⟨rfl,rfl⟩
set_option maxHeartbeats 1000000 in
theorem Tryz.stringsIndexOne (s:ByteArray) (c:UInt8) (w:World) :
  Calls Tryz.prog 249 #[.string s,.string ⟨#[c]⟩] w λe w'=>e=.returned (.int .i64 (Lib.indexByte s.data.toList c))/\w'=w:=by
 go_enter Tryz.func249,Tryz.ntmps249
 go_wp2_with (go_at_call 304;refine(Tryz.sliteIndexOne _ _ _).mono ?_;rintro e w' ⟨rfl,rfl⟩)
 go_ret
 exact⟨rfl,rfl⟩
set_option maxHeartbeats 1000000 in
theorem Tryz.stringsContainsOne (s:ByteArray) (c:UInt8) (w:World) :
  Calls Tryz.prog 195 #[.string s,.string ⟨#[c]⟩] w λe w'=>e=.returned (.bool (decide (0<=Lib.indexByte s.data.toList c)))/\w'=w:=by
 go_enter Tryz.func195,Tryz.ntmps195
 go_wp2_with (go_at_call 249;refine(Tryz.stringsIndexOne _ _ _).mono ?_;rintro e w' ⟨rfl,rfl⟩)
 go_ret
 exact⟨rfl,rfl⟩
end Go.Proofs
namespace Go.Abs.Q
open Go.Proofs
open Go.RowKit (Below)
theorem UH:∀(a b:List UInt8),Lib.compareBytes a b=if Op.bytesLess a b then -1 else if a=b then 0 else 1
 | [],[]=>by simp[Lib.compareBytes,Op.bytesLess]
 | [],_::_=>by simp[Lib.compareBytes,Op.bytesLess]
 |_::_,[]=>by simp[Lib.compareBytes,Op.bytesLess]
 |x::a,y::b=>by
  simp only[Lib.compareBytes,Op.bytesLess,UH a b];by_cases h:x<y
  .simp[h]
  .by_cases h':y<x
   .have P1:x≠y:=λe=>h (e ▸ h');simp[h,h',P1]
   .have he:x=y:=by
     apply UInt8.le_antisymm
     .exact UInt8.not_lt.1 h'
     .exact UInt8.not_lt.1 h
    subst he;simp[h]
theorem ZO (a b:I3):T4 a b=Lib.compareBytes a.data.toList b.data.toList:=by
 rw[UH,T4,Lib.toList_data,Lib.toList_data]
theorem QL (c:UInt8):∀l:List UInt8,0<=Lib.indexByte l c↔c∈l
 | []=>by simp[Lib.indexByte]
 |b::l=>by
  have ih:=QL c l;have hge:=Lib.indexByte_ge l c;by_cases h:b=c
  .subst h;simp[Lib.indexByte]
  .have h1:Lib.indexByte (b::l) c=if Lib.indexByte l c=-1 then -1 else Lib.indexByte l c+1:=by
    simp[Lib.indexByte,h]
   have h2:¬c=b:=λe=>h e.symm;rw[h1,A0X];by_cases h3:Lib.indexByte l c=-1
   .rw[if_pos h3];constructor
    .intro k;omega
    .rintro(k|k)
     .exact absurd k h2
     .have:=ih.2 k;omega
   .rw[if_neg h3];constructor
    .intro k;exact .inr (ih.1 (by omega))
    .intro k;omega
theorem Vj (l:List UInt8) (c:UInt8):decide (0<=Lib.indexByte l c)=l.contains c:=by
 rw[Bool.eq_iff_iff,decide_eq_true_iff,QL];simp
theorem mixed:Tryz.prog.follows .mixedOrders=true:=by kernel_rfl
theorem pq (f:FuncId) (s:RSpec) (h:VI f=some s):(f=D5/\s=XD 4)\/(f=L8/\s=gf 4 56)\/(f=N0/\s=fC 5 64)\/(f=O6/\s=WV 4 56):=by
 unfold VI at h;split at h
 .rename_i hf;cases h;exact .inl ⟨hf,rfl⟩
 .split at h
  .rename_i hf;cases h;exact .inr (.inl ⟨hf,rfl⟩)
  .split at h
   .rename_i hf;cases h;exact .inr (.inr (.inl ⟨hf,rfl⟩))
   .split at h
    .rename_i hf;cases h;exact .inr (.inr (.inr ⟨hf,rfl⟩))
    .cases h
theorem QS:CfgS Tryz.prog Q:=by
 refine⟨λf rf h=>?_,λf s hs args r hr=>?_,mixed,λf s hs O hP args h r h' he=>?_⟩
 .have h1:Aw f=some rf:=(Oe f).symm.trans h;unfold Aw at h1;split at h1
  .cases h1
  .exact h1
 rotate_left 1
 .have hs':VI f=some s:=hs;rcases pq f s hs' with ⟨rfl,rfl⟩|⟨rfl,rfl⟩|⟨rfl,rfl⟩|⟨rfl,rfl⟩
  .exact eE Tryz.sortLays (by kernel_rfl) 4 Tryz.isAgg32 Tryz.sizeOf32 hP args h r h' he
  .exact gh Tryz.insLaw O args h r h' he
  .exact ch Tryz.insLawP O args h r h' he
  .exact cg Tryz.growLaw O args h r h' he
 have hs':OT f=some s:=(SF f).symm.trans hs;unfold OT at hs';split at hs'
 .rename_i hf;subst hf;cases hs';unfold Yg at hr;split at hr
  .rename_i a b;cases hr;refine⟨by kernel_rfl,λw ok0 vs _ hv=>?_⟩;have OX:vs=#[.string a,.string b]:=by
    simp only[Cg,PV]at hv;obtain⟨u,us,h1,rfl,u',us',rfl,rfl,rfl⟩:=hv;cases vs
    simp_all
   subst OX;refine(Tryz.cmpString a b w).mono λe w' ⟨he,hw⟩=>?_;subst hw;exact⟨_,he,Bl.refl _ _,by simp[PV,ZO]⟩
  .cases hr
 .split at hs'
  .rename_i hf;subst hf;cases hs';unfold Yh at hr;split at hr
   .rename_i a b;split at hr
    .rename_i c hb;cases hr;refine⟨by kernel_rfl,λw ok0 vs _ hv=>?_⟩;have hb':b=⟨#[c]⟩:=by
      obtain⟨⟨l⟩⟩:=b;simp at hb;rw[hb]
     subst hb';have OX:vs=#[.string a,.string ⟨#[c]⟩]:=by
      simp only[Cg,PV]at hv;obtain⟨u,us,h1,rfl,u',us',rfl,rfl,rfl⟩:=hv;cases vs
      simp_all
     subst OX;refine(Tryz.stringsContainsOne a c w).mono λe w' ⟨he,hw⟩=>?_;subst hw;exact⟨_,he,Bl.refl _ _,by simp[PV,Vj]⟩
    .cases hr
   .cases hr
  .cases hs'
end Go.Abs.Q
namespace Go.Abs.Q
open Go.Proofs
open Go.Proofs.YtohjdamplbhdpaaGreatDoor (Rows.uptoBulk Rows.uptoBulkAll)
variable {w:World}
theorem zx:Tryz.prog.cellsOf 42=2:=by kernel_rfl
theorem rX {α:Type}:∀{l:List α},l.length=2->∃a b,l=[a,b]
 | [a,b],_=>⟨a,b,rfl⟩
theorem lW (n:Nat):Ob Tryz.prog w 42 (λp:Int×Int=>[.int .i64 p.1,.int .i64 p.2]) (λ_=>True) (λ_=>1) n:=by
 intro H enc cs x hx;obtain⟨m,xs,rfl,GF,Wa,hx1,hf⟩:=JE Tryz.underlying42 zx hx;obtain⟨y0,hy0,h0⟩:=hf 0 _ rfl;obtain⟨y1,hy1,h1⟩:=hf 1 _ rfl;clear hf;obtain⟨v0,v1,rfl⟩:=rX GF;obtain⟨z0,z1,rfl⟩:=rX Wa;simp only[List.getElem?_cons_zero,List.getElem?_cons_succ,Option.some.injEq]at hy0 hy1;subst hy0 hy1;simp only[List.getElem_toArray,List.getElem_cons_zero,List.getElem_cons_succ,kE,List.drop_zero,List.drop_succ_cons,List.take_succ_cons,List.take_zero]at h0 h1;obtain⟨a,-,w0,cv0⟩:=Hf (w:=w) Tryz.underlying3 m enc _ _ h0;obtain⟨b,-,w1,cv1⟩:=Hf (w:=w) Tryz.underlying3 m enc _ _ h1;refine⟨(a,b),trivial,?_,BO cv0 cv1⟩;rw[hx1];dsimp only at w0 w1;simp only[A0W,A0Z,Rows.uptoBulk,Rows.uptoBulkAll];omega
theorem jj {w:World} {cs:G1} {us:Array Value} (h:CV w cs us.toList):PV w (rh w) (.agg cs) (.agg us):=by
 simp only[PV];exact⟨us,rfl,h.2,h.1⟩
end Go.Abs.Q
namespace Go.Proofs.YtohjdamplbhdpaaGreatDoor
open Go.ChangeShapes Go.WideShapes Go.ChangeAt Go.RowKit Go.Abs Go.Abs.Q
theorem own:ownKnob Tryz.prog.godebug=none:=by kernel_rfl
theorem laidOut:laidOutB Tryz.prog=true:=by kernel_rfl
def uT:DataW Unit->List Value
 | .lit (.int k n)=>[.int k n]
 |_=>[]
def qJ:DataW Unit->List Value
 | .agg l=>l.flatMap uT
 |_=>[]
def uU:DataW Unit->List Value
 | .agg l=>l.flatMap qJ
 |_=>[]
def Wd (l:List Value):Obj->Obj
 | .cells _ t frozen=>.cells l.toArray t frozen
 |o=>o
noncomputable def ST (os:Os):World :=
 {World.holding Tryz.prog os ⟨#[],#[],[]⟩with heap:=((World.holding Tryz.prog os ⟨#[],#[],[]⟩).heap.modify 1 (Wd (qJ Rows.laid_unicode_utf8_first))).modify 2 (Wd (uU Rows.laid_unicode_utf8_acceptRanges))}
end Go.Proofs.YtohjdamplbhdpaaGreatDoor
namespace Go.Abs.Q
open Go.Proofs
attribute [local simp] D9 E4 fin I8 G6 P7 M4 R4 R3
def KI (m:Bool×Bool) (a:ByteArray):Tm:=SL (bs [115,107]) m [GV a]
def Ik (m:Bool×Bool) (a:ByteArray):Tm:=SL (bs [112,107]) m [KI m a]
def QB (m:Bool×Bool) (a b:ByteArray):Tm:=SL (bs [115,104,107]) m [GV a,GV b]
def P5 (D7 l:List Tm):List Tm:=l.foldl Jk D7
theorem My (D7 a b:I6):P5 D7 (a++b)=P5 (P5 D7 a) b:=List.foldl_append
theorem Y1:∀(l D7:I6),(P5 D7 l).length<=D7.length+l.length
 | [],D7=>A0d _
 |t::l,D7=>by
  have h1:=Y1 l (Jk D7 t);have h2:=(ZI D7 t).1;show (P5 (Jk D7 t) l).length<=_;rw[List.length_cons];omega
theorem Av:∀(l D7:I6) {x:Tm},x∈P5 D7 l->x∈D7\/x∈l
 | [],D7,x,h=>.inl h
 |t::l,D7,x,h=>by
  rcases Av l (Jk D7 t) h with h|h
  .rcases ZJ h with h|h
   .exact .inl h
   .exact .inr (h ▸ List.mem_cons_self)
  .exact .inr (List.mem_cons_of_mem _ h)
def Jc (m:Bool×Bool) (me:ByteArray) (rs:List ByteArray) (role:Nat):Nat->List Tm
 |0=>[]
 |i+1=>Jc m me rs role i++(if i=role then []else match rs[i]? with|some r=>[QB m me r,QB m r me]|none=>[])
def Fg (me:ByteArray) (s:Ste):Bool:=decide (s.frm=me)||decide (s.to=me)
def OY (me:ByteArray) (l:List Ste):List Tm:=(l.filter (Fg me)).map Ste.msg
theorem aL {me:I3} {l:List Ste} {i:Nat} (h:i<l.length):OY me (l.take (i+1))=OY me (l.take i)++(if Fg me l[i]=true then [l[i].msg]else []):=by
 unfold OY;rw[A0L h,List.filter_append,A0U];congr 1;by_cases hb:Fg me l[i]=true
 .rw[if_pos hb,List.filter_cons_of_pos hb];rfl
 .rw[if_neg hb,List.filter_cons_of_neg hb];rfl
theorem Nz (m:J3) (me:I3) (rs:List ByteArray) (role:Nat):∀i,(Jc m me rs role i).length<=2*i
 |0=>A0d _
 |i+1=>by
  have:=Nz m me rs role i;rw[Jc,A0D];split
  .simp;omega
  .split<;>simp<;>omega
theorem NN (m:J3) (me:I3) (rs:List ByteArray) (role:Nat):∀i,∀x∈Jc m me rs role i,x.size=3
 |0,x,h=>by simp[Jc]at h
 |i+1,x,h=>by
  rw[Jc,List.mem_append]at h;rcases h with h|h
  .exact NN m me rs role i x h
  .split at h
   .simp at h
   .split at h
    .simp only[A0X,List.not_mem_nil,or_false]at h;rcases h with rfl|rfl<;>rfl
    .simp at h
theorem Kr {me:I3} {l:List Fre} {x:Tm} (h:x∈Fe me l):x.size=1:=by
 unfold Fe at h;rw[A0a]at h;obtain⟨f,-,rfl⟩:=h;rfl
theorem TF (r n:Nar) (role:Nat) (me:I3) (hme:r.roles[role]?=some me) (i:Nat) (hi:i<r.steps.length):pc Q BR [Ee r n,.int .i64 (role:Nat),.int .i64 (i:Nat)]=some (.bool (Fg me r.steps[i])):=by
 have sb:=w8 r n;have hme':Jb (r.roles.map AV.str) role=some (.str me):=G0 hme;have hx:=G0 (f:=DY) (A0B hi);unfold Fg;generalize r.steps[i]=s at *
 by_cases hq:s.frm=me
 .rw[show (decide (s.frm=me)||decide (s.to=me))=true from by simp[hq]];refine Gg U7 λfr hl h0 h1 h2=>?_;simp[U7]at hl h0 h1 h2;simp[U7,hl,h0,h1,h2,sb,hme',hx,hq]
 .rw[show (decide (s.frm=me)||decide (s.to=me))=decide (s.to=me) from by simp[hq]];have P1:=hq;refine Gg U7 λfr hl h0 h1 h2=>?_;simp[U7]at hl h0 h1 h2;simp[U7,hl,h0,h1,h2,sb,hme',hx,P1]
theorem lH (rs:List ByteArray) (m0:J3) (B8:rs.length<=1000) (D7:I6) (hal:D7.length<=1000) (has:∀x∈D7,x.size<=1099511627776) (B0:List (List AV)) (fr:Fr) (h:AH) (hh:h.boxes=B0) (v0:AV) (hv0:A0 fr 8=v0) (hg0:Ie false 4 (A4 D7) v0 h) (hl:fr.length=102) (h29:A0 fr 29=sl m0 1 (rs.map AV.str)) (h30:A0 fr 30=.int .i64 rs.length) (h31:A0 fr 31=.int .i64 0) :
  B9 (lp (A3 (L5 Q) (E5 K4) y6) (fr,h)) λe C6 h'=>Kp y6.wr fr C6/\e=.exit 0/\h'.boxes=B0/\Ie false 4 (A4 (P5 D7 (rs.map (Ik (true,true))))) (A0 C6 8) h':=by
 refine B5 rfl fr (λn fr h'=>∃(i:Nat),i+n=rs.length/\A0 fr 31=.int .i64 (i:Nat)/\(∃v,A0 fr 8=v/\h'.boxes=B0/\Ie false 4 (A4 (P5 D7 ((rs.take i).map (Ik (true,true))))) v h')) ?_ rs.length h ⟨0,by omega,h31,_,hv0,hh,hg0⟩;rintro J Φ hJ hΦ n E1 H1 K ⟨i,hi,k31,hr⟩;have A6:=K.1.trans hl;have k29:=A9 K 29 h29;have k30:=A9 K 30 h30;clear K;by_cases A7:i<rs.length
 .have Q6:=D1 i (by omega);obtain⟨v,k8,hB,hg⟩:=hr;obtain⟨bx,fams⟩:=H1;simp only at hB;subst hB;have hx:=G0 (f:=AV.str) (A0B A7);have GI:=Y1 ((rs.take i).map (Ik (true,true))) D7;rw[List.length_map,A0A]at GI;have I9:∀x∈P5 D7 ((rs.take i).map (Ik (true,true))),x.size<=1099511627776:=λx hx=>by
   rcases Av _ _ hx with h|h
   .exact has x h
   .rw[A0a]at h;obtain⟨a,-,rfl⟩:=h;simp[Ik,KI,SL,GV,Tm.size,Tm.sizes]
  have J0:(rs.take (i+1)).map (Ik (true,true))=(rs.take i).map (Ik (true,true))++[Ik (true,true) rs[i]]:=by
   rw[A0L A7,A0U,A0W,A0Z]
  generalize rs[i]=a at *
  have hG:=Uq a;have hA:=Ur (bs [115,107]) (true,true) [GV a];have hA2:=Ur (bs [112,107]) (true,true) [KI (true,true) a];rw[show A4 [GV a]=[B7 (GV a)] from rfl]at hA;rw[show A4 [KI (true,true) a]=[B7 (KI (true,true) a)] from rfl]at hA2;change pc Q AP _=some (B7 (KI (true,true) a))at hA;change pc Q AP _=some (B7 (Ik (true,true) a))at hA2;obtain⟨v',F',hK,f7⟩:=Rm _ v ⟨bx,fams⟩ hg (Ik (true,true) a) (by omega) I9 (by simp[Ik,KI,SL,GV,Tm.size,Tm.sizes]);have e1:Jk (P5 D7 ((rs.take i).map (Ik (true,true)))) (Ik (true,true) a)=P5 D7 ((rs.take (i+1)).map (Ik (true,true))):=by
   rw[J0,My];rfl
  rw[e1]at f7;clear e1 J0 hg I9;generalize Ik (true,true) a=t2 at *
  generalize KI (true,true) a=t1 at *
  generalize GV a=t0 at *
  simp[y6,A6,k29,k30,k31,A7,Q6,k8,hx,hG,hA,hA2,A5,hK];exact G8 hJ ⟨i+1,by omega,by simp[A6],v',by simp[A6],rfl,f7⟩
 .obtain⟨v,k8,hB,hg⟩:=hr;rw[A0P (by omega)]at hg;simp[y6,A6,k30,k31,A7];exact hΦ _ _ _ ⟨rfl,hB,by simp[k8];exact G2 hg rfl⟩
end Go.Abs.Q
