/- A part of the proof. -/
import Derived.Test.YtjhgilockkmniaaGreatDoorSJ31
import Derived.Lib.AppendZerosOnto
import Derived.Laws.NewBlocks
import Derived.ProofKit
import Derived.WalkKit
import Derived.Lib.Strings
import Derived.Lib.Slices
import Derived.Lib.Walk
import Derived.Lib.Bytealg
import Derived.KernelRfl
set_option linter.all false
open List renaming length_take->zf0z,length_append->zf3z,getElem?_toArray->zf4z,getElem?_append_left->zf6z,getElem?_drop->zf7z,size_toArray->zf8z,getElem?_take->zf9z,getElem?_append_right->zg0z,getElem?_eq_some_iff->zg1z,getElem?_eq_getElem->zg2z,length_drop->zg3z
open Array renaming size_append->zf1z,getElem?_append_left->zf2z
open Nat renaming zero_add->zf5z,mul_le_mul_right->zg4z,zero_le->zg5z,min_eq_left->zg6z,lt_or_ge->zg7z,succ_mul->zg8z
set_option linter.unusedVariables false
set_option linter.unusedSimpArgs false
namespace Go.Proofs
open Go.RowKit Go.Lib Go.Abs
theorem LN (w:World) (r us:Array Value) (t:TypeId):(w.alloc (.cells r t)).setRow w.heap.size us=w.alloc (.cells us t):=by
 unfold World.alloc World.setRow;congr 1;apply Array.ext_getElem?;intro k;simp only[Array.getElem?_modify,Array.getElem?_push];by_cases hk:w.heap.size=k
 .subst hk;simp
 .have:¬k=w.heap.size:=λe=>hk e.symm;simp[hk,this]
set_option maxHeartbeats 4000000 in
set_option maxRecDepth 100000 in
theorem Tryz.ins_grow (blk o n c i vb vo vc:Nat) (us1 us2:Array Value) (cs vs:List Value) (w:World) (i0:TypeInfo) (z:Value) (hi0:Tryz.prog.info? 41=some i0) (hz0:i0.zero=some z) (L4:i0.size=4) (hzs:z.cells.size=4) (hi:i<n) (hnc:n<=c) (U0:c<n+1) (hm:n+1<=maxLen) (hbig:(n+1)*i0.bytes<=140737488355328)
  (Hn:cs.length=n*4) (hvl:vs.length=4) (w8:∀j v,cs[j]?=some v->w.cell? ⟨blk,o+j,none⟩=some v) (HI:∀j v,vs[j]?=some v->w.cell? ⟨vb,vo+j,none⟩=some v) (h1c:∀v∈cs,v.oneCell'=true) (h1v:∀v∈vs,v.oneCell'=true) (ROW:Array Value)
  (hROW:ROW=(cs.take (i*4)).toArray++Builtin.zeroCells z.cells (n+1-i)++Builtin.zeroCells z.cells (grownCap w (n+1) c 41-(n+1)))
  (hu1:us1=(ROW.toList.take (i*4)++vs++ROW.toList.drop (i*4+vs.length)).toArray) (hu2:us2=(us1.toList.take ((i+1)*4)++cs.drop (i*4)++us1.toList.drop ((i+1)*4+(cs.drop (i*4)).length)).toArray) :
  Calls Tryz.prog 345 #[.slice (some ⟨blk,o,none⟩) n c,.int .i64 i,.slice (some ⟨vb,vo,none⟩) 1 vc] w λe w'=>e=.returned (.slice (some ⟨w.heap.size,0,none⟩) (n+1) (grownCap w (n+1) c 41)) /\
   ∃q,w'=(w.drewN q).alloc (.cells us2 41):=by
 have oD:maxLen<=9223372036854775807:=by unfold maxLen;omega
 have hz2:¬((i:Int)=(n:Int)):=by omega
 have hz3:(c:Int)<(n:Int)+1:=by omega
 have hszm:(Tryz.prog.info? 41).map (·.size)=some 4:=by rw[hi0];simp[L4]
 have zz:∀w,(Go.sizeOf 41).run Tryz.prog w=.ok 4 w:=λw=>by simp[Go.sizeOf,typeInfo,hi0,L4]
 have hbw:blk<w.heap.size:=block_lt_of_cell (w8 0 _ (zg2z (by omega)));have hvw:vb<w.heap.size:=block_lt_of_cell (HI 0 _ (zg2z (by omega)));have hik:i+(n+1-i)=n+1:=by omega
 have JX:(n:Int)+1-(i:Int)=((n+1-i:Nat):Int):=by omega
 have hold:(Builtin.firstCells i0.size i (.slice (some ⟨blk,o,none⟩) i c)).run Tryz.prog w.drew=.ok (cs.take (i*4)).toArray w.drew:=by
  rw[L4];exact run_firstCells_some w.drew 4 i ⟨blk,o,none⟩ i c (cs.take (i*4)) (by rw[zf0z,Hn];omega) (λj v hj=>by
   rw[Addr.add_lit];rw[zf9z]at hj;split at hj
   .exact w8 j v hj
   .cases hj)
 have hrz:∀ty,(Builtin.append_ #[302,3] ty #[.slice (some ⟨blk,o,none⟩) i c,.int .i64 ((n:Int)+1-(i:Int))]).run Tryz.prog w =
   .ok (.slice (some ⟨w.heap.size,0,none⟩) (n+1) (grownCap w (n+1) c 41)) (w.drew.alloc (.cells ROW 41)):=λty=>by
  have h:=Lib.run_append_grow_zeros w 302 3 ty 41 i0 z .i64 .i64 Tryz.setUnd Tryz.intUnd hi0 hz0 (some ⟨blk,o,none⟩) i c (cs.take (i*4)) hold (n+1-i) (by omega) (by omega) (by omega) (by omega)
   (by
     have:(n+1-i)*i0.bytes<=(n+1)*i0.bytes:=zg4z _ (by omega);omega) (by rw[hik];exact growslice_fits U0 hbig)
  rw[hik,←hROW]at h;rw[JX];exact h
 obtain⟨G,hG⟩:∃G,G=grownCap w (n+1) c 41:=⟨_,rfl⟩;rw[←hG]at hrz hROW ⊢;have hGn:n+1<=G:=by rw[hG];exact grownCap_ge w _ _ _
 have hG63:G<=9223372036854775807:=by
  have:=grownCap_le_maxLen w (n+1) c 41 hm;rw[←hG]at this;omega
 have hRs:ROW.size=G*4:=by
  rw[hROW,zf1z,zf1z,size_zeroCells,size_zeroCells,hzs,zf8z,zf0z,Hn];omega
 have hcur0:(w.drew.alloc (.cells ROW 41)).heap[w.heap.size]?=some (.cells ROW 41 (0,0)):=heap_alloc_new w.drew _;have hs1:us1.size=ROW.size:=by rw[hu1];simp;omega
 have hcell:∀(b j:Nat) (u:Value),b<w.heap.size->w.cell? ⟨b,j,none⟩=some u->∀r,(w.drew.alloc (.cells r 41)).cell? ⟨b,j,none⟩=some u:=λb j u hb hu r=>by
  rw[World.cell?_alloc_past (w:=w.drew) _ b j hb];exact hu
 have hcpA:∀ty dc,(Builtin.copy_ #[302,39] ty #[.slice (some ⟨w.heap.size,i*4,none⟩) (n+1-i) dc,.slice (some ⟨vb,vo,none⟩) 1 vc]).run Tryz.prog (w.alloc (.cells ROW 41)).drew=.ok (goInt (1:Nat)) (w.alloc (.cells us1 41)).drew:=λty dc=>by
  have h:=JK (w.drew.alloc (.cells ROW 41)) 302 39 ty 41 4 w.heap.size (i*4) (n+1-i) dc ⟨vb,vo,none⟩ 1 vc 1 ROW 41 vs Tryz.setUnd hszm hcur0 (by simp only[Nat.min_def];split<;>omega) (by rw[hvl])
   (λj v hj=>by rw[Addr.add_lit];exact hcell vb _ _ hvw (HI j v hj) _) (by rw[hvl,hRs];omega) h1v
  rw[←hu1]at h;exact h.trans (congrArg _ (LN w.drew ROW us1 _))
 have hcur1:(w.drew.alloc (.cells us1 41)).heap[w.heap.size]?=some (.cells us1 41 (0,0)):=heap_alloc_new w.drew _;have Gr:(cs.drop (i*4)).length=(n-i)*4:=by rw[zg3z,Hn,Nat.sub_mul]
 have hcpB:∀ty dc sc,(Builtin.copy_ #[302,302] ty #[.slice (some ⟨w.heap.size,(i+1)*4,none⟩) (n-i) dc,.slice (some ⟨blk,o+i*4,none⟩) (n-i) sc]).run Tryz.prog (w.alloc (.cells us1 41)).drew.drew=.ok (goInt (n-i:Nat)) (w.alloc (.cells us2 41)).drew.drew:=λty dc sc=>by
  have h:=JK (w.drew.drew.alloc (.cells us1 41)) 302 302 ty 41 4 w.heap.size ((i+1)*4) (n-i) dc ⟨blk,o+i*4,none⟩ (n-i) sc (n-i) us1 41 (cs.drop (i*4)) Tryz.setUnd hszm hcur1 (by simp) Gr
   (λj v hj=>by
    rw[Addr.add_lit,Nat.add_assoc];exact hcell blk _ _ hbw (w8 _ v (by rwa [zf7z]at hj)) _) (by rw[Gr,hs1,hRs];omega) (λv hv=>h1c v (List.mem_of_mem_drop hv))
  rw[←hu2]at h;exact h.trans (congrArg _ (LN w.drew.drew us1 us2 _))
 have hW:∀r,(w.drew.alloc (.cells r 41)).drew=w.drew.drew.alloc (.cells r 41):=λr=>rfl;have mixed:Tryz.prog.follows Departure.mixedOrders=true:=by kernel_rfl
 have hGi:¬(G=i):=by omega
 have hGim:¬(G=i+1):=by omega
 have hci:¬(c=i):=by omega
 have hw1:IntKind.i64.wrap ((i:Int)+1)=(i:Int)+1:=by rw[IntKind.wrap_i64];omega
 have hw2:IntKind.i64.wrap ((n:Int)+1)=(n:Int)+1:=by rw[IntKind.wrap_i64];omega
 have hb1:(0:Int)<=(i:Int)+1:=by omega
 have Ph:i<=n:=by omega
 have htn:((i:Int)+1).toNat=i+1:=by omega
 have hb3:(i:Int)<=(n:Int):=by omega
 clear JX hik hold hROW hG hu1 hu2 hcell hcur0 hcur1 hRs hs1 Gr
 go_enter Tryz.func345,Tryz.ntmps345
 go_wp2_with (first
  |(at_builtin;refine Lib.wpList_append_run _ rfl _ _ _ _ rfl _ _ rfl rfl _ _ (hrz _) ?_)
  |(at_builtin;refine wpList_copy_runI _ rfl _ _ 302 39 rfl _ _ rfl rfl (hcpA _ _) ?_))
 go_region_law_o (refine step_copy_runI rfl _ _ 302 302 rfl (.slice (some ⟨w.heap.size,(i+1)*4,none⟩) (n-i) (G-(i+1))) (.slice (some ⟨blk,o+i*4,none⟩) (n-i) (c-i)) (by simp[Act.eval,Act.put]) (by simp[Act.eval,Act.put]) (hcpB _ _ _) ?_)
 go_wp2
 go_ret
 exact⟨rfl,2,rfl⟩
end Go.Proofs
namespace Go.Abs
theorem IE {α:Type} {cs vs:List α} {A:Nat} (hA:A<=cs.length) (j:Nat):(cs.take A++vs++cs.drop A)[j]?=if j<A then cs[j]? else if j<A+vs.length then vs[j-A]? else cs[j-vs.length]?:=by
 by_cases h1:j<A
 .rw[if_pos h1,zf6z (by rw[zf3z,zf0z];omega),zf6z (by rw[zf0z];omega),zf9z,if_pos h1]
 .rw[if_neg h1];by_cases h2:j<A+vs.length
  .rw[if_pos h2,zf6z (by rw[zf3z,zf0z];omega),zg0z (by rw[zf0z];omega),zf0z,zg6z hA]
  .rw[if_neg h2,zg0z (by rw[zf3z,zf0z];omega),zf3z,zf0z,zg6z hA,zf7z];congr 1;omega
theorem JM {cur us:Array Value} {vs:List Value} {off:Nat} (j8:off+vs.length<=cur.size) (LH:us=(cur.toList.take off++vs++cur.toList.drop (off+vs.length)).toArray) (j:Nat):us[j]?=if j<off then cur[j]? else if j<off+vs.length then vs[j-off]? else cur[j]?:=by
 have:=Cv (l:=cur.toList) (off:=off) (vs:=vs) (by simpa using j8) j;simp only[Array.getElem?_toList]at this;rw[LH,zf4z,this]
theorem gv {cur us:Array Value} {cs vs:List Value} {o N:Nat} (Hn:cs.length=N) (hcc:∀j,j<N->cur[o+j]?=cs[j]?) (j8:o+N+vs.length<=cur.size) (LH:us=(cur.toList.take (o+N)++vs++cur.toList.drop (o+N+vs.length)).toArray) :
  ∀j,j<N+vs.length->us[o+j]?=(cs.take N++vs++cs.drop N)[j]?:=by
 intro j hj;rw[JM j8 LH,IE (by omega)];by_cases h1:j<N
 .rw[if_pos (by omega),if_pos h1,hcc j h1]
 .rw[if_neg (by omega),if_pos (by omega),if_neg h1,if_pos hj];congr 1;omega
theorem gw {cur us1 us2:Array Value} {cs vs:List Value} {o N A:Nat} (Hn:cs.length=N) (hA:A<=N) (hcc:∀j,j<N->cur[o+j]?=cs[j]?) (j8:o+N+vs.length<=cur.size)
  (hu1:us1=(cur.toList.take (o+(A+vs.length))++cs.drop A++cur.toList.drop (o+(A+vs.length)+(cs.drop A).length)).toArray) (hu2:us2=(us1.toList.take (o+A)++vs++us1.toList.drop (o+A+vs.length)).toArray) :
  us2.size=cur.size/\∀j,j<N+vs.length->us2[o+j]?=(cs.take A++vs++cs.drop A)[j]?:=by
 have hd:(cs.drop A).length=N-A:=by rw[zg3z,Hn]
 have hs1:us1.size=cur.size:=by rw[hu1];simp;omega
 refine⟨by rw[hu2];simp;omega,λj hj=>?_⟩;rw[JM (by omega) hu2,IE (by omega)];by_cases h1:j<A
 .rw[if_pos (by omega),if_pos h1,JM (by omega) hu1,if_pos (by omega),hcc j (by omega)]
 .rw[if_neg (by omega),if_neg h1];by_cases h2:j<A+vs.length
  .rw[if_pos (by omega),if_pos h2];congr 1;omega
  .rw[if_neg (by omega),if_neg h2,JM (by omega) hu1,if_neg (by omega),if_pos (by omega),zf7z];congr 1;omega
end Go.Abs
namespace Go.Proofs
open Go.RowKit Go.Lib Go.Abs
set_option maxRecDepth 100000 in
theorem Tryz.insLaw:InsLaw Tryz.prog 345 4 56:=by
 obtain⟨i0,z,hi0,L4,hz0,hzs,hby⟩:∃i0 z,Tryz.prog.info? 41=some i0/\i0.size=4/\i0.zero=some z/\z.cells.size=4/\i0.bytes=56:=⟨_,_,rfl,by kernel_rfl,rfl,by kernel_rfl,by kernel_rfl⟩;refine⟨by omega,by kernel_rfl,?_,?_⟩
 .intro w blk o n c i vb vo vc cur t cs vs Ph hnc hcm Hn hvl hcur hcc j8 HI T6 h1c h1v;rcases zg7z i n with A9|hge
  .obtain⟨us1,hu1⟩:∃us1,us1=(cur.toList.take (o+(i+1)*4)++cs.drop (i*4)++cur.toList.drop (o+(i+1)*4+(cs.drop (i*4)).length)).toArray:=⟨_,rfl⟩;obtain⟨us2,hu2⟩:∃us2,us2=(us1.toList.take (o+i*4)++vs++us1.toList.drop (o+i*4+vs.length)).toArray:=⟨_,rfl⟩;have h:=gw (o:=o) (A:=i*4) (vs:=vs) Hn (zg4z _ Ph) hcc (by omega) (by rw[hvl,←zg8z];exact hu1) hu2;rw[hvl,←zg8z]at h;exact(Tryz.ins_shift blk o n c i vb vo vc cur us1 us2 t cs vs w A9 hnc hcm Hn hvl T6 hcur j8 hcc HI h1c h1v hu1 hu2).mono λe w' ⟨h1,h2⟩=>⟨h1,1,us2,h2.trans (setRow_setRow _ _ _ _),h⟩
  .have e:i=n:=by omega
   subst e;obtain⟨us,LH⟩:∃us,us=(cur.toList.take (o+i*4)++vs++cur.toList.drop (o+i*4+vs.length)).toArray:=⟨_,rfl⟩;have h:=gv (o:=o) (vs:=vs) Hn hcc (by omega) LH;refine(Tryz.ins_end_room blk o i c vb vo vc cur t vs w hnc hcm hvl hcur j8 HI h1v us LH).mono λe w' ⟨h1,h2⟩=>⟨h1,0,us,h2,?_,?_⟩
   .rw[LH];simp;omega
   .intro j hj;exact h j (by omega)
 .intro w base n c i vb vo vc cs vs Ph hnc U0 hm hbig Hn hvl hnil w8 HI h1c h1v;have hbig':(n+1)*i0.bytes<=140737488355328:=by rw[hby];exact hbig
  have hG1:=grownCap_ge w (n+1) c 41;have hG2:=grownCap_le_maxLen w (n+1) c 41 hm;rcases zg7z i n with A9|hge
  .cases base with
   |none=>exact absurd (hnil rfl) (by omega)
   |some a =>
    obtain⟨blk,o,sp⟩:=a;obtain⟨hsp,w8⟩:=w8 _ rfl;have:=hsp (by omega);simp only at this;subst this;have hcs':∀j v,cs[j]?=some v->w.cell? ⟨blk,o+j,none⟩=some v:=λj v hj=>by
     have:=w8 j v hj
     rwa [AP]at this
    obtain⟨ROW,hROW⟩:∃ROW,ROW=(cs.take (i*4)).toArray++Builtin.zeroCells z.cells (n+1-i)++Builtin.zeroCells z.cells (grownCap w (n+1) c 41-(n+1)):=⟨_,rfl⟩;obtain⟨us1,hu1⟩:∃us1,us1=(ROW.toList.take (i*4)++vs++ROW.toList.drop (i*4+vs.length)).toArray:=⟨_,rfl⟩;obtain⟨us2,hu2⟩:∃us2,us2=(us1.toList.take ((i+1)*4)++cs.drop (i*4)++us1.toList.drop ((i+1)*4+(cs.drop (i*4)).length)).toArray:=⟨_,rfl⟩;have hRs:ROW.size=grownCap w (n+1) c 41*4:=by
     rw[hROW,zf1z,zf1z,size_zeroCells,size_zeroCells,hzs,zf8z,zf0z,Hn];omega
    have hR0:∀j,j<i*4->ROW[j]?=cs[j]?:=λj hj=>by
     rw[hROW,zf2z (by simp;omega),zf2z (by simp;omega),zf4z,zf9z,if_pos hj]
    have hs1:us1.size=ROW.size:=by rw[hu1];simp;omega
    have hd:(cs.drop (i*4)).length=n*4-i*4:=by rw[zg3z,Hn]
    refine(Tryz.ins_grow blk o n c i vb vo vc us1 us2 cs vs w i0 z hi0 hz0 L4 hzs A9 hnc U0 hm hbig' Hn hvl hcs' HI h1c h1v ROW hROW hu1 hu2).mono λe w' ⟨h1,q,h2⟩=>⟨q,_,us2,_,h1,h2,hG1,hG2,?_,?_⟩
    .rw[hu2];simp;omega
    .intro j hj;rw[JM (by omega) hu2,IE (by omega),hvl];by_cases h1:j<i*4
     .rw[if_pos (by omega),if_pos h1,JM (by omega) hu1,if_pos h1,hR0 j h1]
     .rw[if_neg h1];by_cases h2:j<i*4+4
      .rw[if_pos (by omega),if_pos h2,JM (by omega) hu1,if_neg h1,if_pos (by omega)]
      .rw[if_neg (by omega),if_neg h2,if_pos (by omega),zf7z];congr 1;omega
  .have e:i=n:=by omega
   subst e;refine(Tryz.ins_end_grow base i c vb vo vc cs vs w i0 z hi0 hz0 L4 hnc U0 hm hbig' Hn hvl hnil (λa ha=>(w8 a ha).2) HI h1v).mono λe w' ⟨h1,h2⟩=>⟨1,_,_,_,h1,h2,hG1,hG2,?_,?_⟩
   .rw[zf1z,size_zeroCells,hzs,zf8z,zf3z,Hn,hvl];omega
   .intro j hj;rw[zf2z (by simp;omega),zf4z,List.take_of_length_le (by omega),List.drop_eq_nil_of_le (by omega),List.append_nil]
end Go.Proofs
namespace Go.Abs
open Go.RowKit (Below)
section
variable {P:Program} {E:Env}
structure InsLaw0 (P:Program) (f:FuncId) (K bytes:Nat):Prop where
 pos:0<K
 enter:Program.enterable P f=true
 newR:∀(w:World) (base:Option Addr) (vb vo vc:Nat) (vs:List Value),bytes<=I0->vs.length=K->(∀j v,vs[j]?=some v->w.cell? ⟨vb,vo+j,none⟩=some v)->(∀v∈vs,v.oneCell'=true) ->
  Calls P f #[.slice base 0 0,.int .i64 0,.slice (some ⟨vb,vo,none⟩) 1 vc] w λe w'=>∃(q G:Nat) (us:Array Value) (t:TypeId),e=.returned (.slice (some ⟨w.heap.size,0,none⟩) 1 G)/\w'=(w.drewN q).alloc (.cells us t)/\1<=G/\G<=maxLen/\G*K<=us.size /\
   ∀j,j<K->us[j]?=vs[j]?
theorem WG {f:FuncId} {K bytes:Nat} (L:InsLaw0 P f K bytes) (O:Orc) (args:C6) (h:AH) (r:AV) (h':AH) (he:(cM K bytes).run O args h=some (r,h')):Program.enterable P f=true /\
  ∀(E:Env) (vs:Array Value),SR E->Cc E.w E.ok->E.h=h->W7 E args vs.toList ->
   Calls P f vs E.w λe w'=>∃u E',e=.returned u/\w'=E'.w/\Ext E E'/\SR E'/\E'.h=h'/\VR E' r u:=by
 refine⟨L.enter,λE avs hS _ hh hv=>?_⟩;subst hh;change Ro K bytes args E.h=some (r,h')at he;unfold Ro at he;split at he
 .rename_i z' i0 x0;unfold Ob at he;split at he
  .rename_i s i q z x heq;cases heq;split at he
   .rename_i hc0;obtain⟨hzK,hag⟩:=hc0;obtain⟨avs⟩:=avs;simp only[W7]at hv;obtain⟨v0,_,rfl,hv0,v1,_,rfl,hv1,v2,_,rfl,hv2,rfl⟩:=hv;simp only[VR]at hv1;subst hv1;obtain⟨vb,vo,vc,vs,rfl,hvl,hvc,hv1c,hvr,hK⟩:=Qn hS hzK hv2;have hvc1:∀j u,vs[j]?=some u->E.w.cell? ⟨vb,vo+j,none⟩=some u:=λj u hu=>(hvc j u hu).1;simp only at he;split at he
    .rename_i hc;obtain⟨rfl,hb⟩:=hc;cases he;simp only[VR,PV]at hv0;obtain⟨base,len,cap,rfl,rfl,_,_,h4',_,_⟩:=hv0;have hcap:cap=0:=h4' trivial;subst hcap;refine(L.newR E.w base vb vo vc vs hb hvl hvc1 hv1c).mono λe w' ⟨q,G,us,te,h1,h2,h3,h4,h5,h6⟩=>?_;have x1:=AT hS (De E.w q);have s1:=Dq hS (De E.w q);refine⟨_,({E with w:=E.w.drewN q}:Env).newFam us te G ⟨[x],K,true⟩,h1,h2,x1.trans (Fd s1 _ _ _ _),Ic s1 hK (by simpa using h3) h4 h5 (λj y hy=>?_),rfl,?_⟩
     .obtain⟨g1,g2⟩:=Jc x1 hvr j y hy;refine⟨g1,λc y' hy'=>?_⟩;obtain⟨v,v1,v2⟩:=g2 c y' hy';have hjn:j=0:=by have:=(zg1z.1 hy).1;simpa using this
      have hcK:c<K:=by have:=(zg1z.1 hy').1;omega
      subst hjn;rw[Nat.zero_mul,zf5z]at v1 ⊢;exact⟨v,by rw[h6 _ hcK];exact v1,v2⟩
     .simp only[VR,Env.newFam,P7];exact⟨_,_,⟨[x],K,true⟩,rfl,by simp,⟨by simp,λ_=>⟨_,_,rfl⟩⟩,λ_=>⟨zg5z _,by simp,by simp,(λh=>nomatch h),λ_=>by simp⟩⟩
    .cases he
   .cases he
  .cases he
 .cases he
structure GrowLaw (P:Program) (f:FuncId) (K bytes:Nat):Prop where
 pos:0<K
 enter:Program.enterable P f=true
 zero:∀(w:World) (base:Option Addr),Calls P f #[.slice base 0 0,.int .i64 0] w λe w'=>e=.returned (.slice base 0 0)/\w'=w
 some:∀(w:World) (base:Option Addr) (n:Nat),0<n->n*bytes<=I0->n<=maxLen ->
  Calls P f #[.slice base 0 0,.int .i64 n] w λe w'=>∃(q G:Nat) (us:Array Value) (t:TypeId),e=.returned (.slice (some ⟨w.heap.size,0,none⟩) 0 G)/\w'=(w.drewN q).alloc (.cells us t)/\G<=maxLen/\G*K<=us.size
theorem OY {f:FuncId} {K bytes:Nat} {b:Bool} (L:GrowLaw P f K bytes) (O:Orc) (args:C6) (h:AH) (r:AV) (h':AH) (he:(Tp K bytes b).run O args h=some (r,h')):Program.enterable P f=true /\
  ∀(E:Env) (vs:Array Value),SR E->Cc E.w E.ok->E.h=h->W7 E args vs.toList ->
   Calls P f vs E.w λe w'=>∃u E',e=.returned u/\w'=E'.w/\Ext E E'/\SR E'/\E'.h=h'/\VR E' r u:=by
 refine⟨L.enter,λE avs hS _ hh hv=>?_⟩;subst hh;change Rm K bytes b args E.h=some (r,h')at he;unfold Rm at he;split at he
 .rename_i z n;obtain⟨avs⟩:=avs;simp only[W7]at hv;obtain⟨v0,_,rfl,hv0,v1,_,rfl,hv1,rfl⟩:=hv;simp only[VR]at hv1;subst hv1;have hv0':=hv0;simp only[VR,PV]at hv0;obtain⟨base,len,cap,rfl,rfl,_,_,h4',_,_⟩:=hv0;have hcap:cap=0:=h4' trivial;subst hcap;split at he
  .rename_i h0;subst h0;cases he;exact(L.zero E.w base).mono λe w' ⟨h1,h2⟩=>⟨_,E,h1,h2,Ext.refl E,hS,rfl,hv0'⟩
  .split at he
   .rename_i hc;obtain⟨c1,c2,c3⟩:=hc;cases he;obtain⟨m,rfl⟩:∃m:Nat,n=m:=⟨n.toNat,by omega⟩;refine(L.some E.w base m (by omega) (by exact_mod_cast c2) (by exact_mod_cast c3)).mono λe w' ⟨q,G,us,te,h1,h2,h3,h4⟩=>?_;have x1:=AT hS (De E.w q);have s1:=Dq hS (De E.w q);refine⟨_,({E with w:=E.w.drewN q}:Env).newFam us te G ⟨[],K,b⟩,h1,h2,x1.trans (Fd s1 _ _ _ _),Ic s1 L.pos (zg5z _) h3 h4 (λj y hy=>by simp at hy),rfl,?_⟩
    simp only[VR,Env.newFam,P7];exact⟨_,_,⟨[],K,b⟩,rfl,by simp,⟨by simp,λh=>absurd rfl h⟩,λ_=>⟨zg5z _,by simp,by simp,(λh=>nomatch h),λ_=>by simp⟩⟩
   .cases he
 .cases he
end
end Go.Abs
set_option linter.unusedVariables false
set_option linter.unusedSimpArgs false
namespace Go.Proofs
open Go.RowKit Go.Lib Go.Abs
theorem Tryz.powsUnd:Tryz.prog.underlying 334=some (.slice 372):=by kernel_rfl
set_option maxHeartbeats 4000000 in
set_option maxRecDepth 100000 in
theorem Tryz.insp_nil (base:Option Addr) (vb vo vc:Nat) (vs:List Value) (w:World) (i0:TypeInfo) (z:Value) (hi0:Tryz.prog.info? 372=some i0) (hz0:i0.zero=some z) (L4:i0.size=5) (hbig:i0.bytes<=140737488355328)
  (hvl:vs.length=5) (HI:∀j v,vs[j]?=some v->w.cell? ⟨vb,vo+j,none⟩=some v) (h1v:∀v∈vs,v.oneCell'=true) :
  Calls Tryz.prog 382 #[.slice base 0 0,.int .i64 0,.slice (some ⟨vb,vo,none⟩) 1 vc] w λe w'=>e=.returned (.slice (some ⟨w.heap.size,0,none⟩) 1 (grownCap w 1 0 372)) /\
   w'=w.drew.alloc (.cells (vs.toArray++Builtin.zeroCells z.cells (grownCap w 1 0 372-1)) 372):=by
 have hsrc:Src Tryz.prog i0.size 334 (.slice (some ⟨vb,vo,none⟩) 1 vc) 1 vs w:=Src.ofSlice w Tryz.powsUnd ⟨vb,vo,none⟩ 1 vc vs (by rw[L4,hvl]) (λj u hj=>by rw[Addr.add_lit];exact HI j u hj) h1v;have hold:(Builtin.firstCells i0.size 0 (.slice base 0 0)).run Tryz.prog w.drew=.ok ([]:List Value).toArray w.drew:=by
  rw[L4];cases base with
  |none=>exact run_firstCells_none w.drew 5 0 0 0
  |some a=>exact run_firstCells_some w.drew 5 0 a 0 0 [] rfl (λj v hj=>by simp at hj)
 have hrun:∀ty,(Builtin.append_ #[334,334] ty #[.slice base 0 0,.slice (some ⟨vb,vo,none⟩) 1 vc]).run Tryz.prog w=_:=λty =>
  run_append_grow_src w 334 334 ty 372 i0 z Tryz.powsUnd hi0 hz0 base 0 0 [] hold _ 1 vs hsrc (by omega) (by omega) (growslice_fits (by omega) (by rw[zf5z,Nat.one_mul];exact hbig))
 rw[zf5z,List.nil_append]at hrun;generalize hG:grownCap w 1 0 372=G at *
 generalize hR:vs.toArray++Builtin.zeroCells z.cells (G-1)=R at *
 clear hR hold hsrc hG
 go_enter Tryz.func382,Tryz.ntmps382
 cases base with
 |none =>
  go_wp2_with (at_builtin;refine Lib.wpList_append_run _ rfl _ _ _ _ rfl _ _ rfl rfl _ _ (hrun _) ?_)
  go_ret
  exact⟨rfl,rfl⟩
 |some a =>
  obtain⟨ab,ao,asp⟩:=a
  go_wp2_with (at_builtin;refine Lib.wpList_append_run _ rfl _ _ _ _ rfl _ _ rfl rfl _ _ (hrun _) ?_)
  all_goals (go_ret;exact⟨rfl,rfl⟩)
set_option maxRecDepth 100000 in
theorem Tryz.insLawP:InsLaw0 Tryz.prog 382 5 64:=by
 obtain⟨i0,z,hi0,L4,hz0,hzs,hby⟩:∃i0 z,Tryz.prog.info? 372=some i0/\i0.size=5/\i0.zero=some z/\z.cells.size=5/\i0.bytes=64:=⟨_,_,rfl,by kernel_rfl,rfl,by kernel_rfl,by kernel_rfl⟩;refine⟨by omega,by kernel_rfl,?_⟩;intro w base vb vo vc vs hb hvl HI h1v;have hG1:=grownCap_ge w 1 0 372;have hG2:=grownCap_le_maxLen w 1 0 372 (by unfold maxLen;omega);refine(Tryz.insp_nil base vb vo vc vs w i0 z hi0 hz0 L4 (by rw[hby];omega) hvl HI h1v).mono λe w' ⟨h1,h2⟩=>⟨1,_,_,_,h1,h2,hG1,hG2,?_,?_⟩
 .rw[zf1z,size_zeroCells,hzs,zf8z,hvl];omega
 .intro j hj;rw[zf2z (by simp;omega),zf4z]
set_option maxHeartbeats 4000000 in
set_option maxRecDepth 100000 in
theorem Tryz.growZero (base:Option Addr) (w:World):Calls Tryz.prog 260 #[.slice base 0 0,.int .i64 0] w λe w'=>e=.returned (.slice base 0 0)/\w'=w:=by
 go_enter Tryz.func260,Tryz.ntmps260
 go_wp2
 go_ret
 exact⟨rfl,rfl⟩
set_option maxHeartbeats 4000000 in
set_option maxRecDepth 100000 in
theorem Tryz.growSome (base:Option Addr) (n:Nat) (w:World) (i0:TypeInfo) (z:Value) (hi0:Tryz.prog.info? 41=some i0) (hz0:i0.zero=some z) (L4:i0.size=4) (h0:0<n) (hm:n<=maxLen) (hbig:n*i0.bytes<=140737488355328) :
  Calls Tryz.prog 260 #[.slice base 0 0,.int .i64 n] w λe w'=>e=.returned (.slice (some ⟨w.heap.size,0,none⟩) 0 (grownCap w n 0 41)) /\
   w'=w.drew.alloc (.cells (Builtin.zeroCells z.cells n++Builtin.zeroCells z.cells (grownCap w n 0 41-n)) 41):=by
 have oD:maxLen<=9223372036854775807:=by unfold maxLen;omega
 have mixed:Tryz.prog.follows Departure.mixedOrders=true:=by kernel_rfl
 have hold:(Builtin.firstCells i0.size 0 (.slice base 0 0)).run Tryz.prog w.drew=.ok ([]:List Value).toArray w.drew:=by
  rw[L4];cases base with
  |none=>exact run_firstCells_none w.drew 4 0 0 0
  |some a=>exact run_firstCells_some w.drew 4 0 a 0 0 [] rfl (λj v hj=>by simp at hj)
 have hrz:∀ty,(Builtin.append_ #[39,3] ty #[.slice base 0 0,.int .i64 (n:Int)]).run Tryz.prog w =
   .ok (.slice (some ⟨w.heap.size,0,none⟩) n (grownCap w n 0 41)) (w.drew.alloc (.cells (Builtin.zeroCells z.cells n++Builtin.zeroCells z.cells (grownCap w n 0 41-n)) 41)):=λty=>by
  have h:=Lib.run_append_grow_zeros w 39 3 ty 41 i0 z .i64 .i64 Tryz.termsUnd Tryz.intUnd hi0 hz0 base 0 0 [] hold n (by omega) (by omega) (by omega) (by omega) (by omega)
   (by rw[zf5z];exact growslice_fits (need:=n) (by omega) hbig)
  rw[zf5z]at h;simpa using h
 have hG63:grownCap w n 0 41<=9223372036854775807:=by
  have:=grownCap_le_maxLen w n 0 41 hm;omega
 generalize hG:grownCap w n 0 41=G at *
 generalize hR:Builtin.zeroCells z.cells n++Builtin.zeroCells z.cells (G-n)=R at *
 have h1:¬((n:Int)<0):=by omega
 have h2:wrap64 (n:Int)=(n:Int):=by unfold wrap64;omega
 have h4:(n:Int) > 0:=by omega
 clear hR hold hG
 go_enter Tryz.func260,Tryz.ntmps260
 cases base with
 |none =>
  go_wp2_with (at_builtin;refine Lib.wpList_append_run _ rfl _ _ _ _ rfl _ _ rfl rfl _ _ (hrz _) ?_)
  all_goals (go_ret;exact⟨rfl,rfl⟩)
 |some a =>
  obtain⟨ab,ao,asp⟩:=a
  go_wp2_with (at_builtin;refine Lib.wpList_append_run _ rfl _ _ _ _ rfl _ _ rfl rfl _ _ (hrz _) ?_)
  all_goals (go_ret;exact⟨rfl,rfl⟩)
set_option maxRecDepth 100000 in
theorem Tryz.growLaw:GrowLaw Tryz.prog 260 4 56:=by
 obtain⟨i0,z,hi0,L4,hz0,hzs,hby⟩:∃i0 z,Tryz.prog.info? 41=some i0/\i0.size=4/\i0.zero=some z/\z.cells.size=4/\i0.bytes=56:=⟨_,_,rfl,by kernel_rfl,rfl,by kernel_rfl,by kernel_rfl⟩;refine⟨by omega,by kernel_rfl,λw base=>Tryz.growZero base w,λw base n h0 hb hm=>?_⟩;have hG1:=grownCap_ge w n 0 41;refine(Tryz.growSome base n w i0 z hi0 hz0 L4 h0 hm (by rw[hby];exact hb)).mono λe w' ⟨h1,h2⟩=>⟨1,_,_,_,h1,h2,grownCap_le_maxLen w n 0 41 hm,?_⟩;rw[zf1z,size_zeroCells,size_zeroCells,hzs];omega
theorem Tryz.bindsUnd:Tryz.prog.underlying 182=some (.slice 230):=by kernel_rfl
set_option maxHeartbeats 4000000 in
set_option maxRecDepth 100000 in
theorem Tryz.growZeroB (base:Option Addr) (w:World):Calls Tryz.prog 268 #[.slice base 0 0,.int .i64 0] w λe w'=>e=.returned (.slice base 0 0)/\w'=w:=by
 go_enter Tryz.func268,Tryz.ntmps268
 go_wp2
 go_ret
 exact⟨rfl,rfl⟩
set_option maxHeartbeats 4000000 in
set_option maxRecDepth 100000 in
theorem Tryz.growSomeB (base:Option Addr) (n:Nat) (w:World) (i0:TypeInfo) (z:Value) (hi0:Tryz.prog.info? 230=some i0) (hz0:i0.zero=some z) (L4:i0.size=8) (h0:0<n) (hm:n<=maxLen) (hbig:n*i0.bytes<=140737488355328) :
  Calls Tryz.prog 268 #[.slice base 0 0,.int .i64 n] w λe w'=>e=.returned (.slice (some ⟨w.heap.size,0,none⟩) 0 (grownCap w n 0 230)) /\
   w'=w.drew.alloc (.cells (Builtin.zeroCells z.cells n++Builtin.zeroCells z.cells (grownCap w n 0 230-n)) 230):=by
 have oD:maxLen<=9223372036854775807:=by unfold maxLen;omega
 have mixed:Tryz.prog.follows Departure.mixedOrders=true:=by kernel_rfl
 have hold:(Builtin.firstCells i0.size 0 (.slice base 0 0)).run Tryz.prog w.drew=.ok ([]:List Value).toArray w.drew:=by
  rw[L4];cases base with
  |none=>exact run_firstCells_none w.drew 8 0 0 0
  |some a=>exact run_firstCells_some w.drew 8 0 a 0 0 [] rfl (λj v hj=>by simp at hj)
 have hrz:∀ty,(Builtin.append_ #[182,3] ty #[.slice base 0 0,.int .i64 (n:Int)]).run Tryz.prog w =
   .ok (.slice (some ⟨w.heap.size,0,none⟩) n (grownCap w n 0 230)) (w.drew.alloc (.cells (Builtin.zeroCells z.cells n++Builtin.zeroCells z.cells (grownCap w n 0 230-n)) 230)):=λty=>by
  have h:=Lib.run_append_grow_zeros w 182 3 ty 230 i0 z .i64 .i64 Tryz.bindsUnd Tryz.intUnd hi0 hz0 base 0 0 [] hold n (by omega) (by omega) (by omega) (by omega) (by omega)
   (by rw[zf5z];exact growslice_fits (need:=n) (by omega) hbig)
  rw[zf5z]at h;simpa using h
 have hG63:grownCap w n 0 230<=9223372036854775807:=by
  have:=grownCap_le_maxLen w n 0 230 hm;omega
 generalize hG:grownCap w n 0 230=G at *
 generalize hR:Builtin.zeroCells z.cells n++Builtin.zeroCells z.cells (G-n)=R at *
 have h1:¬((n:Int)<0):=by omega
 have h2:wrap64 (n:Int)=(n:Int):=by unfold wrap64;omega
 have h4:(n:Int) > 0:=by omega
 clear hR hold hG
 go_enter Tryz.func268,Tryz.ntmps268
 cases base with
 |none =>
  go_wp2_with (at_builtin;refine Lib.wpList_append_run _ rfl _ _ _ _ rfl _ _ rfl rfl _ _ (hrz _) ?_)
  all_goals (go_ret;exact⟨rfl,rfl⟩)
 |some a =>
  obtain⟨ab,ao,asp⟩:=a
  go_wp2_with (at_builtin;refine Lib.wpList_append_run _ rfl _ _ _ _ rfl _ _ rfl rfl _ _ (hrz _) ?_)
  all_goals (go_ret;exact⟨rfl,rfl⟩)
set_option maxRecDepth 100000 in
theorem Tryz.growLawB:GrowLaw Tryz.prog 268 8 112:=by
 obtain⟨i0,z,hi0,L4,hz0,hzs,hby⟩:∃i0 z,Tryz.prog.info? 230=some i0/\i0.size=8/\i0.zero=some z/\z.cells.size=8/\i0.bytes=112:=⟨_,_,rfl,by kernel_rfl,rfl,by kernel_rfl,by kernel_rfl⟩;refine⟨by omega,by kernel_rfl,λw base=>Tryz.growZeroB base w,λw base n h0 hb hm=>?_⟩;have hG1:=grownCap_ge w n 0 230;refine(Tryz.growSomeB base n w i0 z hi0 hz0 L4 h0 hm (by rw[hby];exact hb)).mono λe w' ⟨h1,h2⟩=>⟨1,_,_,_,h1,h2,grownCap_le_maxLen w n 0 230 hm,?_⟩;rw[zf1z,size_zeroCells,size_zeroCells,hzs];omega
end Go.Proofs
namespace Go.Proofs
set_option maxHeartbeats 1000000 in
set_option maxRecDepth 100000 in
theorem Tryz.cmpString (a b:ByteArray) (w:World) :
  Calls Tryz.prog 132 #[.string a,.string b] w λe w'=>e=.returned (.int .i64 (Lib.compareBytes a.data.toList b.data.toList))/\w'=w:=by
 go_enter Tryz.func132,Tryz.ntmps132
 go_wp2
 rw[run_callFunc_extern Tryz.func176 (by kernel_rfl) (by kernel_rfl) (by kernel_rfl) (e:=Extern.BytealgCompare.compare) (by kernel_rfl),Lib.run_compareString];simp only[Result.andThen];rw[Oper.upon_value]
 go_wp2
 go_ret
 exact⟨rfl,rfl⟩
set_option maxHeartbeats 1000000 in
set_option maxRecDepth 100000 in
theorem Tryz.sliteIndexByte (s:ByteArray) (c:Int) (w:World) :
  Calls Tryz.prog 237 #[.string s,.int .u8 c] w λe w'=>e=.returned (.int .i64 (Lib.indexByte s.data.toList c.toNat.toUInt8))/\w'=w:=by
 go_enter Tryz.func237,Tryz.ntmps237
 go_wp2
 rw[run_callFunc_extern Tryz.func291 (by kernel_rfl) (by kernel_rfl) (by kernel_rfl) (e:=Extern.BytealgIndexByte.indexByte) (by kernel_rfl),Lib.run_indexByteString];simp only[Result.andThen];rw[Oper.upon_value]
 go_wp2
 go_ret
 exact⟨rfl,rfl⟩
set_option maxHeartbeats 2000000 in
set_option maxRecDepth 100000 in
theorem Tryz.sliteIndexOne (s:ByteArray) (c:UInt8) (w:World) :
  Calls Tryz.prog 188 #[.string s,.string ⟨#[c]⟩] w λe w'=>e=.returned (.int .i64 (Lib.indexByte s.data.toList c))/\w'=w:=by
 go_enter Tryz.func188,Tryz.ntmps188
 go_wp2_with (go_at_call 237;refine(Tryz.sliteIndexByte _ _ _).mono ?_;rintro e w' ⟨rfl,rfl⟩)
 .have h:([c] == s.toList)=true:=by assumption
  go_ret
  refine⟨?_,rfl⟩;have e:s.data.toList=[c]:=by rw[←Lib.toList_data];exact(beq_iff_eq.1 h).symm
  rw[e];simp[Lib.indexByte]
 .go_ret
  exact⟨rfl,rfl⟩
set_option maxHeartbeats 1000000 in
theorem Tryz.stringsIndexOne (s:ByteArray) (c:UInt8) (w:World) :
  Calls Tryz.prog 141 #[.string s,.string ⟨#[c]⟩] w λe w'=>e=.returned (.int .i64 (Lib.indexByte s.data.toList c))/\w'=w:=by
 go_enter Tryz.func141,Tryz.ntmps141
 go_wp2_with (go_at_call 188;refine(Tryz.sliteIndexOne _ _ _).mono ?_;rintro e w' ⟨rfl,rfl⟩)
 go_ret
 exact⟨rfl,rfl⟩
set_option maxHeartbeats 1000000 in
theorem Tryz.stringsContainsOne (s:ByteArray) (c:UInt8) (w:World) :
  Calls Tryz.prog 96 #[.string s,.string ⟨#[c]⟩] w λe w'=>e=.returned (.bool (decide (0<=Lib.indexByte s.data.toList c)))/\w'=w:=by
 go_enter Tryz.func96,Tryz.ntmps96
 go_wp2_with (go_at_call 141;refine(Tryz.stringsIndexOne _ _ _).mono ?_;rintro e w' ⟨rfl,rfl⟩)
 go_ret
 exact⟨rfl,rfl⟩
end Go.Proofs
namespace Go.Abs.Q
open Go.Proofs
open Go.RowKit (Below)
theorem OH:∀(a b:List UInt8),Lib.compareBytes a b=if Op.bytesLess a b then -1 else if a=b then 0 else 1
 | [],[]=>by simp[Lib.compareBytes,Op.bytesLess]
 | [],_::_=>by simp[Lib.compareBytes,Op.bytesLess]
 |_::_,[]=>by simp[Lib.compareBytes,Op.bytesLess]
 |x::a,y::b=>by
  simp only[Lib.compareBytes,Op.bytesLess,OH a b];by_cases h:x<y
  .simp[h]
  .by_cases h':y<x
   .have T6:x≠y:=λe=>h (e ▸ h');simp[h,h',T6]
   .have he:x=y:=by
     apply UInt8.le_antisymm
     .exact UInt8.not_lt.1 h'
     .exact UInt8.not_lt.1 h
    subst he;simp[h]
theorem TO (a b:R7):R8 a b=Lib.compareBytes a.data.toList b.data.toList:=by
 rw[OH,R8,Lib.toList_data,Lib.toList_data]
theorem Kg (c:UInt8):∀l:List UInt8,0<=Lib.indexByte l c↔c∈l
 | []=>by simp[Lib.indexByte]
 |b::l=>by
  have ih:=Kg c l;have hge:=Lib.indexByte_ge l c;by_cases h:b=c
  .subst h;simp[Lib.indexByte]
  .have h1:Lib.indexByte (b::l) c=if Lib.indexByte l c=-1 then -1 else Lib.indexByte l c+1:=by
    simp[Lib.indexByte,h]
   have h2:¬c=b:=λe=>h e.symm;rw[h1,List.mem_cons];by_cases h3:Lib.indexByte l c=-1
   .rw[if_pos h3];constructor
    .intro k;omega
    .rintro(k|k)
     .exact absurd k h2
     .have:=ih.2 k;omega
   .rw[if_neg h3];constructor
    .intro k;exact .inr (ih.1 (by omega))
    .intro k;omega
theorem Pq (l:List UInt8) (c:UInt8):decide (0<=Lib.indexByte l c)=l.contains c:=by
 rw[Bool.eq_iff_iff,decide_eq_true_iff,Kg];simp
theorem mixed:Tryz.prog.follows .mixedOrders=true:=by kernel_rfl
theorem kR (f:FuncId) (s:RSpec) (h:PN f=some s):(f=N8/\s=jq 4 56)\/(f=M8/\s=cM 5 64)\/(f=R4/\s=Tp 4 56 true)\/(f=M7/\s=Tp 8 112 true):=by
 unfold PN at h;split at h
 .rename_i hf;cases h;exact .inl ⟨hf,rfl⟩
 .split at h
  .rename_i hf;cases h;exact .inr (.inl ⟨hf,rfl⟩)
  .split at h
   .rename_i hf;cases h;exact .inr (.inr (.inl ⟨hf,rfl⟩))
   .split at h
    .rename_i hf;cases h;exact .inr (.inr (.inr ⟨hf,rfl⟩))
    .cases h
theorem QS:CfgS Tryz.prog Q:=by
 refine⟨λf rf h=>?_,λf s hs args r hr=>?_,mixed,λf s hs O hP args h r h' he=>?_⟩
 .have h1:Ax f=some rf:=(Nv f).symm.trans h;unfold Ax at h1;split at h1
  .cases h1
  .exact h1
 rotate_left 1
 .have hs':PN f=some s:=hs;rcases kR f s hs' with ⟨rfl,rfl⟩|⟨rfl,rfl⟩|⟨rfl,rfl⟩|⟨rfl,rfl⟩
  .exact Yu Tryz.insLaw O args h r h' he
  .exact WG Tryz.insLawP O args h r h' he
  .exact OY Tryz.growLaw O args h r h' he
  .exact OY Tryz.growLawB O args h r h' he
 have hs':JR f=some s:=(RP f).symm.trans hs;unfold JR at hs';split at hs'
 .rename_i hf;subst hf;cases hs';unfold Sh at hr;split at hr
  .rename_i a b;cases hr;refine⟨by kernel_rfl,λw ok0 vs _ _ hv=>?_⟩;have HI:vs=#[.string a,.string b]:=by
    simp only[W5,PV]at hv;obtain⟨u,us,h1,rfl,u',us',rfl,rfl,rfl⟩:=hv;cases vs
    simp_all
   subst HI;refine(Tryz.cmpString a b w).mono λe w' ⟨he,hw⟩=>?_;subst hw;exact⟨_,he,Bl.refl _ _,by simp[PV,TO]⟩
  .cases hr
 .split at hs'
  .rename_i hf;subst hf;cases hs';unfold Sj at hr;split at hr
   .rename_i a b;split at hr
    .rename_i c hb;cases hr;refine⟨by kernel_rfl,λw ok0 vs _ _ hv=>?_⟩;have hb':b=⟨#[c]⟩:=by
      obtain⟨⟨l⟩⟩:=b;simp at hb;rw[hb]
     subst hb';have HI:vs=#[.string a,.string ⟨#[c]⟩]:=by
      simp only[W5,PV]at hv;obtain⟨u,us,h1,rfl,u',us',rfl,rfl,rfl⟩:=hv;cases vs
      simp_all
     subst HI;refine(Tryz.stringsContainsOne a c w).mono λe w' ⟨he,hw⟩=>?_;subst hw;exact⟨_,he,Bl.refl _ _,by simp[PV,Pq]⟩
    .cases hr
   .cases hr
  .split at hs'
   .rename_i hf;subst hf;cases hs';unfold eF at hr;split at hr
    .rename_i a c;cases hr;refine⟨by kernel_rfl,λw ok0 vs _ _ hv=>?_⟩;have HI:vs=#[.string a,.int .u8 c]:=by
      simp only[W5,PV]at hv;obtain⟨u,us,h1,rfl,u',us',rfl,rfl,rfl⟩:=hv;cases vs
      simp_all
     subst HI;refine(Tryz.sliteIndexByte a c w).mono λe w' ⟨he,hw⟩=>?_;subst hw;exact⟨_,he,Bl.refl _ _,by simp[PV]⟩
    .cases hr
   .split at hs'
    .rename_i hf;subst hf;cases hs';unfold eG at hr;split at hr
     .rename_i a b;split at hr
      .rename_i c hb;cases hr;refine⟨by kernel_rfl,λw ok0 vs _ _ hv=>?_⟩;have hb':b=⟨#[c]⟩:=by
        obtain⟨⟨l⟩⟩:=b;simp at hb;rw[hb]
       subst hb';have HI:vs=#[.string a,.string ⟨#[c]⟩]:=by
        simp only[W5,PV]at hv;obtain⟨u,us,h1,rfl,u',us',rfl,rfl,rfl⟩:=hv;cases vs
        simp_all
       subst HI;refine(Tryz.stringsIndexOne a c w).mono λe w' ⟨he,hw⟩=>?_;subst hw;exact⟨_,he,Bl.refl _ _,by simp[PV]⟩
      .cases hr
     .cases hr
    .cases hs'
end Go.Abs.Q
