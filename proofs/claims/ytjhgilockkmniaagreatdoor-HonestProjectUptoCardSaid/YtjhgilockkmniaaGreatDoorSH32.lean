/- A part of the proof. -/
import Derived.Test.YtjhgilockkmniaaGreatDoorSH31
import Derived.StillTailTactics
import Derived.LoopTactic
set_option linter.all false
open ByteArray renaming size_append->zf0z
open Array renaming getElem?_push_size->zf1z
open Nat renaming le_trans->zf2z
open List renaming drop_succ_cons->zf3z,take_succ_cons->zf4z,length_append->zf5z,drop_zero->zf6z,take_zero->zf7z,append_assoc->zf8z,length_cons->zf9z,mem_cons->zg0z,append_nil->zg1z,length_nil->zg2z
namespace Go.Proofs
open Go.RowKit Go.Abs
set_option maxHeartbeats 8000000 in
set_option maxRecDepth 100000 in
theorem Tryz.write_atom0 (B b:Nat) (bs:List Value) (tn:ByteArray) (sl:Value) (w:World) (h:Lib.IsBuilder 310 5 B b bs w) (C4:bs.length+tn.size+10<=140737488355328) (hBw:B<=w.heap.size) (hW:GN B w) :
  Calls Tryz.prog 253 #[.pointer (some ⟨b,0,none⟩),.agg #[.int .i64 2,.string tn,.int .i64 0,sl]] w λe w'=>e=.returned (.tuple #[])/\(Lib.BuilderAt 310 5 B b (.pointer (some ⟨b,0,none⟩)) (bs++Lib.byteCells (tn.data.toList++58::uI 0)) w'/\Below B w w'/\N9 5 b w w'):=by
 obtain⟨wb,wo,cap,hwb,hgb,hg,hwd⟩:=hW;have hbl:b<w.heap.size:=by rcases h with h|h<;>exact h.lt
 have hd0:=hwd 0 (by omega);obtain⟨u,hu⟩:∃u:ByteArray,u=⟨(HO.getD 0 []).toArray⟩:=⟨_,rfl⟩;have hul:u.size<=5:=by rw[hu];decide
 have huw:u.data.toList=uI 0:=by rw[hu];rfl
 rw[←hu]at hd0;clear hu hwd;have hau:(tn++⟨#[58]⟩++u:ByteArray).size<=tn.size+u.size+1:=by simp[zf0z];show tn.size+1+u.size<=tn.size+u.size+1;omega
 have hs1:(tn++⟨#[58]⟩:ByteArray).size=tn.size+1:=by rw[zf0z];rfl
 have e2:Lib.strCells (tn++⟨#[58]⟩++u)=Lib.byteCells (tn.data.toList++58::uI 0):=by
  rw[Lib.strCells_eq,←huw];congr 1;simp
 obtain⟨W,hWe⟩:∃W,W=w.alloc (.cells #[.int .i64 2,.string tn,.int .i64 0,sl] 41):=⟨_,rfl⟩;have hbW:Below B w W.drew:=by
  rw[hWe];have k:=(Below.refl B w).alloc hBw (.cells #[.int .i64 2,.string tn,.int .i64 0,sl] 41);exact⟨k.os,k.tape,k.output,k.size,k.block⟩
 have hiW:Lib.IsBuilder 310 5 B b bs W.drew:=by rw[hWe];exact AE h _
 have hapW:N9 5 b w W.drew:=by rw[hWe];exact N9.alloc w _
 have hg1:=(hbW.cell hgb).trans hg;have hd1:=(hbW.cell (p:=⟨wb,wo,none⟩) hwb).trans hd0;have hc:∀i,W.drew.cell? ⟨w.heap.size,i,none⟩=#[.int .i64 2,.string tn,.int .i64 0,sl][i]?:=λi=>by
  rw[hWe];exact Lib.cell_of_heap (w:=(w.alloc _).drew) (show (w.heap.push _)[w.heap.size]?=some (.cells _ 41 (0,0)) from zf1z) i
 have hc1:=hc 1;have hc2:=hc 2;clear hc
 go_enter Tryz.func253,Tryz.ntmps253
 go_wp2
 rw[←hWe];refine wp_region_still_tail 10 (by kernel_rfl) (by kernel_rfl) ?_;simp only[zf4z,zf7z,zf3z,zf6z];change wpStill _ _ W.drew (λa'=>wpList _ _ _ _ a' W.drew) _ _;generalize W.drew=W1 at *
 clear hWe
 repeat still_step
 refine wpStill_step (λK hK=>?_)
 go_simp
 rw[if_neg (by omega)];refine⟨rfl,hK _ ?_⟩;clear hK K
 repeat still_step
 refine wpStill_step (λK hK=>?_)
 go_simp
 rw[if_neg (by omega)];refine⟨rfl,hK _ ?_⟩;clear hK K;refine wpStill_nil ?_
 go_wp2_with (go_at_call 300;(refine(Tryz.bldWriteString B b bs _ _ hiW (by omega) (zf2z hBw hbW.size)).mono ?_;rintro e w2 ⟨rfl,h2,hb2,hap2⟩))
 refine bodyPost_ret (results_none rfl _ _ _) rfl ?_;refine⟨rfl,?_,hbW.trans hb2,hapW.trans hap2⟩;rw[e2]at h2;exact h2
set_option maxHeartbeats 8000000 in
set_option maxRecDepth 100000 in
theorem Tryz.write_atom1 (B b:Nat) (bs:List Value) (tn:ByteArray) (sl:Value) (w:World) (h:Lib.IsBuilder 310 5 B b bs w) (C4:bs.length+tn.size+10<=140737488355328) (hBw:B<=w.heap.size) (hW:GN B w) :
  Calls Tryz.prog 253 #[.pointer (some ⟨b,0,none⟩),.agg #[.int .i64 2,.string tn,.int .i64 1,sl]] w λe w'=>e=.returned (.tuple #[])/\(Lib.BuilderAt 310 5 B b (.pointer (some ⟨b,0,none⟩)) (bs++Lib.byteCells (tn.data.toList++58::uI 1)) w'/\Below B w w'/\N9 5 b w w'):=by
 obtain⟨wb,wo,cap,hwb,hgb,hg,hwd⟩:=hW;have hbl:b<w.heap.size:=by rcases h with h|h<;>exact h.lt
 have hd0:=hwd 1 (by omega);obtain⟨u,hu⟩:∃u:ByteArray,u=⟨(HO.getD 1 []).toArray⟩:=⟨_,rfl⟩;have hul:u.size<=5:=by rw[hu];decide
 have huw:u.data.toList=uI 1:=by rw[hu];rfl
 rw[←hu]at hd0;clear hu hwd;have hau:(tn++⟨#[58]⟩++u:ByteArray).size<=tn.size+u.size+1:=by simp[zf0z];show tn.size+1+u.size<=tn.size+u.size+1;omega
 have hs1:(tn++⟨#[58]⟩:ByteArray).size=tn.size+1:=by rw[zf0z];rfl
 have e2:Lib.strCells (tn++⟨#[58]⟩++u)=Lib.byteCells (tn.data.toList++58::uI 1):=by
  rw[Lib.strCells_eq,←huw];congr 1;simp
 obtain⟨W,hWe⟩:∃W,W=w.alloc (.cells #[.int .i64 2,.string tn,.int .i64 1,sl] 41):=⟨_,rfl⟩;have hbW:Below B w W.drew:=by
  rw[hWe];have k:=(Below.refl B w).alloc hBw (.cells #[.int .i64 2,.string tn,.int .i64 1,sl] 41);exact⟨k.os,k.tape,k.output,k.size,k.block⟩
 have hiW:Lib.IsBuilder 310 5 B b bs W.drew:=by rw[hWe];exact AE h _
 have hapW:N9 5 b w W.drew:=by rw[hWe];exact N9.alloc w _
 have hg1:=(hbW.cell hgb).trans hg;have hd1:=(hbW.cell (p:=⟨wb,wo+1,none⟩) hwb).trans hd0;have hc:∀i,W.drew.cell? ⟨w.heap.size,i,none⟩=#[.int .i64 2,.string tn,.int .i64 1,sl][i]?:=λi=>by
  rw[hWe];exact Lib.cell_of_heap (w:=(w.alloc _).drew) (show (w.heap.push _)[w.heap.size]?=some (.cells _ 41 (0,0)) from zf1z) i
 have hc1:=hc 1;have hc2:=hc 2;clear hc
 go_enter Tryz.func253,Tryz.ntmps253
 go_wp2
 rw[←hWe];refine wp_region_still_tail 10 (by kernel_rfl) (by kernel_rfl) ?_;simp only[zf4z,zf7z,zf3z,zf6z];change wpStill _ _ W.drew (λa'=>wpList _ _ _ _ a' W.drew) _ _;generalize W.drew=W1 at *
 clear hWe
 repeat still_step
 refine wpStill_step (λK hK=>?_)
 go_simp
 rw[if_neg (by omega)];refine⟨rfl,hK _ ?_⟩;clear hK K
 repeat still_step
 refine wpStill_step (λK hK=>?_)
 go_simp
 rw[if_neg (by omega)];refine⟨rfl,hK _ ?_⟩;clear hK K;refine wpStill_nil ?_
 go_wp2_with (go_at_call 300;(refine(Tryz.bldWriteString B b bs _ _ hiW (by omega) (zf2z hBw hbW.size)).mono ?_;rintro e w2 ⟨rfl,h2,hb2,hap2⟩))
 refine bodyPost_ret (results_none rfl _ _ _) rfl ?_;refine⟨rfl,?_,hbW.trans hb2,hapW.trans hap2⟩;rw[e2]at h2;exact h2
set_option maxHeartbeats 8000000 in
set_option maxRecDepth 100000 in
theorem Tryz.write_atom2 (B b:Nat) (bs:List Value) (tn:ByteArray) (sl:Value) (w:World) (h:Lib.IsBuilder 310 5 B b bs w) (C4:bs.length+tn.size+10<=140737488355328) (hBw:B<=w.heap.size) (hW:GN B w) :
  Calls Tryz.prog 253 #[.pointer (some ⟨b,0,none⟩),.agg #[.int .i64 2,.string tn,.int .i64 2,sl]] w λe w'=>e=.returned (.tuple #[])/\(Lib.BuilderAt 310 5 B b (.pointer (some ⟨b,0,none⟩)) (bs++Lib.byteCells (tn.data.toList++58::uI 2)) w'/\Below B w w'/\N9 5 b w w'):=by
 obtain⟨wb,wo,cap,hwb,hgb,hg,hwd⟩:=hW;have hbl:b<w.heap.size:=by rcases h with h|h<;>exact h.lt
 have hd0:=hwd 2 (by omega);obtain⟨u,hu⟩:∃u:ByteArray,u=⟨(HO.getD 2 []).toArray⟩:=⟨_,rfl⟩;have hul:u.size<=5:=by rw[hu];decide
 have huw:u.data.toList=uI 2:=by rw[hu];rfl
 rw[←hu]at hd0;clear hu hwd;have hau:(tn++⟨#[58]⟩++u:ByteArray).size<=tn.size+u.size+1:=by simp[zf0z];show tn.size+1+u.size<=tn.size+u.size+1;omega
 have hs1:(tn++⟨#[58]⟩:ByteArray).size=tn.size+1:=by rw[zf0z];rfl
 have e2:Lib.strCells (tn++⟨#[58]⟩++u)=Lib.byteCells (tn.data.toList++58::uI 2):=by
  rw[Lib.strCells_eq,←huw];congr 1;simp
 obtain⟨W,hWe⟩:∃W,W=w.alloc (.cells #[.int .i64 2,.string tn,.int .i64 2,sl] 41):=⟨_,rfl⟩;have hbW:Below B w W.drew:=by
  rw[hWe];have k:=(Below.refl B w).alloc hBw (.cells #[.int .i64 2,.string tn,.int .i64 2,sl] 41);exact⟨k.os,k.tape,k.output,k.size,k.block⟩
 have hiW:Lib.IsBuilder 310 5 B b bs W.drew:=by rw[hWe];exact AE h _
 have hapW:N9 5 b w W.drew:=by rw[hWe];exact N9.alloc w _
 have hg1:=(hbW.cell hgb).trans hg;have hd1:=(hbW.cell (p:=⟨wb,wo+2,none⟩) hwb).trans hd0;have hc:∀i,W.drew.cell? ⟨w.heap.size,i,none⟩=#[.int .i64 2,.string tn,.int .i64 2,sl][i]?:=λi=>by
  rw[hWe];exact Lib.cell_of_heap (w:=(w.alloc _).drew) (show (w.heap.push _)[w.heap.size]?=some (.cells _ 41 (0,0)) from zf1z) i
 have hc1:=hc 1;have hc2:=hc 2;clear hc
 go_enter Tryz.func253,Tryz.ntmps253
 go_wp2
 rw[←hWe];refine wp_region_still_tail 10 (by kernel_rfl) (by kernel_rfl) ?_;simp only[zf4z,zf7z,zf3z,zf6z];change wpStill _ _ W.drew (λa'=>wpList _ _ _ _ a' W.drew) _ _;generalize W.drew=W1 at *
 clear hWe
 repeat still_step
 refine wpStill_step (λK hK=>?_)
 go_simp
 rw[if_neg (by omega)];refine⟨rfl,hK _ ?_⟩;clear hK K
 repeat still_step
 refine wpStill_step (λK hK=>?_)
 go_simp
 rw[if_neg (by omega)];refine⟨rfl,hK _ ?_⟩;clear hK K;refine wpStill_nil ?_
 go_wp2_with (go_at_call 300;(refine(Tryz.bldWriteString B b bs _ _ hiW (by omega) (zf2z hBw hbW.size)).mono ?_;rintro e w2 ⟨rfl,h2,hb2,hap2⟩))
 refine bodyPost_ret (results_none rfl _ _ _) rfl ?_;refine⟨rfl,?_,hbW.trans hb2,hapW.trans hap2⟩;rw[e2]at h2;exact h2
set_option maxHeartbeats 8000000 in
set_option maxRecDepth 100000 in
theorem Tryz.write_atom3 (B b:Nat) (bs:List Value) (tn:ByteArray) (sl:Value) (w:World) (h:Lib.IsBuilder 310 5 B b bs w) (C4:bs.length+tn.size+10<=140737488355328) (hBw:B<=w.heap.size) (hW:GN B w) :
  Calls Tryz.prog 253 #[.pointer (some ⟨b,0,none⟩),.agg #[.int .i64 2,.string tn,.int .i64 3,sl]] w λe w'=>e=.returned (.tuple #[])/\(Lib.BuilderAt 310 5 B b (.pointer (some ⟨b,0,none⟩)) (bs++Lib.byteCells (tn.data.toList++58::uI 3)) w'/\Below B w w'/\N9 5 b w w'):=by
 obtain⟨wb,wo,cap,hwb,hgb,hg,hwd⟩:=hW;have hbl:b<w.heap.size:=by rcases h with h|h<;>exact h.lt
 have hd0:=hwd 3 (by omega);obtain⟨u,hu⟩:∃u:ByteArray,u=⟨(HO.getD 3 []).toArray⟩:=⟨_,rfl⟩;have hul:u.size<=5:=by rw[hu];decide
 have huw:u.data.toList=uI 3:=by rw[hu];rfl
 rw[←hu]at hd0;clear hu hwd;have hau:(tn++⟨#[58]⟩++u:ByteArray).size<=tn.size+u.size+1:=by simp[zf0z];show tn.size+1+u.size<=tn.size+u.size+1;omega
 have hs1:(tn++⟨#[58]⟩:ByteArray).size=tn.size+1:=by rw[zf0z];rfl
 have e2:Lib.strCells (tn++⟨#[58]⟩++u)=Lib.byteCells (tn.data.toList++58::uI 3):=by
  rw[Lib.strCells_eq,←huw];congr 1;simp
 obtain⟨W,hWe⟩:∃W,W=w.alloc (.cells #[.int .i64 2,.string tn,.int .i64 3,sl] 41):=⟨_,rfl⟩;have hbW:Below B w W.drew:=by
  rw[hWe];have k:=(Below.refl B w).alloc hBw (.cells #[.int .i64 2,.string tn,.int .i64 3,sl] 41);exact⟨k.os,k.tape,k.output,k.size,k.block⟩
 have hiW:Lib.IsBuilder 310 5 B b bs W.drew:=by rw[hWe];exact AE h _
 have hapW:N9 5 b w W.drew:=by rw[hWe];exact N9.alloc w _
 have hg1:=(hbW.cell hgb).trans hg;have hd1:=(hbW.cell (p:=⟨wb,wo+3,none⟩) hwb).trans hd0;have hc:∀i,W.drew.cell? ⟨w.heap.size,i,none⟩=#[.int .i64 2,.string tn,.int .i64 3,sl][i]?:=λi=>by
  rw[hWe];exact Lib.cell_of_heap (w:=(w.alloc _).drew) (show (w.heap.push _)[w.heap.size]?=some (.cells _ 41 (0,0)) from zf1z) i
 have hc1:=hc 1;have hc2:=hc 2;clear hc
 go_enter Tryz.func253,Tryz.ntmps253
 go_wp2
 rw[←hWe];refine wp_region_still_tail 10 (by kernel_rfl) (by kernel_rfl) ?_;simp only[zf4z,zf7z,zf3z,zf6z];change wpStill _ _ W.drew (λa'=>wpList _ _ _ _ a' W.drew) _ _;generalize W.drew=W1 at *
 clear hWe
 repeat still_step
 refine wpStill_step (λK hK=>?_)
 go_simp
 rw[if_neg (by omega)];refine⟨rfl,hK _ ?_⟩;clear hK K
 repeat still_step
 refine wpStill_step (λK hK=>?_)
 go_simp
 rw[if_neg (by omega)];refine⟨rfl,hK _ ?_⟩;clear hK K;refine wpStill_nil ?_
 go_wp2_with (go_at_call 300;(refine(Tryz.bldWriteString B b bs _ _ hiW (by omega) (zf2z hBw hbW.size)).mono ?_;rintro e w2 ⟨rfl,h2,hb2,hap2⟩))
 refine bodyPost_ret (results_none rfl _ _ _) rfl ?_;refine⟨rfl,?_,hbW.trans hb2,hapW.trans hap2⟩;rw[e2]at h2;exact h2
set_option maxHeartbeats 8000000 in
set_option maxRecDepth 100000 in
theorem Tryz.write_atom4 (B b:Nat) (bs:List Value) (tn:ByteArray) (sl:Value) (w:World) (h:Lib.IsBuilder 310 5 B b bs w) (C4:bs.length+tn.size+10<=140737488355328) (hBw:B<=w.heap.size) (hW:GN B w) :
  Calls Tryz.prog 253 #[.pointer (some ⟨b,0,none⟩),.agg #[.int .i64 2,.string tn,.int .i64 4,sl]] w λe w'=>e=.returned (.tuple #[])/\(Lib.BuilderAt 310 5 B b (.pointer (some ⟨b,0,none⟩)) (bs++Lib.byteCells (tn.data.toList++58::uI 4)) w'/\Below B w w'/\N9 5 b w w'):=by
 obtain⟨wb,wo,cap,hwb,hgb,hg,hwd⟩:=hW;have hbl:b<w.heap.size:=by rcases h with h|h<;>exact h.lt
 have hd0:=hwd 4 (by omega);obtain⟨u,hu⟩:∃u:ByteArray,u=⟨(HO.getD 4 []).toArray⟩:=⟨_,rfl⟩;have hul:u.size<=5:=by rw[hu];decide
 have huw:u.data.toList=uI 4:=by rw[hu];rfl
 rw[←hu]at hd0;clear hu hwd;have hau:(tn++⟨#[58]⟩++u:ByteArray).size<=tn.size+u.size+1:=by simp[zf0z];show tn.size+1+u.size<=tn.size+u.size+1;omega
 have hs1:(tn++⟨#[58]⟩:ByteArray).size=tn.size+1:=by rw[zf0z];rfl
 have e2:Lib.strCells (tn++⟨#[58]⟩++u)=Lib.byteCells (tn.data.toList++58::uI 4):=by
  rw[Lib.strCells_eq,←huw];congr 1;simp
 obtain⟨W,hWe⟩:∃W,W=w.alloc (.cells #[.int .i64 2,.string tn,.int .i64 4,sl] 41):=⟨_,rfl⟩;have hbW:Below B w W.drew:=by
  rw[hWe];have k:=(Below.refl B w).alloc hBw (.cells #[.int .i64 2,.string tn,.int .i64 4,sl] 41);exact⟨k.os,k.tape,k.output,k.size,k.block⟩
 have hiW:Lib.IsBuilder 310 5 B b bs W.drew:=by rw[hWe];exact AE h _
 have hapW:N9 5 b w W.drew:=by rw[hWe];exact N9.alloc w _
 have hg1:=(hbW.cell hgb).trans hg;have hd1:=(hbW.cell (p:=⟨wb,wo+4,none⟩) hwb).trans hd0;have hc:∀i,W.drew.cell? ⟨w.heap.size,i,none⟩=#[.int .i64 2,.string tn,.int .i64 4,sl][i]?:=λi=>by
  rw[hWe];exact Lib.cell_of_heap (w:=(w.alloc _).drew) (show (w.heap.push _)[w.heap.size]?=some (.cells _ 41 (0,0)) from zf1z) i
 have hc1:=hc 1;have hc2:=hc 2;clear hc
 go_enter Tryz.func253,Tryz.ntmps253
 go_wp2
 rw[←hWe];refine wp_region_still_tail 10 (by kernel_rfl) (by kernel_rfl) ?_;simp only[zf4z,zf7z,zf3z,zf6z];change wpStill _ _ W.drew (λa'=>wpList _ _ _ _ a' W.drew) _ _;generalize W.drew=W1 at *
 clear hWe
 repeat still_step
 refine wpStill_step (λK hK=>?_)
 go_simp
 rw[if_neg (by omega)];refine⟨rfl,hK _ ?_⟩;clear hK K
 repeat still_step
 refine wpStill_step (λK hK=>?_)
 go_simp
 rw[if_neg (by omega)];refine⟨rfl,hK _ ?_⟩;clear hK K;refine wpStill_nil ?_
 go_wp2_with (go_at_call 300;(refine(Tryz.bldWriteString B b bs _ _ hiW (by omega) (zf2z hBw hbW.size)).mono ?_;rintro e w2 ⟨rfl,h2,hb2,hap2⟩))
 refine bodyPost_ret (results_none rfl _ _ _) rfl ?_;refine⟨rfl,?_,hbW.trans hb2,hapW.trans hap2⟩;rw[e2]at h2;exact h2
set_option maxHeartbeats 8000000 in
set_option maxRecDepth 100000 in
theorem Tryz.write_atom5 (B b:Nat) (bs:List Value) (tn:ByteArray) (sl:Value) (w:World) (h:Lib.IsBuilder 310 5 B b bs w) (C4:bs.length+tn.size+10<=140737488355328) (hBw:B<=w.heap.size) (hW:GN B w) :
  Calls Tryz.prog 253 #[.pointer (some ⟨b,0,none⟩),.agg #[.int .i64 2,.string tn,.int .i64 5,sl]] w λe w'=>e=.returned (.tuple #[])/\(Lib.BuilderAt 310 5 B b (.pointer (some ⟨b,0,none⟩)) (bs++Lib.byteCells (tn.data.toList++58::uI 5)) w'/\Below B w w'/\N9 5 b w w'):=by
 obtain⟨wb,wo,cap,hwb,hgb,hg,hwd⟩:=hW;have hbl:b<w.heap.size:=by rcases h with h|h<;>exact h.lt
 have hd0:=hwd 5 (by omega);obtain⟨u,hu⟩:∃u:ByteArray,u=⟨(HO.getD 5 []).toArray⟩:=⟨_,rfl⟩;have hul:u.size<=5:=by rw[hu];decide
 have huw:u.data.toList=uI 5:=by rw[hu];rfl
 rw[←hu]at hd0;clear hu hwd;have hau:(tn++⟨#[58]⟩++u:ByteArray).size<=tn.size+u.size+1:=by simp[zf0z];show tn.size+1+u.size<=tn.size+u.size+1;omega
 have hs1:(tn++⟨#[58]⟩:ByteArray).size=tn.size+1:=by rw[zf0z];rfl
 have e2:Lib.strCells (tn++⟨#[58]⟩++u)=Lib.byteCells (tn.data.toList++58::uI 5):=by
  rw[Lib.strCells_eq,←huw];congr 1;simp
 obtain⟨W,hWe⟩:∃W,W=w.alloc (.cells #[.int .i64 2,.string tn,.int .i64 5,sl] 41):=⟨_,rfl⟩;have hbW:Below B w W.drew:=by
  rw[hWe];have k:=(Below.refl B w).alloc hBw (.cells #[.int .i64 2,.string tn,.int .i64 5,sl] 41);exact⟨k.os,k.tape,k.output,k.size,k.block⟩
 have hiW:Lib.IsBuilder 310 5 B b bs W.drew:=by rw[hWe];exact AE h _
 have hapW:N9 5 b w W.drew:=by rw[hWe];exact N9.alloc w _
 have hg1:=(hbW.cell hgb).trans hg;have hd1:=(hbW.cell (p:=⟨wb,wo+5,none⟩) hwb).trans hd0;have hc:∀i,W.drew.cell? ⟨w.heap.size,i,none⟩=#[.int .i64 2,.string tn,.int .i64 5,sl][i]?:=λi=>by
  rw[hWe];exact Lib.cell_of_heap (w:=(w.alloc _).drew) (show (w.heap.push _)[w.heap.size]?=some (.cells _ 41 (0,0)) from zf1z) i
 have hc1:=hc 1;have hc2:=hc 2;clear hc
 go_enter Tryz.func253,Tryz.ntmps253
 go_wp2
 rw[←hWe];refine wp_region_still_tail 10 (by kernel_rfl) (by kernel_rfl) ?_;simp only[zf4z,zf7z,zf3z,zf6z];change wpStill _ _ W.drew (λa'=>wpList _ _ _ _ a' W.drew) _ _;generalize W.drew=W1 at *
 clear hWe
 repeat still_step
 refine wpStill_step (λK hK=>?_)
 go_simp
 rw[if_neg (by omega)];refine⟨rfl,hK _ ?_⟩;clear hK K
 repeat still_step
 refine wpStill_step (λK hK=>?_)
 go_simp
 rw[if_neg (by omega)];refine⟨rfl,hK _ ?_⟩;clear hK K;refine wpStill_nil ?_
 go_wp2_with (go_at_call 300;(refine(Tryz.bldWriteString B b bs _ _ hiW (by omega) (zf2z hBw hbW.size)).mono ?_;rintro e w2 ⟨rfl,h2,hb2,hap2⟩))
 refine bodyPost_ret (results_none rfl _ _ _) rfl ?_;refine⟨rfl,?_,hbW.trans hb2,hapW.trans hap2⟩;rw[e2]at h2;exact h2
end Go.Proofs
namespace Go.Proofs
open Go.RowKit Go.Abs
theorem Kv {w:World} {ok:Nat->Nat->Prop} {k s:Int} {n:ByteArray} {m:Bool×Bool} {l:List Tm} {v:Value} (h:PV w ok (H2 (.mk k n s m l)) v) :
  ∃a len cap,v=.agg #[.int .i64 k,.string n,.int .i64 s,.slice a len cap]/\len=l.length/\(l≠[]->∃b o,a=some ⟨b,o,none⟩/\JL w ok 4 b o (D0 l)):=by
 simp only[H2,PV,U3]at h;obtain⟨⟨us⟩,rfl,h1,v0,r0,e0,rfl,v1,r1,e1,rfl,v2,r2,e2,rfl,v3,r3,e3,hv3,e4⟩:=h;subst e4 e3 e2 e1;simp only at e0;subst e0;simp only[sl,PV]at hv3;obtain⟨a,len,cap,rfl,rfl,_,_,_,_,h6⟩:=hv3;refine⟨a,_,cap,rfl,by rw[uH,List.length_map],λS6=>?_⟩;have hne':D0 l≠[]:=by
  rw[uH];intro e;exact S6 (List.map_eq_nil_iff.1 e)
 obtain⟨b,o,rfl,hz,hp⟩:=h6 hne';have hie:(D0 l).isEmpty=false:=by
  cases hq:D0 l with
  |nil=>exact absurd hq hne'
  |cons _ _=>rfl
 rw[hie]at hp;exact⟨b,o,rfl,hp⟩
theorem PQ:∀(b:Bool) (l l':List Tm),EN b (l++l')=EN b l++EN (b&&l.isEmpty) l'
 |b,[],l'=>by simp[EN]
 |b,t::l,l'=>by
  simp only[List.cons_append,EN,PQ false l l',zf8z,Bool.false_and,List.isEmpty_cons,Bool.and_false]
theorem Zn (ts:List Tm) {i:Nat} (hi:i<ts.length):EN true (ts.take (i+1))=EN true (ts.take i)++((if i=0 then []else [44,32])++Sb ts[i]):=by
 rw[List.take_succ_eq_append_getElem hi,PQ];congr 1;simp only[EN,zg1z,Bool.true_and];congr 1;cases i with
 |zero=>simp
 |succ i =>
  have:(ts.take (i+1)).isEmpty=false:=by
   cases h:ts.take (i+1)with
   |nil =>
    have:=congrArg List.length h;rw[List.length_take,zg2z]at this;omega
   |cons _ _=>rfl
  simp[this]
theorem gW (ts:List Tm) (i:Nat):(EN true (ts.take i)).length<=(EN true ts).length:=by
 have h:=congrArg (λx=>(EN true x).length) (List.take_append_drop i ts);simp only[PQ,zf5z]at h;omega
set_option maxHeartbeats 8000000 in
set_option maxRecDepth 100000 in
theorem Tryz.write_app (B b:Nat) (l:List UInt8) (k s:Int) (tn:ByteArray) (ts:List Tm) (sa:Option Addr) (cap:Nat) (w:World) (h:Lib.IsBuilder 310 5 B b (Lib.byteCells l) w) (hk1:k≠1) (hk2:k≠2) (C4:l.length+(tn.data.toList++40::(EN true ts++[41])).length+100<=140737488355328) (hBw:B<=w.heap.size) (hW:GN B w) (hN:ts.length<=140737488355328)
  (hE:∀j t,ts[j]?=some t->∃kb ko us,sa=some ⟨kb,ko,none⟩/\kb<B/\us.size=4/\(∀c,c<4->w.cell? ⟨kb,ko+j*4+c,none⟩=us[c]?)/\PV w (λx _=>x<B) (H2 t) (.agg us))
  (IH:∀t∈ts,∀l w vt,Lib.IsBuilder 310 5 B b (Lib.byteCells l) w->PV w (λx _=>x<B) (H2 t) vt->l.length+(Sb t).length+100<=140737488355328->B<=w.heap.size->GN B w ->
   Calls Tryz.prog 253 #[.pointer (some ⟨b,0,none⟩),vt] w λe w'=>e=.returned (.tuple #[])/\(Lib.BuilderAt 310 5 B b (.pointer (some ⟨b,0,none⟩)) (Lib.byteCells (l++Sb t)) w'/\Below B w w'/\N9 5 b w w')) :
  Calls Tryz.prog 253 #[.pointer (some ⟨b,0,none⟩),.agg #[.int .i64 k,.string tn,.int .i64 s,.slice sa ts.length cap]] w λe w'=>e=.returned (.tuple #[])/\(Lib.BuilderAt 310 5 B b (.pointer (some ⟨b,0,none⟩)) (Lib.byteCells (l++(tn.data.toList++40::(EN true ts++[41])))) w'/\Below B w w'/\N9 5 b w w'):=by
 have hbl:b<w.heap.size:=by rcases h with h|h<;>exact h.lt
 have hk1':(k == 1)=false:=by simpa using hk1
 have hk2':(k == 2)=false:=by simpa using hk2
 simp only[zf5z,zf9z,zg2z]at C4;have hll:(Lib.byteCells l).length=l.length:=by simp[Lib.byteCells]
 have hts:tn.data.toList.length=tn.size:=by simp
 have ha:(tn++⟨#[40]⟩:ByteArray).size=tn.size+1:=by rw[zf0z];rfl
 have e1:Lib.strCells (tn++⟨#[40]⟩)=Lib.byteCells (tn.data.toList++[40]):=by
  rw[Lib.strCells_eq];congr 1
 go_enter Tryz.func253,Tryz.ntmps253
 go_wp2_with (go_at_call 300;(refine(Tryz.bldWriteString B b _ _ _ (AE h _) (by omega) (by simp;omega)).mono ?_;rintro e w1 ⟨rfl,h1,hb1,hap⟩;have hc3:=CT hap (by rcases h with h|h<;>exact h.lt) (by decide) 3))
 rw[e1,←Aq]at h1;have hbw1:Below B w w1:=((Below.refl B w).alloc hBw _).trans hb1;have hap1:N9 5 b w w1:=(N9.alloc w _).trans hap;clear h hc3 hap hb1 e1 ha
 go_loopw [47] (λvi wr=>∃(i:Nat),vi=.int .i64 i/\i<=ts.length/\Lib.BuilderAt 310 5 B b (.pointer (some ⟨b,0,none⟩)) (Lib.byteCells (l++(tn.data.toList++[40])++EN true (ts.take i))) wr/\Below B w wr/\N9 5 b w wr)
  (λvi _=>ts.length-(intOf vi).toNat)
 case atStart=>exact⟨0,rfl,by omega,by simpa[EN]using h1,hbw1,hap1⟩
 case round =>
  obtain⟨i,rfl,hi,hbd,hbel,hapt⟩:=hrel;clear h1 hbw1 hap1;by_cases A9:i<ts.length
  .obtain⟨kb,ko,us,rfl,hkb,Kz,s5,hpv⟩:=hE i ts[i] (List.getElem?_eq_getElem A9);obtain⟨us⟩:=us;obtain⟨u0,u1,u2,u3,rfl⟩:∃u0 u1 u2 u3,us=[u0,u1,u2,u3]:=by
    match us,Kz with
    | [a,b,c,d],_=>exact⟨a,b,c,d,rfl⟩
   have c0:wr.cell? ⟨kb,ko+i*4,none⟩=some u0:=(hbel.cell hkb).trans (s5 0 (by omega));have c1:wr.cell? ⟨kb,ko+i*4+1,none⟩=some u1:=(hbel.cell (p:=⟨kb,ko+i*4+1,none⟩) hkb).trans (s5 1 (by omega));have c2:wr.cell? ⟨kb,ko+i*4+2,none⟩=some u2:=(hbel.cell (p:=⟨kb,ko+i*4+2,none⟩) hkb).trans (s5 2 (by omega));have c3:wr.cell? ⟨kb,ko+i*4+3,none⟩=some u3:=(hbel.cell (p:=⟨kb,ko+i*4+3,none⟩) hkb).trans (s5 3 (by omega));have hpv':=hpv;have hti:=IH ts[i] (List.getElem_mem A9);have htx:EN true (ts.take (i+1))=EN true (ts.take i)++((if i=0 then []else [44,32])++Sb ts[i]):=Zn ts A9
   have Fc:(EN true (ts.take (i+1))).length<=(EN true ts).length:=gW ts (i+1);rw[htx]at Fc;simp only[zf5z]at Fc;generalize ts[i]=t at *
   obtain⟨tk,tnm,tso,tm,tl⟩:=t;obtain⟨sva,svn,svc,he,-,-⟩:=Kv hpv';have he':[u0,u1,u2,u3]=[.int .i64 tk,.string tnm,.int .i64 tso,.slice sva svn svc]:=by
    have:=congrArg (λv=>match v with | .agg us=>us.toList|_=>[]) he
    exact this
   simp only[List.cons.injEq,and_true]at he';obtain⟨rfl,rfl,rfl,rfl⟩:=he';clear hpv' he;have hBr:B<=wr.heap.size:=zf2z hBw hbel.size;have hbr:b<wr.heap.size:=Nat.lt_of_lt_of_le hbl hbel.size;have hi2:=AE (.inr hbd) (.cells #[.int .i64 tk,.string tnm,.int .i64 tso,.slice sva svn svc] 41);have hb2:=hbel.alloc hBr (.cells #[.int .i64 tk,.string tnm,.int .i64 tso,.slice sva svn svc] 41);have ha2:=hapt.trans (N9.alloc wr (.cells #[.int .i64 tk,.string tnm,.int .i64 tso,.slice sva svn svc] 41));have hBa:B<=(wr.alloc (.cells #[.int .i64 tk,.string tnm,.int .i64 tso,.slice sva svn svc] 41)).heap.size:=zf2z hBw hb2.size;have hLl:(l++(tn.data.toList++[40])++EN true (ts.take i)).length=l.length+tn.size+1+(EN true (ts.take i)).length:=by simp[hts];omega
   have hpvB:∀w',Below B w w'->PV w' (λx _=>x<B) (H2 (.mk tk tnm tso tm tl)) (.agg #[.int .i64 tk,.string tnm,.int .i64 tso,.slice sva svn svc]):=λw' hb=>Z2 (λx o hx=>⟨hx,hb.cell hx,λes clk he=>by rw[hb.block x hx];exact he⟩) _ _ hpv;clear s5 hpv hE;by_cases h0:i=0
   .subst h0;simp only[Nat.zero_mul,Nat.add_zero]at c0 c1 c2 c3
    go_wp2_with (go_at_call 253;refine(hti _ _ _ hi2 (hpvB _ hb2) (by rw[hLl];omega) hBa (hW.below hb2)).mono ?_;rintro e w3 ⟨rfl,h3,hb3,hap3⟩)
    go_roundw
    case rel=>exact⟨1,by go_num,by omega,by rw[htx,←zf8z];simpa using h3,hb2.trans hb3,ha2.trans hap3⟩
    case measure=>simp[intOf];omega
   .rw[if_neg h0]at Fc;have Fc:(EN true (ts.take i)).length+(2+(Sb (.mk tk tnm tso tm tl)).length)<=(EN true ts).length:=Fc;have F9:(i:Int) > 0:=by omega
    go_wp2_with (first
     |(go_at_call 300;refine(Tryz.bldWriteString B b _ _ _ hi2 (by rw[Lib.byteCells_length,hLl];show _+2<=_;omega) hBa).mono ?_;rintro e w2 ⟨rfl,h2,hbB,hapB⟩;have d0:=CT hapB hbr (by decide) 0;have d1:=CT hapB hbr (by decide) 1;have d2:=CT hapB hbr (by decide) 2;have d3:=CT hapB hbr (by decide) 3;rw[Lib.strCells_eq,←Aq]at h2)
     |(go_at_call 253;refine(hti _ _ _ (.inr h2) (hpvB _ (hb2.trans hbB)) (by rw[zf5z,hLl];show _+2+_+_<=_;omega) (zf2z hBa hbB.size) (hW.below (hb2.trans hbB))).mono ?_;rintro e w3 ⟨rfl,h3,hb3,hap3⟩))
    go_roundw
    case rel=>exact⟨i+1,by go_num,by omega,by rw[htx,←zf8z,if_neg h0,←zf8z];simpa using h3,(hb2.trans hbB).trans hb3,(ha2.trans hapB).trans hap3⟩
    case measure=>simp[intOf];omega
  .have PT:i=ts.length:=by omega
   subst PT;rw[List.take_of_length_le (Nat.le_refl _)]at hbd;have hLl:(l++(tn.data.toList++[40])++EN true ts).length=l.length+tn.size+1+(EN true ts).length:=by simp[hts];omega
   go_wp2_with (go_at_call 301;refine(Tryz.bldWriteByte B b _ _ _ (.inr hbd) (by rw[Lib.byteCells_length,hLl];omega) (zf2z hBw hbel.size)).mono ?_;rintro e w2 ⟨rfl,h2,hbB,hapB⟩)
   go_end0
   refine⟨rfl,?_,hbel.trans hbB,hapt.trans hapB⟩;have e3:Lib.byteCells (l++(tn.data.toList++[40])++EN true ts)++[Value.int .u8 41]=Lib.byteCells (l++(tn.data.toList++40::(EN true ts++[41]))):=by
    rw[show ([Value.int .u8 41]:List Value)=Lib.byteCells [41] from rfl,←Aq];congr 1;simp
   rw[e3]at h2;exact h2
theorem Uu {t:Tm}:∀{ts:List Tm},t∈ts->Ut ts=true->Us t=true
 |u::ts,h,hw=>by
  simp only[Ut,Bool.and_eq_true]at hw;rcases zg0z.1 h with rfl|h
  .exact hw.1
  .exact Uu h hw.2
theorem Ql {t:Tm}:∀{ts:List Tm},t∈ts->t.size<=Tm.sizes ts
 |u::ts,h=>by
  simp only[Tm.sizes];rcases zg0z.1 h with rfl|h
  .omega
  .have:=Ql h;omega
theorem Qk:∀ts:List Tm,ts.length<=Tm.sizes ts
 | []=>Nat.zero_le _
 |t::ts=>by
  have:=Qk ts;have h0:0<t.size:=t.size_pos;simp only[Tm.sizes,zf9z];omega
theorem YT {w:World} {ok:Nat->Nat->Prop} {b o:Nat} {ts:List Tm} (hp:JL w ok 4 b o (D0 ts)) {j:Nat} {t:Tm} (hj:ts[j]?=some t) :
  ∃us:Array Value,us.size=4/\ok b (o+j*4)/\(∀c,c<4->w.cell? ⟨b,o+j*4+c,none⟩=us[c]?)/\PV w ok (H2 t) (.agg us):=by
 have hj':(D0 ts)[j]?=some (H2 t):=by rw[uH,List.getElem?_map,hj];rfl
 obtain⟨p1,p2⟩:=Gq hp hj';obtain⟨k,n,s,m,l⟩:=t;simp only[H2,AV.cells]at p2;obtain⟨u0,a0,b0,c0,d0⟩:=n7 p2 (j:=0) rfl;obtain⟨u1,a1,b1,c1,d1⟩:=n7 p2 (j:=1) rfl;obtain⟨u2,a2,b2,c2,d2⟩:=n7 p2 (j:=2) rfl;obtain⟨u3,a3,b3,c3,d3⟩:=n7 p2 (j:=3) rfl;refine⟨#[u0,u1,u2,u3],rfl,a0,λc hc=>?_,?_⟩
 .match c,hc with
  |0,_=>exact b0
  |1,_=>exact b1
  |2,_=>exact b2
  |3,_=>exact b3
 .simp only[H2,PV,U3];refine⟨_,rfl,λu hu=>?_,u0,_,rfl,by simpa[PV]using d0,u1,_,rfl,by simpa[PV]using d1,u2,_,rfl,by simpa[PV]using d2,u3,_,rfl,d3,rfl⟩;simp only[zg0z,List.not_mem_nil,or_false]at hu;rcases hu with rfl|rfl|rfl|rfl<;>assumption
theorem gV (n:ByteArray) (s:Int) (m:Bool×Bool) (l:List Tm):Sb (.mk 1 n s m l)=63::n.data.toList++(if s=0 then []else 58::uI s):=by simp[Sb]
theorem di (n:ByteArray) (s:Int) (m:Bool×Bool) (l:List Tm):Sb (.mk 2 n s m l)=n.data.toList++58::uI s:=by simp[Sb]
theorem gU {k:Int} (h1:k≠1) (h2:k≠2) (n:ByteArray) (s:Int) (m:Bool×Bool) (l:List Tm):Sb (.mk k n s m l)=n.data.toList++40::(EN true l++[41]):=by simp[Sb,h1,h2]
theorem Tryz.write_ok (B b:Nat):∀(N:Nat) (t:Tm),t.size<=N->t.size<=1048576->Us t=true->∀(l:List UInt8) (w:World) (vt:Value),Lib.IsBuilder 310 5 B b (Lib.byteCells l) w->PV w (λx _=>x<B) (H2 t) vt->l.length+(Sb t).length+100<=140737488355328->B<=w.heap.size->GN B w ->
  Calls Tryz.prog 253 #[.pointer (some ⟨b,0,none⟩),vt] w λe w'=>e=.returned (.tuple #[])/\(Lib.BuilderAt 310 5 B b (.pointer (some ⟨b,0,none⟩)) (Lib.byteCells (l++Sb t)) w'/\Below B w w'/\N9 5 b w w'):=by
 intro N
 induction N with
 |zero =>
  intro t ht;have:=t.size_pos;omega
 |succ N ih =>
  intro t ht K3 AI l w vt hb hpv C4 hBw hW;obtain⟨k,n,s,m,ts⟩:=t;obtain⟨a,len,cap,rfl,rfl,Je⟩:=Kv hpv;simp only[Tm.size]at ht K3;have hts:n.data.toList.length=n.size:=by simp
  have hbl:(Lib.byteCells l).length=l.length:=Lib.byteCells_length l;by_cases h1:k=1
  .subst h1;have hs:0<=s/\s<=5:=by simpa[Us]using AI
   rw[gV]at C4 ⊢;simp only[zf5z,zf9z]at C4;by_cases h0:s=0
   .subst h0;refine(Tryz.write_var_any B b _ n _ w hb (by omega) hBw).mono ?_;rintro e w' ⟨he,h2,h3,h4⟩;refine⟨he,?_,h3,h4⟩;rw[if_pos rfl,zg1z,Aq];rw[show Lib.strCells (⟨#[63]⟩++n)=Lib.byteCells (63::n.data.toList) from by rw[Lib.strCells_eq];congr 1]at h2;exact h2
   .refine(Tryz.write_var B b _ n s _ w hb (by omega) (by omega) hBw hW).mono ?_;rintro e w' ⟨he,h2,h3,h4⟩;refine⟨he,?_,h3,h4⟩;rw[if_neg h0,Aq];exact h2
  .by_cases h2:k=2
   .subst h2;have hs:0<=s/\s<=5:=by simpa[Us]using AI
    rw[di]at C4 ⊢;simp only[zf5z,zf9z]at C4;have hc:s=0\/s=1\/s=2\/s=3\/s=4\/s=5:=by omega
    rw[Aq];rcases hc with rfl|rfl|rfl|rfl|rfl|rfl
    .exact Tryz.write_atom0 B b _ n _ w hb (by omega) hBw hW
    .exact Tryz.write_atom1 B b _ n _ w hb (by omega) hBw hW
    .exact Tryz.write_atom2 B b _ n _ w hb (by omega) hBw hW
    .exact Tryz.write_atom3 B b _ n _ w hb (by omega) hBw hW
    .exact Tryz.write_atom4 B b _ n _ w hb (by omega) hBw hW
    .exact Tryz.write_atom5 B b _ n _ w hb (by omega) hBw hW
   .rw[gU h1 h2]at C4 ⊢;have hoks:Ut ts=true:=by simpa[Us,h1,h2]using AI
    refine Tryz.write_app B b l k s n ts a cap w hb h1 h2 C4 hBw hW (by have:=Qk ts;omega) (λj t hj=>?_) λt ht' l' w' vt' g1 g2 g3 g4 g5=>?_
    .have S6:ts≠[]:=λe=>by rw[e]at hj;simp at hj
     obtain⟨kb,ko,rfl,hp⟩:=Je S6;obtain⟨us,q1,q2,q3,q4⟩:=YT hp hj;exact⟨kb,ko,us,rfl,q2,q1,q3,q4⟩
    .have:=Ql ht';exact ih t (by omega) (by omega) (Uu ht' hoks) l' w' vt' g1 g2 g3 g4 g5
end Go.Proofs
