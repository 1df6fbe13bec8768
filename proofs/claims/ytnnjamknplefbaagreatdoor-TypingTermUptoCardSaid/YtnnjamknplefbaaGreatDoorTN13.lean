/- A part of the proof. -/
import Derived.Test.YtnnjamknplefbaaGreatDoorTN12
import Derived.StillTailTactics
set_option linter.all false
open ByteArray renaming size_append->zf0z
open Array renaming getElem?_push_size->zf1z
open List renaming drop_succ_cons->zf2z,take_succ_cons->zf3z,drop_zero->zf4z,take_zero->zf5z
open Nat renaming le_trans->zf6z
set_option linter.all false
namespace Go.Proofs
open Go.RowKit Go.Abs
set_option maxHeartbeats 8000000 in
set_option maxRecDepth 100000 in
theorem Tryz.write_atom0(B b:Nat)(bs:List Value)(tn:ByteArray)(sl:Value)(w:World)(h:Lib.IsBuilder 196 5 B b bs w)(D6:bs.length+tn.size+10<=140737488355328)(hBw:B<=w.heap.size)(hW:MT B w) :
  Calls Tryz.prog 126 #[.pointer (some ⟨b,0,none⟩),.agg #[.int .i64 2,.string tn,.int .i64 0,sl]] w λe w'=>e=.returned (.tuple #[])/\(Lib.BuilderAt 196 5 B b (.pointer (some ⟨b,0,none⟩)) (bs++Lib.byteCells (tn.data.toList++58::o9 0)) w'/\Below B w w'/\Apart 5 b w w'):=by
 obtain⟨wb,wo,cap,hwb,hgb,hg,hwd⟩:=hW;have hbl:b<w.heap.size:=by rcases h with h|h<;>exact h.lt
 have hd0:=hwd 0 (by omega);obtain⟨u,hu⟩:∃u:ByteArray,u=⟨(Lq.getD 0 []).toArray⟩:=⟨_,rfl⟩;have hul:u.size<=5:=by rw[hu];decide
 have huw:u.data.toList=o9 0:=by rw[hu];rfl
 rw[←hu]at hd0;clear hu hwd;have hau:(tn++⟨#[58]⟩++u:ByteArray).size<=tn.size+u.size+1:=by simp[zf0z];show tn.size+1+u.size<=tn.size+u.size+1;omega
 have hs1:(tn++⟨#[58]⟩:ByteArray).size=tn.size+1:=by rw[zf0z];rfl
 have e2:Lib.strCells (tn++⟨#[58]⟩++u)=Lib.byteCells (tn.data.toList++58::o9 0):=by
  rw[Lib.strCells_eq,←huw];congr 1;simp
 obtain⟨W,hWe⟩:∃W,W=w.alloc (.cells #[.int .i64 2,.string tn,.int .i64 0,sl] 28):=⟨_,rfl⟩;have hbW:Below B w W.drew:=by
  rw[hWe];have k:=(Below.refl B w).alloc hBw (.cells #[.int .i64 2,.string tn,.int .i64 0,sl] 28);exact⟨k.os,k.tape,k.output,k.size,k.block⟩
 have hiW:Lib.IsBuilder 196 5 B b bs W.drew:=by rw[hWe];exact Dn h _
 have hapW:Apart 5 b w W.drew:=by rw[hWe];exact(Apart.alloc w _).drew
 have hg1:=(hbW.cell hgb).trans hg;have hd1:=(hbW.cell (p:=⟨wb,wo,none⟩) hwb).trans hd0;have hc:∀i,W.drew.cell? ⟨w.heap.size,i,none⟩=#[.int .i64 2,.string tn,.int .i64 0,sl][i]?:=λi=>by
  rw[hWe];exact Lib.cell_of_heap (w:=(w.alloc _).drew) (show (w.heap.push _)[w.heap.size]?=some (.cells _ 28 (0,0)) from zf1z) i
 have hc1:=hc 1;have hc2:=hc 2;clear hc
 go_enter Tryz.func126,Tryz.ntmps126
 go_wp2
 rw[←hWe];refine wp_region_still_tail 10 (by kernel_rfl) (by kernel_rfl) ?_;simp only[zf3z,zf5z,zf2z,zf4z];change wpStill _ _ W.drew (λa'=>wpList _ _ _ _ a' W.drew) _ _;generalize W.drew=W1 at *
 clear hWe
 repeat still_step
 refine wpStill_step (λK hK=>?_)
 go_simp
 rw[if_neg (by omega)];refine⟨rfl,hK _ ?_⟩;clear hK K
 repeat still_step
 refine wpStill_step (λK hK=>?_)
 go_simp
 rw[if_neg (by omega)];refine⟨rfl,hK _ ?_⟩;clear hK K;refine wpStill_nil ?_
 go_wp2_with (go_at_call 216;(refine(Tryz.bldWriteString B b bs _ _ hiW (by omega) (zf6z hBw hbW.size)).mono ?_;rintro e w2 ⟨rfl,h2,hb2,hap2⟩))
 refine bodyPost_ret (results_none rfl _ _ _) rfl ?_;refine⟨rfl,?_,hbW.trans hb2,hapW.trans hap2⟩;rw[e2]at h2;exact h2
set_option maxHeartbeats 8000000 in
set_option maxRecDepth 100000 in
theorem Tryz.write_atom1(B b:Nat)(bs:List Value)(tn:ByteArray)(sl:Value)(w:World)(h:Lib.IsBuilder 196 5 B b bs w)(D6:bs.length+tn.size+10<=140737488355328)(hBw:B<=w.heap.size)(hW:MT B w) :
  Calls Tryz.prog 126 #[.pointer (some ⟨b,0,none⟩),.agg #[.int .i64 2,.string tn,.int .i64 1,sl]] w λe w'=>e=.returned (.tuple #[])/\(Lib.BuilderAt 196 5 B b (.pointer (some ⟨b,0,none⟩)) (bs++Lib.byteCells (tn.data.toList++58::o9 1)) w'/\Below B w w'/\Apart 5 b w w'):=by
 obtain⟨wb,wo,cap,hwb,hgb,hg,hwd⟩:=hW;have hbl:b<w.heap.size:=by rcases h with h|h<;>exact h.lt
 have hd0:=hwd 1 (by omega);obtain⟨u,hu⟩:∃u:ByteArray,u=⟨(Lq.getD 1 []).toArray⟩:=⟨_,rfl⟩;have hul:u.size<=5:=by rw[hu];decide
 have huw:u.data.toList=o9 1:=by rw[hu];rfl
 rw[←hu]at hd0;clear hu hwd;have hau:(tn++⟨#[58]⟩++u:ByteArray).size<=tn.size+u.size+1:=by simp[zf0z];show tn.size+1+u.size<=tn.size+u.size+1;omega
 have hs1:(tn++⟨#[58]⟩:ByteArray).size=tn.size+1:=by rw[zf0z];rfl
 have e2:Lib.strCells (tn++⟨#[58]⟩++u)=Lib.byteCells (tn.data.toList++58::o9 1):=by
  rw[Lib.strCells_eq,←huw];congr 1;simp
 obtain⟨W,hWe⟩:∃W,W=w.alloc (.cells #[.int .i64 2,.string tn,.int .i64 1,sl] 28):=⟨_,rfl⟩;have hbW:Below B w W.drew:=by
  rw[hWe];have k:=(Below.refl B w).alloc hBw (.cells #[.int .i64 2,.string tn,.int .i64 1,sl] 28);exact⟨k.os,k.tape,k.output,k.size,k.block⟩
 have hiW:Lib.IsBuilder 196 5 B b bs W.drew:=by rw[hWe];exact Dn h _
 have hapW:Apart 5 b w W.drew:=by rw[hWe];exact(Apart.alloc w _).drew
 have hg1:=(hbW.cell hgb).trans hg;have hd1:=(hbW.cell (p:=⟨wb,wo+1,none⟩) hwb).trans hd0;have hc:∀i,W.drew.cell? ⟨w.heap.size,i,none⟩=#[.int .i64 2,.string tn,.int .i64 1,sl][i]?:=λi=>by
  rw[hWe];exact Lib.cell_of_heap (w:=(w.alloc _).drew) (show (w.heap.push _)[w.heap.size]?=some (.cells _ 28 (0,0)) from zf1z) i
 have hc1:=hc 1;have hc2:=hc 2;clear hc
 go_enter Tryz.func126,Tryz.ntmps126
 go_wp2
 rw[←hWe];refine wp_region_still_tail 10 (by kernel_rfl) (by kernel_rfl) ?_;simp only[zf3z,zf5z,zf2z,zf4z];change wpStill _ _ W.drew (λa'=>wpList _ _ _ _ a' W.drew) _ _;generalize W.drew=W1 at *
 clear hWe
 repeat still_step
 refine wpStill_step (λK hK=>?_)
 go_simp
 rw[if_neg (by omega)];refine⟨rfl,hK _ ?_⟩;clear hK K
 repeat still_step
 refine wpStill_step (λK hK=>?_)
 go_simp
 rw[if_neg (by omega)];refine⟨rfl,hK _ ?_⟩;clear hK K;refine wpStill_nil ?_
 go_wp2_with (go_at_call 216;(refine(Tryz.bldWriteString B b bs _ _ hiW (by omega) (zf6z hBw hbW.size)).mono ?_;rintro e w2 ⟨rfl,h2,hb2,hap2⟩))
 refine bodyPost_ret (results_none rfl _ _ _) rfl ?_;refine⟨rfl,?_,hbW.trans hb2,hapW.trans hap2⟩;rw[e2]at h2;exact h2
set_option maxHeartbeats 8000000 in
set_option maxRecDepth 100000 in
theorem Tryz.write_atom2(B b:Nat)(bs:List Value)(tn:ByteArray)(sl:Value)(w:World)(h:Lib.IsBuilder 196 5 B b bs w)(D6:bs.length+tn.size+10<=140737488355328)(hBw:B<=w.heap.size)(hW:MT B w) :
  Calls Tryz.prog 126 #[.pointer (some ⟨b,0,none⟩),.agg #[.int .i64 2,.string tn,.int .i64 2,sl]] w λe w'=>e=.returned (.tuple #[])/\(Lib.BuilderAt 196 5 B b (.pointer (some ⟨b,0,none⟩)) (bs++Lib.byteCells (tn.data.toList++58::o9 2)) w'/\Below B w w'/\Apart 5 b w w'):=by
 obtain⟨wb,wo,cap,hwb,hgb,hg,hwd⟩:=hW;have hbl:b<w.heap.size:=by rcases h with h|h<;>exact h.lt
 have hd0:=hwd 2 (by omega);obtain⟨u,hu⟩:∃u:ByteArray,u=⟨(Lq.getD 2 []).toArray⟩:=⟨_,rfl⟩;have hul:u.size<=5:=by rw[hu];decide
 have huw:u.data.toList=o9 2:=by rw[hu];rfl
 rw[←hu]at hd0;clear hu hwd;have hau:(tn++⟨#[58]⟩++u:ByteArray).size<=tn.size+u.size+1:=by simp[zf0z];show tn.size+1+u.size<=tn.size+u.size+1;omega
 have hs1:(tn++⟨#[58]⟩:ByteArray).size=tn.size+1:=by rw[zf0z];rfl
 have e2:Lib.strCells (tn++⟨#[58]⟩++u)=Lib.byteCells (tn.data.toList++58::o9 2):=by
  rw[Lib.strCells_eq,←huw];congr 1;simp
 obtain⟨W,hWe⟩:∃W,W=w.alloc (.cells #[.int .i64 2,.string tn,.int .i64 2,sl] 28):=⟨_,rfl⟩;have hbW:Below B w W.drew:=by
  rw[hWe];have k:=(Below.refl B w).alloc hBw (.cells #[.int .i64 2,.string tn,.int .i64 2,sl] 28);exact⟨k.os,k.tape,k.output,k.size,k.block⟩
 have hiW:Lib.IsBuilder 196 5 B b bs W.drew:=by rw[hWe];exact Dn h _
 have hapW:Apart 5 b w W.drew:=by rw[hWe];exact(Apart.alloc w _).drew
 have hg1:=(hbW.cell hgb).trans hg;have hd1:=(hbW.cell (p:=⟨wb,wo+2,none⟩) hwb).trans hd0;have hc:∀i,W.drew.cell? ⟨w.heap.size,i,none⟩=#[.int .i64 2,.string tn,.int .i64 2,sl][i]?:=λi=>by
  rw[hWe];exact Lib.cell_of_heap (w:=(w.alloc _).drew) (show (w.heap.push _)[w.heap.size]?=some (.cells _ 28 (0,0)) from zf1z) i
 have hc1:=hc 1;have hc2:=hc 2;clear hc
 go_enter Tryz.func126,Tryz.ntmps126
 go_wp2
 rw[←hWe];refine wp_region_still_tail 10 (by kernel_rfl) (by kernel_rfl) ?_;simp only[zf3z,zf5z,zf2z,zf4z];change wpStill _ _ W.drew (λa'=>wpList _ _ _ _ a' W.drew) _ _;generalize W.drew=W1 at *
 clear hWe
 repeat still_step
 refine wpStill_step (λK hK=>?_)
 go_simp
 rw[if_neg (by omega)];refine⟨rfl,hK _ ?_⟩;clear hK K
 repeat still_step
 refine wpStill_step (λK hK=>?_)
 go_simp
 rw[if_neg (by omega)];refine⟨rfl,hK _ ?_⟩;clear hK K;refine wpStill_nil ?_
 go_wp2_with (go_at_call 216;(refine(Tryz.bldWriteString B b bs _ _ hiW (by omega) (zf6z hBw hbW.size)).mono ?_;rintro e w2 ⟨rfl,h2,hb2,hap2⟩))
 refine bodyPost_ret (results_none rfl _ _ _) rfl ?_;refine⟨rfl,?_,hbW.trans hb2,hapW.trans hap2⟩;rw[e2]at h2;exact h2
set_option maxHeartbeats 8000000 in
set_option maxRecDepth 100000 in
theorem Tryz.write_atom3(B b:Nat)(bs:List Value)(tn:ByteArray)(sl:Value)(w:World)(h:Lib.IsBuilder 196 5 B b bs w)(D6:bs.length+tn.size+10<=140737488355328)(hBw:B<=w.heap.size)(hW:MT B w) :
  Calls Tryz.prog 126 #[.pointer (some ⟨b,0,none⟩),.agg #[.int .i64 2,.string tn,.int .i64 3,sl]] w λe w'=>e=.returned (.tuple #[])/\(Lib.BuilderAt 196 5 B b (.pointer (some ⟨b,0,none⟩)) (bs++Lib.byteCells (tn.data.toList++58::o9 3)) w'/\Below B w w'/\Apart 5 b w w'):=by
 obtain⟨wb,wo,cap,hwb,hgb,hg,hwd⟩:=hW;have hbl:b<w.heap.size:=by rcases h with h|h<;>exact h.lt
 have hd0:=hwd 3 (by omega);obtain⟨u,hu⟩:∃u:ByteArray,u=⟨(Lq.getD 3 []).toArray⟩:=⟨_,rfl⟩;have hul:u.size<=5:=by rw[hu];decide
 have huw:u.data.toList=o9 3:=by rw[hu];rfl
 rw[←hu]at hd0;clear hu hwd;have hau:(tn++⟨#[58]⟩++u:ByteArray).size<=tn.size+u.size+1:=by simp[zf0z];show tn.size+1+u.size<=tn.size+u.size+1;omega
 have hs1:(tn++⟨#[58]⟩:ByteArray).size=tn.size+1:=by rw[zf0z];rfl
 have e2:Lib.strCells (tn++⟨#[58]⟩++u)=Lib.byteCells (tn.data.toList++58::o9 3):=by
  rw[Lib.strCells_eq,←huw];congr 1;simp
 obtain⟨W,hWe⟩:∃W,W=w.alloc (.cells #[.int .i64 2,.string tn,.int .i64 3,sl] 28):=⟨_,rfl⟩;have hbW:Below B w W.drew:=by
  rw[hWe];have k:=(Below.refl B w).alloc hBw (.cells #[.int .i64 2,.string tn,.int .i64 3,sl] 28);exact⟨k.os,k.tape,k.output,k.size,k.block⟩
 have hiW:Lib.IsBuilder 196 5 B b bs W.drew:=by rw[hWe];exact Dn h _
 have hapW:Apart 5 b w W.drew:=by rw[hWe];exact(Apart.alloc w _).drew
 have hg1:=(hbW.cell hgb).trans hg;have hd1:=(hbW.cell (p:=⟨wb,wo+3,none⟩) hwb).trans hd0;have hc:∀i,W.drew.cell? ⟨w.heap.size,i,none⟩=#[.int .i64 2,.string tn,.int .i64 3,sl][i]?:=λi=>by
  rw[hWe];exact Lib.cell_of_heap (w:=(w.alloc _).drew) (show (w.heap.push _)[w.heap.size]?=some (.cells _ 28 (0,0)) from zf1z) i
 have hc1:=hc 1;have hc2:=hc 2;clear hc
 go_enter Tryz.func126,Tryz.ntmps126
 go_wp2
 rw[←hWe];refine wp_region_still_tail 10 (by kernel_rfl) (by kernel_rfl) ?_;simp only[zf3z,zf5z,zf2z,zf4z];change wpStill _ _ W.drew (λa'=>wpList _ _ _ _ a' W.drew) _ _;generalize W.drew=W1 at *
 clear hWe
 repeat still_step
 refine wpStill_step (λK hK=>?_)
 go_simp
 rw[if_neg (by omega)];refine⟨rfl,hK _ ?_⟩;clear hK K
 repeat still_step
 refine wpStill_step (λK hK=>?_)
 go_simp
 rw[if_neg (by omega)];refine⟨rfl,hK _ ?_⟩;clear hK K;refine wpStill_nil ?_
 go_wp2_with (go_at_call 216;(refine(Tryz.bldWriteString B b bs _ _ hiW (by omega) (zf6z hBw hbW.size)).mono ?_;rintro e w2 ⟨rfl,h2,hb2,hap2⟩))
 refine bodyPost_ret (results_none rfl _ _ _) rfl ?_;refine⟨rfl,?_,hbW.trans hb2,hapW.trans hap2⟩;rw[e2]at h2;exact h2
set_option maxHeartbeats 8000000 in
set_option maxRecDepth 100000 in
theorem Tryz.write_atom4(B b:Nat)(bs:List Value)(tn:ByteArray)(sl:Value)(w:World)(h:Lib.IsBuilder 196 5 B b bs w)(D6:bs.length+tn.size+10<=140737488355328)(hBw:B<=w.heap.size)(hW:MT B w) :
  Calls Tryz.prog 126 #[.pointer (some ⟨b,0,none⟩),.agg #[.int .i64 2,.string tn,.int .i64 4,sl]] w λe w'=>e=.returned (.tuple #[])/\(Lib.BuilderAt 196 5 B b (.pointer (some ⟨b,0,none⟩)) (bs++Lib.byteCells (tn.data.toList++58::o9 4)) w'/\Below B w w'/\Apart 5 b w w'):=by
 obtain⟨wb,wo,cap,hwb,hgb,hg,hwd⟩:=hW;have hbl:b<w.heap.size:=by rcases h with h|h<;>exact h.lt
 have hd0:=hwd 4 (by omega);obtain⟨u,hu⟩:∃u:ByteArray,u=⟨(Lq.getD 4 []).toArray⟩:=⟨_,rfl⟩;have hul:u.size<=5:=by rw[hu];decide
 have huw:u.data.toList=o9 4:=by rw[hu];rfl
 rw[←hu]at hd0;clear hu hwd;have hau:(tn++⟨#[58]⟩++u:ByteArray).size<=tn.size+u.size+1:=by simp[zf0z];show tn.size+1+u.size<=tn.size+u.size+1;omega
 have hs1:(tn++⟨#[58]⟩:ByteArray).size=tn.size+1:=by rw[zf0z];rfl
 have e2:Lib.strCells (tn++⟨#[58]⟩++u)=Lib.byteCells (tn.data.toList++58::o9 4):=by
  rw[Lib.strCells_eq,←huw];congr 1;simp
 obtain⟨W,hWe⟩:∃W,W=w.alloc (.cells #[.int .i64 2,.string tn,.int .i64 4,sl] 28):=⟨_,rfl⟩;have hbW:Below B w W.drew:=by
  rw[hWe];have k:=(Below.refl B w).alloc hBw (.cells #[.int .i64 2,.string tn,.int .i64 4,sl] 28);exact⟨k.os,k.tape,k.output,k.size,k.block⟩
 have hiW:Lib.IsBuilder 196 5 B b bs W.drew:=by rw[hWe];exact Dn h _
 have hapW:Apart 5 b w W.drew:=by rw[hWe];exact(Apart.alloc w _).drew
 have hg1:=(hbW.cell hgb).trans hg;have hd1:=(hbW.cell (p:=⟨wb,wo+4,none⟩) hwb).trans hd0;have hc:∀i,W.drew.cell? ⟨w.heap.size,i,none⟩=#[.int .i64 2,.string tn,.int .i64 4,sl][i]?:=λi=>by
  rw[hWe];exact Lib.cell_of_heap (w:=(w.alloc _).drew) (show (w.heap.push _)[w.heap.size]?=some (.cells _ 28 (0,0)) from zf1z) i
 have hc1:=hc 1;have hc2:=hc 2;clear hc
 go_enter Tryz.func126,Tryz.ntmps126
 go_wp2
 rw[←hWe];refine wp_region_still_tail 10 (by kernel_rfl) (by kernel_rfl) ?_;simp only[zf3z,zf5z,zf2z,zf4z];change wpStill _ _ W.drew (λa'=>wpList _ _ _ _ a' W.drew) _ _;generalize W.drew=W1 at *
 clear hWe
 repeat still_step
 refine wpStill_step (λK hK=>?_)
 go_simp
 rw[if_neg (by omega)];refine⟨rfl,hK _ ?_⟩;clear hK K
 repeat still_step
 refine wpStill_step (λK hK=>?_)
 go_simp
 rw[if_neg (by omega)];refine⟨rfl,hK _ ?_⟩;clear hK K;refine wpStill_nil ?_
 go_wp2_with (go_at_call 216;(refine(Tryz.bldWriteString B b bs _ _ hiW (by omega) (zf6z hBw hbW.size)).mono ?_;rintro e w2 ⟨rfl,h2,hb2,hap2⟩))
 refine bodyPost_ret (results_none rfl _ _ _) rfl ?_;refine⟨rfl,?_,hbW.trans hb2,hapW.trans hap2⟩;rw[e2]at h2;exact h2
set_option maxHeartbeats 8000000 in
set_option maxRecDepth 100000 in
theorem Tryz.write_atom5(B b:Nat)(bs:List Value)(tn:ByteArray)(sl:Value)(w:World)(h:Lib.IsBuilder 196 5 B b bs w)(D6:bs.length+tn.size+10<=140737488355328)(hBw:B<=w.heap.size)(hW:MT B w) :
  Calls Tryz.prog 126 #[.pointer (some ⟨b,0,none⟩),.agg #[.int .i64 2,.string tn,.int .i64 5,sl]] w λe w'=>e=.returned (.tuple #[])/\(Lib.BuilderAt 196 5 B b (.pointer (some ⟨b,0,none⟩)) (bs++Lib.byteCells (tn.data.toList++58::o9 5)) w'/\Below B w w'/\Apart 5 b w w'):=by
 obtain⟨wb,wo,cap,hwb,hgb,hg,hwd⟩:=hW;have hbl:b<w.heap.size:=by rcases h with h|h<;>exact h.lt
 have hd0:=hwd 5 (by omega);obtain⟨u,hu⟩:∃u:ByteArray,u=⟨(Lq.getD 5 []).toArray⟩:=⟨_,rfl⟩;have hul:u.size<=5:=by rw[hu];decide
 have huw:u.data.toList=o9 5:=by rw[hu];rfl
 rw[←hu]at hd0;clear hu hwd;have hau:(tn++⟨#[58]⟩++u:ByteArray).size<=tn.size+u.size+1:=by simp[zf0z];show tn.size+1+u.size<=tn.size+u.size+1;omega
 have hs1:(tn++⟨#[58]⟩:ByteArray).size=tn.size+1:=by rw[zf0z];rfl
 have e2:Lib.strCells (tn++⟨#[58]⟩++u)=Lib.byteCells (tn.data.toList++58::o9 5):=by
  rw[Lib.strCells_eq,←huw];congr 1;simp
 obtain⟨W,hWe⟩:∃W,W=w.alloc (.cells #[.int .i64 2,.string tn,.int .i64 5,sl] 28):=⟨_,rfl⟩;have hbW:Below B w W.drew:=by
  rw[hWe];have k:=(Below.refl B w).alloc hBw (.cells #[.int .i64 2,.string tn,.int .i64 5,sl] 28);exact⟨k.os,k.tape,k.output,k.size,k.block⟩
 have hiW:Lib.IsBuilder 196 5 B b bs W.drew:=by rw[hWe];exact Dn h _
 have hapW:Apart 5 b w W.drew:=by rw[hWe];exact(Apart.alloc w _).drew
 have hg1:=(hbW.cell hgb).trans hg;have hd1:=(hbW.cell (p:=⟨wb,wo+5,none⟩) hwb).trans hd0;have hc:∀i,W.drew.cell? ⟨w.heap.size,i,none⟩=#[.int .i64 2,.string tn,.int .i64 5,sl][i]?:=λi=>by
  rw[hWe];exact Lib.cell_of_heap (w:=(w.alloc _).drew) (show (w.heap.push _)[w.heap.size]?=some (.cells _ 28 (0,0)) from zf1z) i
 have hc1:=hc 1;have hc2:=hc 2;clear hc
 go_enter Tryz.func126,Tryz.ntmps126
 go_wp2
 rw[←hWe];refine wp_region_still_tail 10 (by kernel_rfl) (by kernel_rfl) ?_;simp only[zf3z,zf5z,zf2z,zf4z];change wpStill _ _ W.drew (λa'=>wpList _ _ _ _ a' W.drew) _ _;generalize W.drew=W1 at *
 clear hWe
 repeat still_step
 refine wpStill_step (λK hK=>?_)
 go_simp
 rw[if_neg (by omega)];refine⟨rfl,hK _ ?_⟩;clear hK K
 repeat still_step
 refine wpStill_step (λK hK=>?_)
 go_simp
 rw[if_neg (by omega)];refine⟨rfl,hK _ ?_⟩;clear hK K;refine wpStill_nil ?_
 go_wp2_with (go_at_call 216;(refine(Tryz.bldWriteString B b bs _ _ hiW (by omega) (zf6z hBw hbW.size)).mono ?_;rintro e w2 ⟨rfl,h2,hb2,hap2⟩))
 refine bodyPost_ret (results_none rfl _ _ _) rfl ?_;refine⟨rfl,?_,hbW.trans hb2,hapW.trans hap2⟩;rw[e2]at h2;exact h2
end Go.Proofs
namespace Go.Abs
def laxN(m:Nat)(C9:List RO):List RO:=match m with|0=>C9|1=>C9.map (RO.lax (none,false))|2=>XL false C9|_=>XL true C9
def mF(P:Program):Code->List RCode->List Nat->Option (RCode×List RCode×List Nat)
 | .skip,l,d=>some (.skip,l,d)
 | .region _ ops false,l,d=>match IW (QP P ops.toList) ops.toList with|some C9=>some (.region false C9,l,d)|none=>some (.bad,l,d)
 | .region _ ops true,l,d=>match IW (QP P ops.toList) ops.toList,d with|some C9,m::d=>some (.region true (laxN m C9),l,d)|_,_=>none
 | .seq a b,l,d=>match mF P a l d with|some (a,l,d)=>(match mF P b l d with|some (b,l,d)=>some (.seq a b,l,d)|none=>none)|none=>none
 | .cond q a b,l,d=>match C7 q,mF P a l d with|some q,some (a,l,d)=>(match mF P b l d with|some (b,l,d)=>some (.cond q a b,l,d)|none=>none)|_,_=>none
 | .block id a,l,d=>match mF P a l d with|some (a,l,d)=>some (.block id a,l,d)|none=>none
 | .loop _,n::l,d=>some (.loop n,l,d)
 | .exit id,l,d=>some (.exit id,l,d)
 | .ret,l,d=>some (.ret,l,d)
 |_,l,d=>some (.bad,l,d)
def qm:Code->List Code
 | .seq a b=>qm a++qm b
 | .cond _ a b=>qm a++qm b
 | .block _ a=>qm a
 | .loop a=>[a]
 |_=>[]
def resFn(P:Program)(fn:Func)(l:List RCode)(d:List Nat):Option RFunc :=
 match fn.body with
 |some b=>(match mF P b l d,IW (XW P) fn.results.toList with|some (c,_),some rs=>some ⟨fn.ntmps,rs,c⟩|_,_=>none)
 |none=>none
def yk(fn:Func):Code:=match fn.body with|some b=>b|none=>.skip
def oo:List Nat->Code->Code
 | [],c=>c
 |k::ks,c=>match (qm c)[k]? with|some c=>oo ks c|none=>.skip
def resLp(P:Program)(fn:Func)(path:List Nat)(l:List RCode)(d:List Nat):Option RCode:=match mF P (oo path (yk fn)) l d with|some (c,_)=>some c|none=>none
end Go.Abs
