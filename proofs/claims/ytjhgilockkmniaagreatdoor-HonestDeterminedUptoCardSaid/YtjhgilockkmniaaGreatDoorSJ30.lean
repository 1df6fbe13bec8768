/- A part of the proof. -/
import Derived.Test.YtjhgilockkmniaaGreatDoorSJ16
import Derived.Shelf.Strings.Builder1
import Derived.Test.YtjhgilockkmniaaGreatDoorProg
import Derived.KernelRfl
import Derived.WalkKit
import Derived.Deep.RegionWith
import Derived.Deep.QuietTactic
import Derived.BigQuiet
import Derived.StillTailTactics
set_option linter.all false
open ByteArray renaming size_append->zf0z
open Array renaming getElem?_push_size->zf1z,getElem?_eq_none->zf9z
open List renaming drop_succ_cons->zf2z,take_succ_cons->zf3z,length_append->zf4z,append_assoc->zf5z,drop_zero->zf6z,take_zero->zf7z
open Nat renaming le_trans->zf8z,lt_or_ge->zg0z
set_option linter.unusedVariables false
namespace Go.Proofs
open Go.Shelf Go.RowKit
variable {P:Program} {ρ:Ren}
def P0 (T:TypeId) (b:Nat) (w w':World):Prop:=∀k,k<w.heap.size->k≠b->(∀cs fr,w.heap[k]?≠some (.cells cs T fr))->w'.heap[k]?=w.heap[k]?
theorem ID (w:World) (a:Addr) (v:Value) {k:Nat} (h:a.block≠k):(w.setCell a v).heap[k]?=w.heap[k]?:=by
 unfold World.setCell;split<;>simp_all [Array.getElem?_modify]
theorem iT (L:Lays.n240 P ρ) (X:Builder.X72 P ρ) (B b:Nat) (bs:List Value) (w:World) (h:Lib.IsBuilder (ρ.t 72) (ρ.t 5) B b bs w) :
  Calls P (ρ.f 240) #[.pointer (some ⟨b,0,none⟩)] w λe w'=>e=.returned (.tuple #[])/\(Lib.BuilderAt (ρ.t 72) (ρ.t 5) B b (.pointer (some ⟨b,0,none⟩)) bs w'/\Below B w w'/\P0 (ρ.t 5) b w w'):=by
 rcases h with h|h
 .refine(Any.Builder_copyCheck_fresh L X b w h.cell0 h.shape h.frozen0).mono ?_;rintro e w' ⟨rfl,rfl⟩;exact⟨rfl,h.used _,(Below.refl B w).setCell (p:=⟨b,0,none⟩) h.1 _,λk _ hk _=>ID _ _ _ (Ne.symm hk)⟩
 .refine(Any.Builder_copyCheck_used L X b w h.cell0).mono ?_;rintro e w' ⟨rfl,rfl⟩;exact⟨rfl,h,Below.refl B _,λ_ _ _ _=>rfl⟩
set_option maxHeartbeats 2000000 in
set_option maxRecDepth 100000 in
theorem mc (L:Lays.n166 P ρ) (X:Builder.Extra P ρ) (B b:Nat) (bs:List Value) (s:ByteArray) (w:World) (h:Lib.IsBuilder (ρ.t 72) (ρ.t 5) B b bs w) (C4:bs.length+s.size<=140737488355328) (hBw:B<=w.heap.size) :
  Calls P (ρ.f 166) #[.pointer (some ⟨b,0,none⟩),.string s] w λe w'=>e=.returned (.tuple #[.int .i64 s.size,.nilIface])/\(Lib.BuilderAt (ρ.t 72) (ρ.t 5) B b (.pointer (some ⟨b,0,none⟩)) (bs++Lib.strCells s) w'/\Below B w w'/\P0 (ρ.t 5) b w w'):=by
 obtain⟨i0,hi,hz0,hz1,hz2⟩:=info_parts X.infoByte;have mixed:=L.mixed;have t72:=L.t72;have a72:=L.a72;have z72:=L.z72;have v72:=L.v72;have u72:=run_underlying L.t72;have t70:=L.t70;have a70:=L.a70;have z70:=L.z70;have v70:=L.v70;have u70:=run_underlying L.t70;have t37:=L.t37;have a37:=L.a37;have z37:=L.z37;have v37:=L.v37;have u37:=run_underlying L.t37;have t3:=L.t3;have a3:=L.a3;have z3:=L.z3;have v3:=L.v3;have u3:=run_underlying L.t3;have t9:=L.t9;have a9:=L.a9;have z9:=L.z9;have v9:=L.v9;have u9:=run_underlying L.t9;have t4:=L.t4;have a4:=L.a4;have z4:=L.z4;have v4:=L.v4;have u4:=run_underlying L.t4;have t164:=L.t164;have a164:=L.a164;have z164:=L.z164;have v164:=L.v164;have u164:=run_underlying L.t164;have t5:=X.t5;have a5:=X.a5;have z5:=X.z5;have v5:=X.v5;have u5:=run_underlying X.t5;have e240:∀args w,(callFunc (ρ.f 240) args).run P w=.ok (.enter (ρ.f 240) args) w:=enters_of L.f240 (by kernel_rfl) rfl
 go_enter L.f166,Body.n166_ntmps ρ
 go_wp2_with (go_at_fn (ρ.f 240);refine(iT {L with} X.toX72 B b bs _ h).mono ?_)
 rintro e w1 ⟨rfl,h1,hb1,hap⟩;obtain⟨hB,v,hbk,hown,T6⟩:=h1;have c0:w1.cell? ⟨b,0,none⟩=some (.pointer (some ⟨b,0,none⟩)):=by rw[Lib.cell_of_heap hbk];rfl
 have c1:w1.cell? ⟨b,1,none⟩=some v:=by rw[Lib.cell_of_heap hbk];rfl
 go_wp2_with (at_builtin;refine Lib.wpList_append_own_string _ rfl _ _ (ρ.t 37) (ρ.t 9) rfl B (ρ.t 5) i0 L.t37 L.t9 hi hz0 hz1 hz2 _ _ _ rfl hown s rfl ?c3 ?c4 ?c5 ?_)
 case c3=>unfold maxLen;omega
 case c4=>omega
 case c5=>have:=hb1.size;omega
 intro v' w2 hown' hgrow _;have A9:b<w1.heap.size:=by
  rcases zg0z b w1.heap.size with h' | h'
  .exact h'
  .simp[zf9z h']at hbk
 have hb2:w2.heap[b]?=some (.cells #[.pointer (some ⟨b,0,none⟩),v] (ρ.t 72) (0,0)):=by
  rw[hgrow.block b A9 (λe=>T6 e.symm)];exact hbk
 have d0:w2.cell? ⟨b,0,none⟩=some (.pointer (some ⟨b,0,none⟩)):=by rw[Lib.cell_of_heap hb2];rfl
 have d1:w2.cell? ⟨b,1,none⟩=some v:=by rw[Lib.cell_of_heap hb2];rfl
 have f1:w2.frozen? ⟨b,1,none⟩=false:=Lib.frozen_of_heap hb2 1;obtain⟨ao,n',cap,rfl⟩:∃ao n' cap,v'=.slice ao n' cap:=by
  rcases hown'.2 with ⟨hv,_⟩|⟨g,cap,cur,hv,_⟩
  .exact⟨_,_,_,hv⟩
  .exact⟨_,_,_,hv⟩
 go_wp2
 go_ret2
 refine⟨rfl,?_,?_,?_⟩
 .exact Lib.BuilderAt.put (T:=(ρ.t 72)) (e:=(ρ.t 5)) hB hb2 (bs':=bs++Lib.strCells s) (by simpa[Lib.strCells_length]using hown') X.neB5
 .exact(hb1.grown hgrow (by have:=hb1.size;omega) (λk hk=>(hown.lt k hk).1)).setCell (p:=⟨b,1,none⟩) hB _
 .intro k hk hkb hT;have e1:=hap k hk hkb hT;have hk1:k<w1.heap.size:=by have:=hb1.size;omega
  have hne':∀g,v.ownBlock=some g->k≠g:=by
   rintro g hg rfl;rcases hown.2 with ⟨hv,_⟩|⟨g',cap',cur,hv,_,hgc,_⟩
   .rw[hv]at hg;cases hg
   .rw[hv]at hg;cases hg;exact hT _ _ (e1.symm.trans hgc)
  have e2:w2.heap[k]?=w1.heap[k]?:=hgrow.block k hk1 (λe=>hne' _ e.symm rfl);have e3:(w2.setCell ⟨b,1,none⟩ (.slice ao n' cap)).heap[k]?=w2.heap[k]?:=ID _ _ _ (Ne.symm hkb);exact e3.trans (e2.trans e1)
set_option maxHeartbeats 2000000 in
set_option maxRecDepth 100000 in
theorem mZ (L:Lays.n167 P ρ) (X:Builder.Extra P ρ) (B b:Nat) (bs:List Value) (c:Int) (w:World) (h:Lib.IsBuilder (ρ.t 72) (ρ.t 5) B b bs w) (C4:bs.length+1<=140737488355328) (hBw:B<=w.heap.size) :
  Calls P (ρ.f 167) #[.pointer (some ⟨b,0,none⟩),.int .u8 c] w λe w'=>e=.returned .nilIface/\(Lib.BuilderAt (ρ.t 72) (ρ.t 5) B b (.pointer (some ⟨b,0,none⟩)) (bs++[.int .u8 c]) w'/\Below B w w'/\P0 (ρ.t 5) b w w'):=by
 obtain⟨i0,hi,hz0,hz1,hz2⟩:=info_parts X.infoByte;have mixed:=L.mixed;have t72:=L.t72;have a72:=L.a72;have z72:=L.z72;have v72:=L.v72;have u72:=run_underlying L.t72;have t70:=L.t70;have a70:=L.a70;have z70:=L.z70;have v70:=L.v70;have u70:=run_underlying L.t70;have t5:=L.t5;have a5:=L.a5;have z5:=L.z5;have v5:=L.v5;have u5:=run_underlying L.t5;have t37:=L.t37;have a37:=L.a37;have z37:=L.z37;have v37:=L.v37;have u37:=run_underlying L.t37;have t9:=L.t9;have a9:=L.a9;have z9:=L.z9;have v9:=L.v9;have u9:=run_underlying L.t9;have t4:=L.t4;have a4:=L.a4;have z4:=L.z4;have v4:=L.v4;have u4:=run_underlying L.t4;have t164:=L.t164;have a164:=L.a164;have z164:=L.z164;have v164:=L.v164;have u164:=run_underlying L.t164;have e240:∀args w,(callFunc (ρ.f 240) args).run P w=.ok (.enter (ρ.f 240) args) w:=enters_of L.f240 (by kernel_rfl) rfl
 go_enter L.f167,Body.n167_ntmps ρ
 go_wp2_with (go_at_fn (ρ.f 240);refine(iT {L with} X.toX72 B b bs _ h).mono ?_)
 rintro e w1 ⟨rfl,h1,hb1,hap⟩;obtain⟨hB,v,hbk,hown,T6⟩:=h1;have c0:w1.cell? ⟨b,0,none⟩=some (.pointer (some ⟨b,0,none⟩)):=by rw[Lib.cell_of_heap hbk];rfl
 have c1:w1.cell? ⟨b,1,none⟩=some v:=by rw[Lib.cell_of_heap hbk];rfl
 go_wp2_with (at_builtin;refine wpList_append_own _ rfl _ _ (ρ.t 37) rfl B (ρ.t 5) i0 (.int .u8 0) 1 1 L.t37 hi hz0 hz1 hz2 rfl (by decide) _ _ _ rfl (hown.alloc _) ⟨w1.heap.size,0,none⟩ 1 1 [.int .u8 c] rfl rfl ?c1 ?c2 ?c3 ?c4 ?c5 ?_)
 case c1 =>
  intro j u hj
  match j,hj with
  |0,hj=>simp at hj;subst hj;simp[Addr.add]
 case c2=>intro u hu;simp at hu;subst hu;rfl
 case c3=>unfold maxLen;omega
 case c4=>omega
 case c5=>have:=hb1.size;simp;omega
 intro v' w2 hown' hgrow _;have A9:b<w1.heap.size:=by
  rcases zg0z b w1.heap.size with h' | h'
  .exact h'
  .simp[zf9z h']at hbk
 have hb2:w2.heap[b]?=some (.cells #[.pointer (some ⟨b,0,none⟩),v] (ρ.t 72) (0,0)):=by
  rw[hgrow.block b (by simp;omega) (λe=>T6 e.symm),Lib.alloc_old w1 _ b A9];exact hbk
 have d0:w2.cell? ⟨b,0,none⟩=some (.pointer (some ⟨b,0,none⟩)):=by rw[Lib.cell_of_heap hb2];rfl
 have d1:w2.cell? ⟨b,1,none⟩=some v:=by rw[Lib.cell_of_heap hb2];rfl
 have f1:w2.frozen? ⟨b,1,none⟩=false:=Lib.frozen_of_heap hb2 1;obtain⟨g,cap,rfl⟩:∃g cap,v'=.slice (some ⟨g,0,none⟩) (bs.length+1) cap:=by
  rcases hown'.2 with ⟨_,h0⟩|⟨g,cap,cur,hv,_⟩
  .omega
  .exact⟨g,cap,hv⟩
 go_wp2
 go_ret
 refine⟨rfl,?_,?_,?_⟩
 .exact Lib.BuilderAt.put (T:=(ρ.t 72)) (e:=(ρ.t 5)) hB hb2 (bs':=bs++[.int .u8 c]) (by simpa using hown') X.neB5
 .exact((hb1.alloc (by have:=hb1.size;omega) _).grown hgrow (by have:=hb1.size;simp;omega) (λk hk=>(hown.lt k hk).1)).setCell (p:=⟨b,1,none⟩) hB _
 .intro k hk hkb hT;have e1:=hap k hk hkb hT;have hk1:k<w1.heap.size:=by have:=hb1.size;omega
  have hne':∀g,v.ownBlock=some g->k≠g:=by
   rintro g hg rfl;rcases hown.2 with ⟨hv,_⟩|⟨g',cap',cur,hv,_,hgc,_⟩
   .rw[hv]at hg;cases hg
   .rw[hv]at hg;cases hg;exact hT _ _ (e1.symm.trans hgc)
  have e2:w2.heap[k]?=w1.heap[k]?:=(hgrow.block k (by simp;omega) (λe=>hne' _ e.symm rfl)).trans (Lib.alloc_old w1 _ k hk1);have e3:(w2.setCell ⟨b,1,none⟩ (.slice (some ⟨g,0,none⟩) (bs.length+1) cap)).heap[k]?=w2.heap[k]?:=ID _ _ _ (Ne.symm hkb);exact e3.trans (e2.trans e1)
end Go.Proofs
namespace Go.Proofs
open Go.Shelf Go.RowKit
def Tryz.bld_ren:Go.Shelf.Ren:=⟨fun|240=>347|276=>377|166=>300|167=>301|169=>254|n=>n,fun|0=>0|3=>3|4=>4|5=>5|9=>9|20=>20|37=>194|70=>308|72=>310|75=>348|80=>312|164=>399|127=>352|n=>n,fun|n=>n⟩
theorem Tryz.bldLays166:Go.Proofs.Lays.n166 Tryz.prog Tryz.bld_ren:={
 mixed:=by kernel_rfl
 f166:=Tryz.func300.trans (congrArg some (by kernel_rfl))
 f240:=Tryz.func347.trans (congrArg some (by kernel_rfl))
 f276:=Tryz.func377.trans (congrArg some (by kernel_rfl))
 t0:=Tryz.underlying0
 a0:=Tryz.isAgg0
 z0:=Tryz.sizeOf0
 v0:=Tryz.zeroValue0
 t3:=Tryz.underlying3
 a3:=Tryz.isAgg3
 z3:=Tryz.sizeOf3
 v3:=Tryz.zeroValue3
 t4:=Tryz.underlying4
 a4:=Tryz.isAgg4
 z4:=Tryz.sizeOf4
 v4:=Tryz.zeroValue4
 t9:=Tryz.underlying9
 a9:=Tryz.isAgg9
 z9:=Tryz.sizeOf9
 v9:=Tryz.zeroValue9
 t20:=Tryz.underlying20
 a20:=Tryz.isAgg20
 z20:=Tryz.sizeOf20
 v20:=Tryz.zeroValue20
 t37:=Tryz.underlying194
 a37:=Tryz.isAgg194
 z37:=Tryz.sizeOf194
 v37:=Tryz.zeroValue194
 t70:=Tryz.underlying308
 a70:=Tryz.isAgg308
 z70:=Tryz.sizeOf308
 v70:=Tryz.zeroValue308
 t72:=Tryz.underlying310
 a72:=Tryz.isAgg310
 z72:=Tryz.sizeOf310
 v72:=Tryz.zeroValue310
 t75:=Tryz.underlying348
 a75:=Tryz.isAgg348
 z75:=Tryz.sizeOf348
 v75:=Tryz.zeroValue348
 t164:=Tryz.underlying399
 a164:=Tryz.isAgg399
 z164:=Tryz.sizeOf399
 v164:=Tryz.zeroValue399}
theorem Tryz.bldLays167:Go.Proofs.Lays.n167 Tryz.prog Tryz.bld_ren:={
 mixed:=by kernel_rfl
 f167:=Tryz.func301.trans (congrArg some (by kernel_rfl))
 f240:=Tryz.func347.trans (congrArg some (by kernel_rfl))
 f276:=Tryz.func377.trans (congrArg some (by kernel_rfl))
 t0:=Tryz.underlying0
 a0:=Tryz.isAgg0
 z0:=Tryz.sizeOf0
 v0:=Tryz.zeroValue0
 t4:=Tryz.underlying4
 a4:=Tryz.isAgg4
 z4:=Tryz.sizeOf4
 v4:=Tryz.zeroValue4
 t5:=Tryz.underlying5
 a5:=Tryz.isAgg5
 z5:=Tryz.sizeOf5
 v5:=Tryz.zeroValue5
 t9:=Tryz.underlying9
 a9:=Tryz.isAgg9
 z9:=Tryz.sizeOf9
 v9:=Tryz.zeroValue9
 t20:=Tryz.underlying20
 a20:=Tryz.isAgg20
 z20:=Tryz.sizeOf20
 v20:=Tryz.zeroValue20
 t37:=Tryz.underlying194
 a37:=Tryz.isAgg194
 z37:=Tryz.sizeOf194
 v37:=Tryz.zeroValue194
 t70:=Tryz.underlying308
 a70:=Tryz.isAgg308
 z70:=Tryz.sizeOf308
 v70:=Tryz.zeroValue308
 t72:=Tryz.underlying310
 a72:=Tryz.isAgg310
 z72:=Tryz.sizeOf310
 v72:=Tryz.zeroValue310
 t75:=Tryz.underlying348
 a75:=Tryz.isAgg348
 z75:=Tryz.sizeOf348
 v75:=Tryz.zeroValue348
 t164:=Tryz.underlying399
 a164:=Tryz.isAgg399
 z164:=Tryz.sizeOf399
 v164:=Tryz.zeroValue399}
theorem Tryz.bldLays169:Go.Proofs.Lays.n169 Tryz.prog Tryz.bld_ren:={
 mixed:=by kernel_rfl
 f169:=Tryz.func254.trans (congrArg some (by kernel_rfl))
 t0:=Tryz.underlying0
 a0:=Tryz.isAgg0
 z0:=Tryz.sizeOf0
 v0:=Tryz.zeroValue0
 t3:=Tryz.underlying3
 a3:=Tryz.isAgg3
 z3:=Tryz.sizeOf3
 v3:=Tryz.zeroValue3
 t9:=Tryz.underlying9
 a9:=Tryz.isAgg9
 z9:=Tryz.sizeOf9
 v9:=Tryz.zeroValue9
 t37:=Tryz.underlying194
 a37:=Tryz.isAgg194
 z37:=Tryz.sizeOf194
 v37:=Tryz.zeroValue194
 t70:=Tryz.underlying308
 a70:=Tryz.isAgg308
 z70:=Tryz.sizeOf308
 v70:=Tryz.zeroValue308
 t72:=Tryz.underlying310
 a72:=Tryz.isAgg310
 z72:=Tryz.sizeOf310
 v72:=Tryz.zeroValue310
 t127:=Tryz.underlying352
 a127:=Tryz.isAgg352
 z127:=Tryz.sizeOf352
 v127:=Tryz.zeroValue352}
theorem Tryz.bldExtra:Builder.Extra Tryz.prog Tryz.bld_ren:={
 sizeBuilder:=by kernel_rfl
 liesBuilder:=by kernel_rfl
 t5:=Tryz.underlying5
 a5:=Tryz.isAgg5
 z5:=Tryz.sizeOf5
 v5:=Tryz.zeroValue5
 infoByte:=by kernel_rfl
 cellsByte:=by kernel_rfl
 sizeByte:=by kernel_rfl
 neB5:=by decide}
theorem Tryz.bldWriteString (B b:Nat) (bs:List Value) (s:ByteArray) (w:World) (h:Lib.IsBuilder 310 5 B b bs w) (C4:bs.length+s.size<=140737488355328) (hBw:B<=w.heap.size) :
  Calls Tryz.prog 300 #[.pointer (some ⟨b,0,none⟩),.string s] w λe w'=>e=.returned (.tuple #[.int .i64 s.size,.nilIface])/\(Lib.BuilderAt 310 5 B b (.pointer (some ⟨b,0,none⟩)) (bs++Lib.strCells s) w'/\Below B w w'/\P0 5 b w w'):=mc Tryz.bldLays166 Tryz.bldExtra B b bs s w h C4 hBw
theorem Tryz.bldWriteByte (B b:Nat) (bs:List Value) (c:Int) (w:World) (h:Lib.IsBuilder 310 5 B b bs w) (C4:bs.length+1<=140737488355328) (hBw:B<=w.heap.size) :
  Calls Tryz.prog 301 #[.pointer (some ⟨b,0,none⟩),.int .u8 c] w λe w'=>e=.returned .nilIface/\(Lib.BuilderAt 310 5 B b (.pointer (some ⟨b,0,none⟩)) (bs++[.int .u8 c]) w'/\Below B w w'/\P0 5 b w w'):=mZ Tryz.bldLays167 Tryz.bldExtra B b bs c w h C4 hBw
theorem Tryz.bldString (B b:Nat) (l:List UInt8) (w:World) (h:Lib.IsBuilder 310 5 B b (Lib.byteCells l) w) (hBw:B<=w.heap.size) :
  Calls Tryz.prog 254 #[.pointer (some ⟨b,0,none⟩)] w λe w'=>e=.returned (.string ⟨l.toArray⟩)/\Below B w w':=Any.Builder_String_any Tryz.bldLays169 Tryz.bldExtra B b l w h hBw
end Go.Proofs
namespace Go.Proofs
open Go.RowKit
theorem AQ {T e:TypeId} {B b:Nat} {bs:List Value} {w:World} (h:Lib.IsBuilder T e B b bs w) (o:Obj):Lib.IsBuilder T e B b bs (w.alloc o):=by
 rcases h with h|h
 .have hl:=h.lt;obtain⟨h1,v,h2,h3,h4⟩:=h;exact .inl ⟨h1,v,by rw[Lib.alloc_old w o b hl];exact h2,h3.alloc _,h4⟩
 .have hl:=h.lt;obtain⟨h1,v,h2,h3,h4⟩:=h;exact .inr ⟨h1,v,by rw[Lib.alloc_old w o b hl];exact h2,h3.alloc _,h4⟩
theorem Ce {T e:TypeId} {b:Nat} {w w1:World} {cs:Array Value} (hap:P0 e b (w.alloc (.cells cs T)) w1) (hb:b<w.heap.size) (hT:T≠e) (i:Nat):w1.cell? ⟨w.heap.size,i,none⟩=cs[i]?:=by
 have h2:(w.alloc (.cells cs T)).heap[w.heap.size]?=some (.cells cs T (0,0)):=by
  show (w.heap.push (.cells cs T (0,0)))[w.heap.size]?=_;exact zf1z
 have h:=hap w.heap.size (by simp) (by omega) (by intro cs' fr h;rw[h2]at h;cases h;exact hT rfl);exact Lib.cell_of_heap (h.trans h2) i
set_option maxHeartbeats 2000000 in
set_option maxRecDepth 100000 in
theorem Tryz.write_var_any (B b:Nat) (bs:List Value) (tn:ByteArray) (sl:Value) (w:World) (h:Lib.IsBuilder 310 5 B b bs w) (C4:bs.length+tn.size+10<=140737488355328) (hBw:B<=w.heap.size) :
  Calls Tryz.prog 253 #[.pointer (some ⟨b,0,none⟩),.agg #[.int .i64 1,.string tn,.int .i64 0,sl]] w λe w'=>e=.returned (.tuple #[])/\(Lib.BuilderAt 310 5 B b (.pointer (some ⟨b,0,none⟩)) (bs++Lib.strCells (⟨#[63]⟩++tn)) w'/\Below B w w'/\P0 5 b w w'):=by
 go_enter Tryz.func253,Tryz.ntmps253
 have ha:(⟨#[63]⟩++tn:ByteArray).size<=tn.size+1:=by simp[zf0z];show 1+tn.size<=tn.size+1;omega
 go_wp2_with (go_at_call 300;refine(Tryz.bldWriteString B b bs _ _ (AQ h _) (by omega) (by simp;omega)).mono ?_;rintro e w1 ⟨rfl,h1,hb1,hap⟩;have hc2:=Ce hap (by rcases h with h|h<;>exact h.lt) (by decide) 2)
 refine bodyPost_ret (results_none rfl _ _ _) rfl ?_;exact⟨rfl,h1,(((Below.refl B w).alloc hBw _).trans hb1),λk hk hkb hT=>(hap k (by simp;omega) hkb (by rw[Lib.alloc_old w _ k hk];exact hT)).trans (Lib.alloc_old w _ k hk)⟩
end Go.Proofs
namespace Go.Abs
def HY:List (List UInt8):=[[97,110,121],[97,103,101,110,116],[110,111,110,99,101],[107,101,121],[100,97,116,97],[116,97,103]]
def j3 (s:Int):List UInt8:=HY.getD s.toNat []
mutual
def Sw:Tm->List UInt8
 | .mk k n s _ l=>if k=1 then 63::n.data.toList++(if s=0 then []else 58::j3 s)else if k=2 then n.data.toList++58::j3 s else n.data.toList++40::(EX true l++[41])
def EX:Bool->List Tm->List UInt8
 |_,[]=>[]
 |b,t::l=>(if b then []else [44,32])++Sw t++EX false l
end
mutual
def VT:Tm->Bool
 | .mk k _ s _ l=>if k=1\/k=2 then decide (0<=s)&&decide (s<=5)else VU l
def VU:List Tm->Bool
 | []=>true
 |t::l=>VT t&&VU l
end
end Go.Abs
namespace Go.Proofs
open Go.RowKit Go.Abs
def GV (B:Nat) (w:World):Prop:=∃wb wo cap,wb<B/\2<B/\w.cell? ⟨2,0,none⟩=some (.slice (some ⟨wb,wo,none⟩) 6 cap)/\∀j,j<6->w.cell? ⟨wb,wo+j,none⟩=some (.string ⟨(HY.getD j []).toArray⟩)
theorem GV.below {B:Nat} {w w':World} (h:GV B w) (hb:Below B w w'):GV B w':=by
 obtain⟨wb,wo,cap,h1,h2,h3,h4⟩:=h;exact⟨wb,wo,cap,h1,h2,(hb.cell h2).trans h3,λj hj=>(hb.cell h1).trans (h4 j hj)⟩
theorem P0.trans {T:TypeId} {b:Nat} {w w1 w2:World} (h:P0 T b w w1) (k:P0 T b w1 w2):P0 T b w w2:=by
 intro j hj hjb hT;have h1:=h j hj hjb hT;have hj1:j<w1.heap.size:=by
  rcases zg0z j w1.heap.size with h' | h'
  .exact h'
  .rw[zf9z h',Array.getElem?_eq_getElem hj]at h1;cases h1
 rw[←h1];exact k j hj1 hjb (by rw[h1];exact hT)
theorem P0.alloc {T:TypeId} {b:Nat} (w:World) (o:Obj):P0 T b w (w.alloc o):=λk hk _ _=>Lib.alloc_old w o k hk
theorem P0.refl (T:TypeId) (b:Nat) (w:World):P0 T b w w:=λ_ _ _ _=>rfl
theorem BI (l l':List UInt8):Lib.byteCells (l++l')=Lib.byteCells l++Lib.byteCells l':=by simp[Lib.byteCells]
set_option maxHeartbeats 8000000 in
set_option maxRecDepth 100000 in
theorem Tryz.write_var (B b:Nat) (bs:List Value) (tn:ByteArray) (s:Int) (sl:Value) (w:World) (h:Lib.IsBuilder 310 5 B b bs w) (hs:s=1\/s=2\/s=3\/s=4\/s=5) (C4:bs.length+tn.size+10<=140737488355328) (hBw:B<=w.heap.size) (hW:GV B w) :
  Calls Tryz.prog 253 #[.pointer (some ⟨b,0,none⟩),.agg #[.int .i64 1,.string tn,.int .i64 s,sl]] w λe w'=>e=.returned (.tuple #[])/\(Lib.BuilderAt 310 5 B b (.pointer (some ⟨b,0,none⟩)) (bs++Lib.byteCells (63::tn.data.toList++58::j3 s)) w'/\Below B w w'/\P0 5 b w w'):=by
 obtain⟨wb,wo,cap,hwb,hgb,hg,hwd⟩:=hW;have ha:(⟨#[63]⟩++tn:ByteArray).size<=tn.size+1:=by simp[zf0z];show 1+tn.size<=tn.size+1;omega
 have hbl:b<w.heap.size:=by rcases h with h|h<;>exact h.lt
 have e1:Lib.strCells (⟨#[63]⟩++tn)=Lib.byteCells (63::tn.data.toList):=by
  rw[Lib.strCells_eq];congr 1
 rcases hs with rfl|rfl|rfl|rfl|rfl
 .have hd0:=hwd 1 (by omega);obtain⟨u,hu⟩:∃u:ByteArray,u=⟨(HY.getD 1 []).toArray⟩:=⟨_,rfl⟩;have hul:u.size<=5:=by rw[hu];decide
  have huw:u.data.toList=j3 1:=by rw[hu];rfl
  rw[←hu]at hd0;clear hu hwd;have hau:(⟨#[58]⟩++u:ByteArray).size<=u.size+1:=by simp[zf0z];show 1+u.size<=u.size+1;omega
  have e2:Lib.strCells (⟨#[58]⟩++u)=Lib.byteCells (58::j3 1):=by
   rw[Lib.strCells_eq,←huw];congr 1
  go_enter Tryz.func253,Tryz.ntmps253
  go_wp2_with (go_at_call 300;first
   |(refine(Tryz.bldWriteString B b _ _ _ (Or.inr h1) (by simp only[zf4z,Lib.strCells_length];omega) (by have:=hb1.size;simp at this ⊢;omega)).mono ?_;rintro e w2 ⟨rfl,h2,hb2,hap2⟩)
   |(refine(Tryz.bldWriteString B b bs _ _ (AQ h _) (by omega) (by simp;omega)).mono ?_;rintro e w1 ⟨rfl,h1,hb1,hap⟩;have hc2:=Ce hap (by rcases h with h|h<;>exact h.lt) (by decide) 2;have hg1:=(hb1.cell hgb).trans ((((Below.refl B w).alloc hBw _).cell hgb).trans hg);have hd1:=(hb1.cell (p:=⟨wb,wo+1,none⟩) hwb).trans ((((Below.refl B w).alloc hBw _).cell (p:=⟨wb,wo+1,none⟩) hwb).trans hd0)))
  refine bodyPost_ret (results_none rfl _ _ _) rfl ?_;refine⟨rfl,?_,((((Below.refl B w).alloc hBw _).trans hb1).trans hb2),((P0.alloc w _).trans hap).trans hap2⟩;rw[e1,e2,zf5z,←BI]at h2;exact h2
 .have hd0:=hwd 2 (by omega);obtain⟨u,hu⟩:∃u:ByteArray,u=⟨(HY.getD 2 []).toArray⟩:=⟨_,rfl⟩;have hul:u.size<=5:=by rw[hu];decide
  have huw:u.data.toList=j3 2:=by rw[hu];rfl
  rw[←hu]at hd0;clear hu hwd;have hau:(⟨#[58]⟩++u:ByteArray).size<=u.size+1:=by simp[zf0z];show 1+u.size<=u.size+1;omega
  have e2:Lib.strCells (⟨#[58]⟩++u)=Lib.byteCells (58::j3 2):=by
   rw[Lib.strCells_eq,←huw];congr 1
  go_enter Tryz.func253,Tryz.ntmps253
  go_wp2_with (go_at_call 300;first
   |(refine(Tryz.bldWriteString B b _ _ _ (Or.inr h1) (by simp only[zf4z,Lib.strCells_length];omega) (by have:=hb1.size;simp at this ⊢;omega)).mono ?_;rintro e w2 ⟨rfl,h2,hb2,hap2⟩)
   |(refine(Tryz.bldWriteString B b bs _ _ (AQ h _) (by omega) (by simp;omega)).mono ?_;rintro e w1 ⟨rfl,h1,hb1,hap⟩;have hc2:=Ce hap (by rcases h with h|h<;>exact h.lt) (by decide) 2;have hg1:=(hb1.cell hgb).trans ((((Below.refl B w).alloc hBw _).cell hgb).trans hg);have hd1:=(hb1.cell (p:=⟨wb,wo+2,none⟩) hwb).trans ((((Below.refl B w).alloc hBw _).cell (p:=⟨wb,wo+2,none⟩) hwb).trans hd0)))
  refine bodyPost_ret (results_none rfl _ _ _) rfl ?_;refine⟨rfl,?_,((((Below.refl B w).alloc hBw _).trans hb1).trans hb2),((P0.alloc w _).trans hap).trans hap2⟩;rw[e1,e2,zf5z,←BI]at h2;exact h2
 .have hd0:=hwd 3 (by omega);obtain⟨u,hu⟩:∃u:ByteArray,u=⟨(HY.getD 3 []).toArray⟩:=⟨_,rfl⟩;have hul:u.size<=5:=by rw[hu];decide
  have huw:u.data.toList=j3 3:=by rw[hu];rfl
  rw[←hu]at hd0;clear hu hwd;have hau:(⟨#[58]⟩++u:ByteArray).size<=u.size+1:=by simp[zf0z];show 1+u.size<=u.size+1;omega
  have e2:Lib.strCells (⟨#[58]⟩++u)=Lib.byteCells (58::j3 3):=by
   rw[Lib.strCells_eq,←huw];congr 1
  go_enter Tryz.func253,Tryz.ntmps253
  go_wp2_with (go_at_call 300;first
   |(refine(Tryz.bldWriteString B b _ _ _ (Or.inr h1) (by simp only[zf4z,Lib.strCells_length];omega) (by have:=hb1.size;simp at this ⊢;omega)).mono ?_;rintro e w2 ⟨rfl,h2,hb2,hap2⟩)
   |(refine(Tryz.bldWriteString B b bs _ _ (AQ h _) (by omega) (by simp;omega)).mono ?_;rintro e w1 ⟨rfl,h1,hb1,hap⟩;have hc2:=Ce hap (by rcases h with h|h<;>exact h.lt) (by decide) 2;have hg1:=(hb1.cell hgb).trans ((((Below.refl B w).alloc hBw _).cell hgb).trans hg);have hd1:=(hb1.cell (p:=⟨wb,wo+3,none⟩) hwb).trans ((((Below.refl B w).alloc hBw _).cell (p:=⟨wb,wo+3,none⟩) hwb).trans hd0)))
  refine bodyPost_ret (results_none rfl _ _ _) rfl ?_;refine⟨rfl,?_,((((Below.refl B w).alloc hBw _).trans hb1).trans hb2),((P0.alloc w _).trans hap).trans hap2⟩;rw[e1,e2,zf5z,←BI]at h2;exact h2
 .have hd0:=hwd 4 (by omega);obtain⟨u,hu⟩:∃u:ByteArray,u=⟨(HY.getD 4 []).toArray⟩:=⟨_,rfl⟩;have hul:u.size<=5:=by rw[hu];decide
  have huw:u.data.toList=j3 4:=by rw[hu];rfl
  rw[←hu]at hd0;clear hu hwd;have hau:(⟨#[58]⟩++u:ByteArray).size<=u.size+1:=by simp[zf0z];show 1+u.size<=u.size+1;omega
  have e2:Lib.strCells (⟨#[58]⟩++u)=Lib.byteCells (58::j3 4):=by
   rw[Lib.strCells_eq,←huw];congr 1
  go_enter Tryz.func253,Tryz.ntmps253
  go_wp2_with (go_at_call 300;first
   |(refine(Tryz.bldWriteString B b _ _ _ (Or.inr h1) (by simp only[zf4z,Lib.strCells_length];omega) (by have:=hb1.size;simp at this ⊢;omega)).mono ?_;rintro e w2 ⟨rfl,h2,hb2,hap2⟩)
   |(refine(Tryz.bldWriteString B b bs _ _ (AQ h _) (by omega) (by simp;omega)).mono ?_;rintro e w1 ⟨rfl,h1,hb1,hap⟩;have hc2:=Ce hap (by rcases h with h|h<;>exact h.lt) (by decide) 2;have hg1:=(hb1.cell hgb).trans ((((Below.refl B w).alloc hBw _).cell hgb).trans hg);have hd1:=(hb1.cell (p:=⟨wb,wo+4,none⟩) hwb).trans ((((Below.refl B w).alloc hBw _).cell (p:=⟨wb,wo+4,none⟩) hwb).trans hd0)))
  refine bodyPost_ret (results_none rfl _ _ _) rfl ?_;refine⟨rfl,?_,((((Below.refl B w).alloc hBw _).trans hb1).trans hb2),((P0.alloc w _).trans hap).trans hap2⟩;rw[e1,e2,zf5z,←BI]at h2;exact h2
 .have hd0:=hwd 5 (by omega);obtain⟨u,hu⟩:∃u:ByteArray,u=⟨(HY.getD 5 []).toArray⟩:=⟨_,rfl⟩;have hul:u.size<=5:=by rw[hu];decide
  have huw:u.data.toList=j3 5:=by rw[hu];rfl
  rw[←hu]at hd0;clear hu hwd;have hau:(⟨#[58]⟩++u:ByteArray).size<=u.size+1:=by simp[zf0z];show 1+u.size<=u.size+1;omega
  have e2:Lib.strCells (⟨#[58]⟩++u)=Lib.byteCells (58::j3 5):=by
   rw[Lib.strCells_eq,←huw];congr 1
  go_enter Tryz.func253,Tryz.ntmps253
  go_wp2_with (go_at_call 300;first
   |(refine(Tryz.bldWriteString B b _ _ _ (Or.inr h1) (by simp only[zf4z,Lib.strCells_length];omega) (by have:=hb1.size;simp at this ⊢;omega)).mono ?_;rintro e w2 ⟨rfl,h2,hb2,hap2⟩)
   |(refine(Tryz.bldWriteString B b bs _ _ (AQ h _) (by omega) (by simp;omega)).mono ?_;rintro e w1 ⟨rfl,h1,hb1,hap⟩;have hc2:=Ce hap (by rcases h with h|h<;>exact h.lt) (by decide) 2;have hg1:=(hb1.cell hgb).trans ((((Below.refl B w).alloc hBw _).cell hgb).trans hg);have hd1:=(hb1.cell (p:=⟨wb,wo+5,none⟩) hwb).trans ((((Below.refl B w).alloc hBw _).cell (p:=⟨wb,wo+5,none⟩) hwb).trans hd0)))
  refine bodyPost_ret (results_none rfl _ _ _) rfl ?_;refine⟨rfl,?_,((((Below.refl B w).alloc hBw _).trans hb1).trans hb2),((P0.alloc w _).trans hap).trans hap2⟩;rw[e1,e2,zf5z,←BI]at h2;exact h2
end Go.Proofs
namespace Go.Proofs
open Go.RowKit Go.Abs
set_option maxHeartbeats 8000000 in
set_option maxRecDepth 100000 in
theorem Tryz.write_atom0 (B b:Nat) (bs:List Value) (tn:ByteArray) (sl:Value) (w:World) (h:Lib.IsBuilder 310 5 B b bs w) (C4:bs.length+tn.size+10<=140737488355328) (hBw:B<=w.heap.size) (hW:GV B w) :
  Calls Tryz.prog 253 #[.pointer (some ⟨b,0,none⟩),.agg #[.int .i64 2,.string tn,.int .i64 0,sl]] w λe w'=>e=.returned (.tuple #[])/\(Lib.BuilderAt 310 5 B b (.pointer (some ⟨b,0,none⟩)) (bs++Lib.byteCells (tn.data.toList++58::j3 0)) w'/\Below B w w'/\P0 5 b w w'):=by
 obtain⟨wb,wo,cap,hwb,hgb,hg,hwd⟩:=hW;have hbl:b<w.heap.size:=by rcases h with h|h<;>exact h.lt
 have hd0:=hwd 0 (by omega);obtain⟨u,hu⟩:∃u:ByteArray,u=⟨(HY.getD 0 []).toArray⟩:=⟨_,rfl⟩;have hul:u.size<=5:=by rw[hu];decide
 have huw:u.data.toList=j3 0:=by rw[hu];rfl
 rw[←hu]at hd0;clear hu hwd;have hau:(tn++⟨#[58]⟩++u:ByteArray).size<=tn.size+u.size+1:=by simp[zf0z];show tn.size+1+u.size<=tn.size+u.size+1;omega
 have hs1:(tn++⟨#[58]⟩:ByteArray).size=tn.size+1:=by rw[zf0z];rfl
 have e2:Lib.strCells (tn++⟨#[58]⟩++u)=Lib.byteCells (tn.data.toList++58::j3 0):=by
  rw[Lib.strCells_eq,←huw];congr 1;simp
 obtain⟨W,hWe⟩:∃W,W=w.alloc (.cells #[.int .i64 2,.string tn,.int .i64 0,sl] 41):=⟨_,rfl⟩;have hbW:Below B w W.drew:=by
  rw[hWe];have k:=(Below.refl B w).alloc hBw (.cells #[.int .i64 2,.string tn,.int .i64 0,sl] 41);exact⟨k.os,k.tape,k.output,k.size,k.block⟩
 have hiW:Lib.IsBuilder 310 5 B b bs W.drew:=by rw[hWe];exact AQ h _
 have hapW:P0 5 b w W.drew:=by rw[hWe];exact P0.alloc w _
 have hg1:=(hbW.cell hgb).trans hg;have hd1:=(hbW.cell (p:=⟨wb,wo,none⟩) hwb).trans hd0;have hc:∀i,W.drew.cell? ⟨w.heap.size,i,none⟩=#[.int .i64 2,.string tn,.int .i64 0,sl][i]?:=λi=>by
  rw[hWe];exact Lib.cell_of_heap (w:=(w.alloc _).drew) (show (w.heap.push _)[w.heap.size]?=some (.cells _ 41 (0,0)) from zf1z) i
 have hc1:=hc 1;have hc2:=hc 2;clear hc
 go_enter Tryz.func253,Tryz.ntmps253
 go_wp2
 rw[←hWe];refine wp_region_still_tail 10 (by kernel_rfl) (by kernel_rfl) ?_;simp only[zf3z,zf7z,zf2z,zf6z];change wpStill _ _ W.drew (λa'=>wpList _ _ _ _ a' W.drew) _ _;generalize W.drew=W1 at *
 clear hWe
 repeat still_step
 refine wpStill_step (λK hK=>?_)
 go_simp
 rw[if_neg (by omega)];refine⟨rfl,hK _ ?_⟩;clear hK K
 repeat still_step
 refine wpStill_step (λK hK=>?_)
 go_simp
 rw[if_neg (by omega)];refine⟨rfl,hK _ ?_⟩;clear hK K;refine wpStill_nil ?_
 go_wp2_with (go_at_call 300;(refine(Tryz.bldWriteString B b bs _ _ hiW (by omega) (zf8z hBw hbW.size)).mono ?_;rintro e w2 ⟨rfl,h2,hb2,hap2⟩))
 refine bodyPost_ret (results_none rfl _ _ _) rfl ?_;refine⟨rfl,?_,hbW.trans hb2,hapW.trans hap2⟩;rw[e2]at h2;exact h2
set_option maxHeartbeats 8000000 in
set_option maxRecDepth 100000 in
theorem Tryz.write_atom1 (B b:Nat) (bs:List Value) (tn:ByteArray) (sl:Value) (w:World) (h:Lib.IsBuilder 310 5 B b bs w) (C4:bs.length+tn.size+10<=140737488355328) (hBw:B<=w.heap.size) (hW:GV B w) :
  Calls Tryz.prog 253 #[.pointer (some ⟨b,0,none⟩),.agg #[.int .i64 2,.string tn,.int .i64 1,sl]] w λe w'=>e=.returned (.tuple #[])/\(Lib.BuilderAt 310 5 B b (.pointer (some ⟨b,0,none⟩)) (bs++Lib.byteCells (tn.data.toList++58::j3 1)) w'/\Below B w w'/\P0 5 b w w'):=by
 obtain⟨wb,wo,cap,hwb,hgb,hg,hwd⟩:=hW;have hbl:b<w.heap.size:=by rcases h with h|h<;>exact h.lt
 have hd0:=hwd 1 (by omega);obtain⟨u,hu⟩:∃u:ByteArray,u=⟨(HY.getD 1 []).toArray⟩:=⟨_,rfl⟩;have hul:u.size<=5:=by rw[hu];decide
 have huw:u.data.toList=j3 1:=by rw[hu];rfl
 rw[←hu]at hd0;clear hu hwd;have hau:(tn++⟨#[58]⟩++u:ByteArray).size<=tn.size+u.size+1:=by simp[zf0z];show tn.size+1+u.size<=tn.size+u.size+1;omega
 have hs1:(tn++⟨#[58]⟩:ByteArray).size=tn.size+1:=by rw[zf0z];rfl
 have e2:Lib.strCells (tn++⟨#[58]⟩++u)=Lib.byteCells (tn.data.toList++58::j3 1):=by
  rw[Lib.strCells_eq,←huw];congr 1;simp
 obtain⟨W,hWe⟩:∃W,W=w.alloc (.cells #[.int .i64 2,.string tn,.int .i64 1,sl] 41):=⟨_,rfl⟩;have hbW:Below B w W.drew:=by
  rw[hWe];have k:=(Below.refl B w).alloc hBw (.cells #[.int .i64 2,.string tn,.int .i64 1,sl] 41);exact⟨k.os,k.tape,k.output,k.size,k.block⟩
 have hiW:Lib.IsBuilder 310 5 B b bs W.drew:=by rw[hWe];exact AQ h _
 have hapW:P0 5 b w W.drew:=by rw[hWe];exact P0.alloc w _
 have hg1:=(hbW.cell hgb).trans hg;have hd1:=(hbW.cell (p:=⟨wb,wo+1,none⟩) hwb).trans hd0;have hc:∀i,W.drew.cell? ⟨w.heap.size,i,none⟩=#[.int .i64 2,.string tn,.int .i64 1,sl][i]?:=λi=>by
  rw[hWe];exact Lib.cell_of_heap (w:=(w.alloc _).drew) (show (w.heap.push _)[w.heap.size]?=some (.cells _ 41 (0,0)) from zf1z) i
 have hc1:=hc 1;have hc2:=hc 2;clear hc
 go_enter Tryz.func253,Tryz.ntmps253
 go_wp2
 rw[←hWe];refine wp_region_still_tail 10 (by kernel_rfl) (by kernel_rfl) ?_;simp only[zf3z,zf7z,zf2z,zf6z];change wpStill _ _ W.drew (λa'=>wpList _ _ _ _ a' W.drew) _ _;generalize W.drew=W1 at *
 clear hWe
 repeat still_step
 refine wpStill_step (λK hK=>?_)
 go_simp
 rw[if_neg (by omega)];refine⟨rfl,hK _ ?_⟩;clear hK K
 repeat still_step
 refine wpStill_step (λK hK=>?_)
 go_simp
 rw[if_neg (by omega)];refine⟨rfl,hK _ ?_⟩;clear hK K;refine wpStill_nil ?_
 go_wp2_with (go_at_call 300;(refine(Tryz.bldWriteString B b bs _ _ hiW (by omega) (zf8z hBw hbW.size)).mono ?_;rintro e w2 ⟨rfl,h2,hb2,hap2⟩))
 refine bodyPost_ret (results_none rfl _ _ _) rfl ?_;refine⟨rfl,?_,hbW.trans hb2,hapW.trans hap2⟩;rw[e2]at h2;exact h2
set_option maxHeartbeats 8000000 in
set_option maxRecDepth 100000 in
theorem Tryz.write_atom2 (B b:Nat) (bs:List Value) (tn:ByteArray) (sl:Value) (w:World) (h:Lib.IsBuilder 310 5 B b bs w) (C4:bs.length+tn.size+10<=140737488355328) (hBw:B<=w.heap.size) (hW:GV B w) :
  Calls Tryz.prog 253 #[.pointer (some ⟨b,0,none⟩),.agg #[.int .i64 2,.string tn,.int .i64 2,sl]] w λe w'=>e=.returned (.tuple #[])/\(Lib.BuilderAt 310 5 B b (.pointer (some ⟨b,0,none⟩)) (bs++Lib.byteCells (tn.data.toList++58::j3 2)) w'/\Below B w w'/\P0 5 b w w'):=by
 obtain⟨wb,wo,cap,hwb,hgb,hg,hwd⟩:=hW;have hbl:b<w.heap.size:=by rcases h with h|h<;>exact h.lt
 have hd0:=hwd 2 (by omega);obtain⟨u,hu⟩:∃u:ByteArray,u=⟨(HY.getD 2 []).toArray⟩:=⟨_,rfl⟩;have hul:u.size<=5:=by rw[hu];decide
 have huw:u.data.toList=j3 2:=by rw[hu];rfl
 rw[←hu]at hd0;clear hu hwd;have hau:(tn++⟨#[58]⟩++u:ByteArray).size<=tn.size+u.size+1:=by simp[zf0z];show tn.size+1+u.size<=tn.size+u.size+1;omega
 have hs1:(tn++⟨#[58]⟩:ByteArray).size=tn.size+1:=by rw[zf0z];rfl
 have e2:Lib.strCells (tn++⟨#[58]⟩++u)=Lib.byteCells (tn.data.toList++58::j3 2):=by
  rw[Lib.strCells_eq,←huw];congr 1;simp
 obtain⟨W,hWe⟩:∃W,W=w.alloc (.cells #[.int .i64 2,.string tn,.int .i64 2,sl] 41):=⟨_,rfl⟩;have hbW:Below B w W.drew:=by
  rw[hWe];have k:=(Below.refl B w).alloc hBw (.cells #[.int .i64 2,.string tn,.int .i64 2,sl] 41);exact⟨k.os,k.tape,k.output,k.size,k.block⟩
 have hiW:Lib.IsBuilder 310 5 B b bs W.drew:=by rw[hWe];exact AQ h _
 have hapW:P0 5 b w W.drew:=by rw[hWe];exact P0.alloc w _
 have hg1:=(hbW.cell hgb).trans hg;have hd1:=(hbW.cell (p:=⟨wb,wo+2,none⟩) hwb).trans hd0;have hc:∀i,W.drew.cell? ⟨w.heap.size,i,none⟩=#[.int .i64 2,.string tn,.int .i64 2,sl][i]?:=λi=>by
  rw[hWe];exact Lib.cell_of_heap (w:=(w.alloc _).drew) (show (w.heap.push _)[w.heap.size]?=some (.cells _ 41 (0,0)) from zf1z) i
 have hc1:=hc 1;have hc2:=hc 2;clear hc
 go_enter Tryz.func253,Tryz.ntmps253
 go_wp2
 rw[←hWe];refine wp_region_still_tail 10 (by kernel_rfl) (by kernel_rfl) ?_;simp only[zf3z,zf7z,zf2z,zf6z];change wpStill _ _ W.drew (λa'=>wpList _ _ _ _ a' W.drew) _ _;generalize W.drew=W1 at *
 clear hWe
 repeat still_step
 refine wpStill_step (λK hK=>?_)
 go_simp
 rw[if_neg (by omega)];refine⟨rfl,hK _ ?_⟩;clear hK K
 repeat still_step
 refine wpStill_step (λK hK=>?_)
 go_simp
 rw[if_neg (by omega)];refine⟨rfl,hK _ ?_⟩;clear hK K;refine wpStill_nil ?_
 go_wp2_with (go_at_call 300;(refine(Tryz.bldWriteString B b bs _ _ hiW (by omega) (zf8z hBw hbW.size)).mono ?_;rintro e w2 ⟨rfl,h2,hb2,hap2⟩))
 refine bodyPost_ret (results_none rfl _ _ _) rfl ?_;refine⟨rfl,?_,hbW.trans hb2,hapW.trans hap2⟩;rw[e2]at h2;exact h2
set_option maxHeartbeats 8000000 in
set_option maxRecDepth 100000 in
theorem Tryz.write_atom3 (B b:Nat) (bs:List Value) (tn:ByteArray) (sl:Value) (w:World) (h:Lib.IsBuilder 310 5 B b bs w) (C4:bs.length+tn.size+10<=140737488355328) (hBw:B<=w.heap.size) (hW:GV B w) :
  Calls Tryz.prog 253 #[.pointer (some ⟨b,0,none⟩),.agg #[.int .i64 2,.string tn,.int .i64 3,sl]] w λe w'=>e=.returned (.tuple #[])/\(Lib.BuilderAt 310 5 B b (.pointer (some ⟨b,0,none⟩)) (bs++Lib.byteCells (tn.data.toList++58::j3 3)) w'/\Below B w w'/\P0 5 b w w'):=by
 obtain⟨wb,wo,cap,hwb,hgb,hg,hwd⟩:=hW;have hbl:b<w.heap.size:=by rcases h with h|h<;>exact h.lt
 have hd0:=hwd 3 (by omega);obtain⟨u,hu⟩:∃u:ByteArray,u=⟨(HY.getD 3 []).toArray⟩:=⟨_,rfl⟩;have hul:u.size<=5:=by rw[hu];decide
 have huw:u.data.toList=j3 3:=by rw[hu];rfl
 rw[←hu]at hd0;clear hu hwd;have hau:(tn++⟨#[58]⟩++u:ByteArray).size<=tn.size+u.size+1:=by simp[zf0z];show tn.size+1+u.size<=tn.size+u.size+1;omega
 have hs1:(tn++⟨#[58]⟩:ByteArray).size=tn.size+1:=by rw[zf0z];rfl
 have e2:Lib.strCells (tn++⟨#[58]⟩++u)=Lib.byteCells (tn.data.toList++58::j3 3):=by
  rw[Lib.strCells_eq,←huw];congr 1;simp
 obtain⟨W,hWe⟩:∃W,W=w.alloc (.cells #[.int .i64 2,.string tn,.int .i64 3,sl] 41):=⟨_,rfl⟩;have hbW:Below B w W.drew:=by
  rw[hWe];have k:=(Below.refl B w).alloc hBw (.cells #[.int .i64 2,.string tn,.int .i64 3,sl] 41);exact⟨k.os,k.tape,k.output,k.size,k.block⟩
 have hiW:Lib.IsBuilder 310 5 B b bs W.drew:=by rw[hWe];exact AQ h _
 have hapW:P0 5 b w W.drew:=by rw[hWe];exact P0.alloc w _
 have hg1:=(hbW.cell hgb).trans hg;have hd1:=(hbW.cell (p:=⟨wb,wo+3,none⟩) hwb).trans hd0;have hc:∀i,W.drew.cell? ⟨w.heap.size,i,none⟩=#[.int .i64 2,.string tn,.int .i64 3,sl][i]?:=λi=>by
  rw[hWe];exact Lib.cell_of_heap (w:=(w.alloc _).drew) (show (w.heap.push _)[w.heap.size]?=some (.cells _ 41 (0,0)) from zf1z) i
 have hc1:=hc 1;have hc2:=hc 2;clear hc
 go_enter Tryz.func253,Tryz.ntmps253
 go_wp2
 rw[←hWe];refine wp_region_still_tail 10 (by kernel_rfl) (by kernel_rfl) ?_;simp only[zf3z,zf7z,zf2z,zf6z];change wpStill _ _ W.drew (λa'=>wpList _ _ _ _ a' W.drew) _ _;generalize W.drew=W1 at *
 clear hWe
 repeat still_step
 refine wpStill_step (λK hK=>?_)
 go_simp
 rw[if_neg (by omega)];refine⟨rfl,hK _ ?_⟩;clear hK K
 repeat still_step
 refine wpStill_step (λK hK=>?_)
 go_simp
 rw[if_neg (by omega)];refine⟨rfl,hK _ ?_⟩;clear hK K;refine wpStill_nil ?_
 go_wp2_with (go_at_call 300;(refine(Tryz.bldWriteString B b bs _ _ hiW (by omega) (zf8z hBw hbW.size)).mono ?_;rintro e w2 ⟨rfl,h2,hb2,hap2⟩))
 refine bodyPost_ret (results_none rfl _ _ _) rfl ?_;refine⟨rfl,?_,hbW.trans hb2,hapW.trans hap2⟩;rw[e2]at h2;exact h2
set_option maxHeartbeats 8000000 in
set_option maxRecDepth 100000 in
theorem Tryz.write_atom4 (B b:Nat) (bs:List Value) (tn:ByteArray) (sl:Value) (w:World) (h:Lib.IsBuilder 310 5 B b bs w) (C4:bs.length+tn.size+10<=140737488355328) (hBw:B<=w.heap.size) (hW:GV B w) :
  Calls Tryz.prog 253 #[.pointer (some ⟨b,0,none⟩),.agg #[.int .i64 2,.string tn,.int .i64 4,sl]] w λe w'=>e=.returned (.tuple #[])/\(Lib.BuilderAt 310 5 B b (.pointer (some ⟨b,0,none⟩)) (bs++Lib.byteCells (tn.data.toList++58::j3 4)) w'/\Below B w w'/\P0 5 b w w'):=by
 obtain⟨wb,wo,cap,hwb,hgb,hg,hwd⟩:=hW;have hbl:b<w.heap.size:=by rcases h with h|h<;>exact h.lt
 have hd0:=hwd 4 (by omega);obtain⟨u,hu⟩:∃u:ByteArray,u=⟨(HY.getD 4 []).toArray⟩:=⟨_,rfl⟩;have hul:u.size<=5:=by rw[hu];decide
 have huw:u.data.toList=j3 4:=by rw[hu];rfl
 rw[←hu]at hd0;clear hu hwd;have hau:(tn++⟨#[58]⟩++u:ByteArray).size<=tn.size+u.size+1:=by simp[zf0z];show tn.size+1+u.size<=tn.size+u.size+1;omega
 have hs1:(tn++⟨#[58]⟩:ByteArray).size=tn.size+1:=by rw[zf0z];rfl
 have e2:Lib.strCells (tn++⟨#[58]⟩++u)=Lib.byteCells (tn.data.toList++58::j3 4):=by
  rw[Lib.strCells_eq,←huw];congr 1;simp
 obtain⟨W,hWe⟩:∃W,W=w.alloc (.cells #[.int .i64 2,.string tn,.int .i64 4,sl] 41):=⟨_,rfl⟩;have hbW:Below B w W.drew:=by
  rw[hWe];have k:=(Below.refl B w).alloc hBw (.cells #[.int .i64 2,.string tn,.int .i64 4,sl] 41);exact⟨k.os,k.tape,k.output,k.size,k.block⟩
 have hiW:Lib.IsBuilder 310 5 B b bs W.drew:=by rw[hWe];exact AQ h _
 have hapW:P0 5 b w W.drew:=by rw[hWe];exact P0.alloc w _
 have hg1:=(hbW.cell hgb).trans hg;have hd1:=(hbW.cell (p:=⟨wb,wo+4,none⟩) hwb).trans hd0;have hc:∀i,W.drew.cell? ⟨w.heap.size,i,none⟩=#[.int .i64 2,.string tn,.int .i64 4,sl][i]?:=λi=>by
  rw[hWe];exact Lib.cell_of_heap (w:=(w.alloc _).drew) (show (w.heap.push _)[w.heap.size]?=some (.cells _ 41 (0,0)) from zf1z) i
 have hc1:=hc 1;have hc2:=hc 2;clear hc
 go_enter Tryz.func253,Tryz.ntmps253
 go_wp2
 rw[←hWe];refine wp_region_still_tail 10 (by kernel_rfl) (by kernel_rfl) ?_;simp only[zf3z,zf7z,zf2z,zf6z];change wpStill _ _ W.drew (λa'=>wpList _ _ _ _ a' W.drew) _ _;generalize W.drew=W1 at *
 clear hWe
 repeat still_step
 refine wpStill_step (λK hK=>?_)
 go_simp
 rw[if_neg (by omega)];refine⟨rfl,hK _ ?_⟩;clear hK K
 repeat still_step
 refine wpStill_step (λK hK=>?_)
 go_simp
 rw[if_neg (by omega)];refine⟨rfl,hK _ ?_⟩;clear hK K;refine wpStill_nil ?_
 go_wp2_with (go_at_call 300;(refine(Tryz.bldWriteString B b bs _ _ hiW (by omega) (zf8z hBw hbW.size)).mono ?_;rintro e w2 ⟨rfl,h2,hb2,hap2⟩))
 refine bodyPost_ret (results_none rfl _ _ _) rfl ?_;refine⟨rfl,?_,hbW.trans hb2,hapW.trans hap2⟩;rw[e2]at h2;exact h2
set_option maxHeartbeats 8000000 in
set_option maxRecDepth 100000 in
theorem Tryz.write_atom5 (B b:Nat) (bs:List Value) (tn:ByteArray) (sl:Value) (w:World) (h:Lib.IsBuilder 310 5 B b bs w) (C4:bs.length+tn.size+10<=140737488355328) (hBw:B<=w.heap.size) (hW:GV B w) :
  Calls Tryz.prog 253 #[.pointer (some ⟨b,0,none⟩),.agg #[.int .i64 2,.string tn,.int .i64 5,sl]] w λe w'=>e=.returned (.tuple #[])/\(Lib.BuilderAt 310 5 B b (.pointer (some ⟨b,0,none⟩)) (bs++Lib.byteCells (tn.data.toList++58::j3 5)) w'/\Below B w w'/\P0 5 b w w'):=by
 obtain⟨wb,wo,cap,hwb,hgb,hg,hwd⟩:=hW;have hbl:b<w.heap.size:=by rcases h with h|h<;>exact h.lt
 have hd0:=hwd 5 (by omega);obtain⟨u,hu⟩:∃u:ByteArray,u=⟨(HY.getD 5 []).toArray⟩:=⟨_,rfl⟩;have hul:u.size<=5:=by rw[hu];decide
 have huw:u.data.toList=j3 5:=by rw[hu];rfl
 rw[←hu]at hd0;clear hu hwd;have hau:(tn++⟨#[58]⟩++u:ByteArray).size<=tn.size+u.size+1:=by simp[zf0z];show tn.size+1+u.size<=tn.size+u.size+1;omega
 have hs1:(tn++⟨#[58]⟩:ByteArray).size=tn.size+1:=by rw[zf0z];rfl
 have e2:Lib.strCells (tn++⟨#[58]⟩++u)=Lib.byteCells (tn.data.toList++58::j3 5):=by
  rw[Lib.strCells_eq,←huw];congr 1;simp
 obtain⟨W,hWe⟩:∃W,W=w.alloc (.cells #[.int .i64 2,.string tn,.int .i64 5,sl] 41):=⟨_,rfl⟩;have hbW:Below B w W.drew:=by
  rw[hWe];have k:=(Below.refl B w).alloc hBw (.cells #[.int .i64 2,.string tn,.int .i64 5,sl] 41);exact⟨k.os,k.tape,k.output,k.size,k.block⟩
 have hiW:Lib.IsBuilder 310 5 B b bs W.drew:=by rw[hWe];exact AQ h _
 have hapW:P0 5 b w W.drew:=by rw[hWe];exact P0.alloc w _
 have hg1:=(hbW.cell hgb).trans hg;have hd1:=(hbW.cell (p:=⟨wb,wo+5,none⟩) hwb).trans hd0;have hc:∀i,W.drew.cell? ⟨w.heap.size,i,none⟩=#[.int .i64 2,.string tn,.int .i64 5,sl][i]?:=λi=>by
  rw[hWe];exact Lib.cell_of_heap (w:=(w.alloc _).drew) (show (w.heap.push _)[w.heap.size]?=some (.cells _ 41 (0,0)) from zf1z) i
 have hc1:=hc 1;have hc2:=hc 2;clear hc
 go_enter Tryz.func253,Tryz.ntmps253
 go_wp2
 rw[←hWe];refine wp_region_still_tail 10 (by kernel_rfl) (by kernel_rfl) ?_;simp only[zf3z,zf7z,zf2z,zf6z];change wpStill _ _ W.drew (λa'=>wpList _ _ _ _ a' W.drew) _ _;generalize W.drew=W1 at *
 clear hWe
 repeat still_step
 refine wpStill_step (λK hK=>?_)
 go_simp
 rw[if_neg (by omega)];refine⟨rfl,hK _ ?_⟩;clear hK K
 repeat still_step
 refine wpStill_step (λK hK=>?_)
 go_simp
 rw[if_neg (by omega)];refine⟨rfl,hK _ ?_⟩;clear hK K;refine wpStill_nil ?_
 go_wp2_with (go_at_call 300;(refine(Tryz.bldWriteString B b bs _ _ hiW (by omega) (zf8z hBw hbW.size)).mono ?_;rintro e w2 ⟨rfl,h2,hb2,hap2⟩))
 refine bodyPost_ret (results_none rfl _ _ _) rfl ?_;refine⟨rfl,?_,hbW.trans hb2,hapW.trans hap2⟩;rw[e2]at h2;exact h2
end Go.Proofs
