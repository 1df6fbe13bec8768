/- A part of the proof. -/
import Derived.Test.YtnnjamknplefbaaGreatDoorTS17
import Derived.StillTailTactics
set_option linter.all false
open ByteArray renaming size_append->zf0z
open Array renaming getElem?_push_size->zf1z
open List renaming drop_succ_cons->zf2z,take_succ_cons->zf3z,length_append->zf5z,append_assoc->zf6z,drop_zero->zf7z,take_zero->zf8z
open Nat renaming le_trans->zf4z,le_refl->zf9z
set_option linter.all false
namespace Go.Abs
def HE:List (List UInt8):=[[97,110,121],[97,103,101,110,116],[110,111,110,99,101],[107,101,121],[100,97,116,97],[116,97,103]]
def Y8(s:Int):List UInt8:=HE.getD s.toNat []
mutual
def Km:Tm->List UInt8
 | .mk k n s _ l=>if k=1 then 63::n.data.toList++(if s=0 then []else 58::Y8 s)else if k=2 then n.data.toList++58::Y8 s else n.data.toList++40::(Av true l++[41])
def Av:Bool->List Tm->List UInt8
 |_,[]=>[]
 |b,t::l=>(if b then []else [44,32])++Km t++Av false l
end
mutual
def Ta:Tm->Bool
 | .mk k _ s _ l=>if k=1\/k=2 then decide (0<=s)&&decide (s<=5)else Tb l
def Tb:List Tm->Bool
 | []=>true
 |t::l=>Ta t&&Tb l
end
end Go.Abs
namespace Go.Proofs
open Go.RowKit Go.Abs
def Hf(B:Nat)(w:World):Prop:=∃wb wo cap,wb<B/\0<B/\w.cell? ⟨0,0,none⟩=some (.slice (some ⟨wb,wo,none⟩) 6 cap)/\∀j,j<6->w.cell? ⟨wb,wo+j,none⟩=some (.string ⟨(HE.getD j []).toArray⟩)
theorem Hf.below{B:Nat}{w w':World}(h:Hf B w)(hb:Below B w w'):Hf B w':=by
 obtain⟨wb,wo,cap,h1,h2,h3,h4⟩:=h;exact⟨wb,wo,cap,h1,h2,(hb.cell h2).trans h3,λj hj=>(hb.cell h1).trans (h4 j hj)⟩
theorem Apart.trans{T:TypeId}{b:Nat}{w w1 w2:World}(h:Apart T b w w1)(k:Apart T b w1 w2):Apart T b w w2:=by
 refine⟨?_,zf4z h.drawn k.drawn⟩;intro j hj hjb hT;have h1:=h.at_ j hj hjb hT;have hj1:j<w1.heap.size:=by
  rcases Nat.lt_or_ge j w1.heap.size with h' | h'
  .exact h'
  .rw[Array.getElem?_eq_none h',Array.getElem?_eq_getElem hj]at h1;cases h1
 rw[←h1];exact k.at_ j hj1 hjb (by rw[h1];exact hT)
theorem Apart.alloc{T:TypeId}{b:Nat}(w:World)(o:Obj):Apart T b w (w.alloc o):=⟨λk hk _ _=>Lib.alloc_old w o k hk,zf9z _⟩
theorem Apart.drew{T:TypeId}{b:Nat}{w w1:World}(h:Apart T b w w1):Apart T b w w1.drew:=⟨h.at_,zf4z h.drawn (Nat.le_succ _)⟩
theorem Apart.refl(T:TypeId)(b:Nat)(w:World):Apart T b w w:=⟨λ_ _ _ _=>rfl,zf9z _⟩
theorem CR(l l':List UInt8):Lib.byteCells (l++l')=Lib.byteCells l++Lib.byteCells l':=by simp[Lib.byteCells]
set_option maxHeartbeats 8000000 in
set_option maxRecDepth 100000 in
theorem Tryz.write_var(B b:Nat)(bs:List Value)(tn:ByteArray)(s:Int)(sl:Value)(w:World)(h:Lib.IsBuilder 196 5 B b bs w)(hs:s=1\/s=2\/s=3\/s=4\/s=5)(J3:bs.length+tn.size+10<=140737488355328)(hBw:B<=w.heap.size)(hW:Hf B w) :
  Calls Tryz.prog 126 #[.pointer (some ⟨b,0,none⟩),.agg #[.int .i64 1,.string tn,.int .i64 s,sl]] w λe w'=>e=.returned (.tuple #[])/\(Lib.BuilderAt 196 5 B b (.pointer (some ⟨b,0,none⟩)) (bs++Lib.byteCells (63::tn.data.toList++58::Y8 s)) w'/\Below B w w'/\Apart 5 b w w'):=by
 obtain⟨wb,wo,cap,hwb,hgb,hg,hwd⟩:=hW;have ha:(⟨#[63]⟩++tn:ByteArray).size<=tn.size+1:=by simp[zf0z];show 1+tn.size<=tn.size+1;omega
 have hbl:b<w.heap.size:=by rcases h with h|h<;>exact h.lt
 have e1:Lib.strCells (⟨#[63]⟩++tn)=Lib.byteCells (63::tn.data.toList):=by
  rw[Lib.strCells_eq];congr 1
 rcases hs with rfl|rfl|rfl|rfl|rfl
 .have hd0:=hwd 1 (by omega);obtain⟨u,hu⟩:∃u:ByteArray,u=⟨(HE.getD 1 []).toArray⟩:=⟨_,rfl⟩;have hul:u.size<=5:=by rw[hu];decide
  have huw:u.data.toList=Y8 1:=by rw[hu];rfl
  rw[←hu]at hd0;clear hu hwd;have hau:(⟨#[58]⟩++u:ByteArray).size<=u.size+1:=by simp[zf0z];show 1+u.size<=u.size+1;omega
  have e2:Lib.strCells (⟨#[58]⟩++u)=Lib.byteCells (58::Y8 1):=by
   rw[Lib.strCells_eq,←huw];congr 1
  go_enter Tryz.func126,Tryz.ntmps126
  go_wp2_with (go_at_call 216;first
   |(refine(Tryz.bldWriteString B b _ _ _ (Or.inr h1) (by simp only[zf5z,Lib.strCells_length];omega) (by have:=hb1.size;simp at this ⊢;omega)).mono ?_;rintro e w2 ⟨rfl,h2,hb2,hap2⟩)
   |(refine(Tryz.bldWriteString B b bs _ _ (Bm h _) (by omega) (by simp;omega)).mono ?_;rintro e w1 ⟨rfl,h1,hb1,hap⟩;have hc2:=Ds hap (by rcases h with h|h<;>exact h.lt) (by decide) 2;have hg1:=(hb1.cell hgb).trans ((((Below.refl B w).alloc hBw _).cell hgb).trans hg);have hd1:=(hb1.cell (p:=⟨wb,wo+1,none⟩) hwb).trans ((((Below.refl B w).alloc hBw _).cell (p:=⟨wb,wo+1,none⟩) hwb).trans hd0)))
  refine bodyPost_ret (results_none rfl _ _ _) rfl ?_;refine⟨rfl,?_,((((Below.refl B w).alloc hBw _).trans hb1).trans hb2),((Apart.alloc w _).trans hap).trans hap2⟩;rw[e1,e2,zf6z,←CR]at h2;exact h2
 .have hd0:=hwd 2 (by omega);obtain⟨u,hu⟩:∃u:ByteArray,u=⟨(HE.getD 2 []).toArray⟩:=⟨_,rfl⟩;have hul:u.size<=5:=by rw[hu];decide
  have huw:u.data.toList=Y8 2:=by rw[hu];rfl
  rw[←hu]at hd0;clear hu hwd;have hau:(⟨#[58]⟩++u:ByteArray).size<=u.size+1:=by simp[zf0z];show 1+u.size<=u.size+1;omega
  have e2:Lib.strCells (⟨#[58]⟩++u)=Lib.byteCells (58::Y8 2):=by
   rw[Lib.strCells_eq,←huw];congr 1
  go_enter Tryz.func126,Tryz.ntmps126
  go_wp2_with (go_at_call 216;first
   |(refine(Tryz.bldWriteString B b _ _ _ (Or.inr h1) (by simp only[zf5z,Lib.strCells_length];omega) (by have:=hb1.size;simp at this ⊢;omega)).mono ?_;rintro e w2 ⟨rfl,h2,hb2,hap2⟩)
   |(refine(Tryz.bldWriteString B b bs _ _ (Bm h _) (by omega) (by simp;omega)).mono ?_;rintro e w1 ⟨rfl,h1,hb1,hap⟩;have hc2:=Ds hap (by rcases h with h|h<;>exact h.lt) (by decide) 2;have hg1:=(hb1.cell hgb).trans ((((Below.refl B w).alloc hBw _).cell hgb).trans hg);have hd1:=(hb1.cell (p:=⟨wb,wo+2,none⟩) hwb).trans ((((Below.refl B w).alloc hBw _).cell (p:=⟨wb,wo+2,none⟩) hwb).trans hd0)))
  refine bodyPost_ret (results_none rfl _ _ _) rfl ?_;refine⟨rfl,?_,((((Below.refl B w).alloc hBw _).trans hb1).trans hb2),((Apart.alloc w _).trans hap).trans hap2⟩;rw[e1,e2,zf6z,←CR]at h2;exact h2
 .have hd0:=hwd 3 (by omega);obtain⟨u,hu⟩:∃u:ByteArray,u=⟨(HE.getD 3 []).toArray⟩:=⟨_,rfl⟩;have hul:u.size<=5:=by rw[hu];decide
  have huw:u.data.toList=Y8 3:=by rw[hu];rfl
  rw[←hu]at hd0;clear hu hwd;have hau:(⟨#[58]⟩++u:ByteArray).size<=u.size+1:=by simp[zf0z];show 1+u.size<=u.size+1;omega
  have e2:Lib.strCells (⟨#[58]⟩++u)=Lib.byteCells (58::Y8 3):=by
   rw[Lib.strCells_eq,←huw];congr 1
  go_enter Tryz.func126,Tryz.ntmps126
  go_wp2_with (go_at_call 216;first
   |(refine(Tryz.bldWriteString B b _ _ _ (Or.inr h1) (by simp only[zf5z,Lib.strCells_length];omega) (by have:=hb1.size;simp at this ⊢;omega)).mono ?_;rintro e w2 ⟨rfl,h2,hb2,hap2⟩)
   |(refine(Tryz.bldWriteString B b bs _ _ (Bm h _) (by omega) (by simp;omega)).mono ?_;rintro e w1 ⟨rfl,h1,hb1,hap⟩;have hc2:=Ds hap (by rcases h with h|h<;>exact h.lt) (by decide) 2;have hg1:=(hb1.cell hgb).trans ((((Below.refl B w).alloc hBw _).cell hgb).trans hg);have hd1:=(hb1.cell (p:=⟨wb,wo+3,none⟩) hwb).trans ((((Below.refl B w).alloc hBw _).cell (p:=⟨wb,wo+3,none⟩) hwb).trans hd0)))
  refine bodyPost_ret (results_none rfl _ _ _) rfl ?_;refine⟨rfl,?_,((((Below.refl B w).alloc hBw _).trans hb1).trans hb2),((Apart.alloc w _).trans hap).trans hap2⟩;rw[e1,e2,zf6z,←CR]at h2;exact h2
 .have hd0:=hwd 4 (by omega);obtain⟨u,hu⟩:∃u:ByteArray,u=⟨(HE.getD 4 []).toArray⟩:=⟨_,rfl⟩;have hul:u.size<=5:=by rw[hu];decide
  have huw:u.data.toList=Y8 4:=by rw[hu];rfl
  rw[←hu]at hd0;clear hu hwd;have hau:(⟨#[58]⟩++u:ByteArray).size<=u.size+1:=by simp[zf0z];show 1+u.size<=u.size+1;omega
  have e2:Lib.strCells (⟨#[58]⟩++u)=Lib.byteCells (58::Y8 4):=by
   rw[Lib.strCells_eq,←huw];congr 1
  go_enter Tryz.func126,Tryz.ntmps126
  go_wp2_with (go_at_call 216;first
   |(refine(Tryz.bldWriteString B b _ _ _ (Or.inr h1) (by simp only[zf5z,Lib.strCells_length];omega) (by have:=hb1.size;simp at this ⊢;omega)).mono ?_;rintro e w2 ⟨rfl,h2,hb2,hap2⟩)
   |(refine(Tryz.bldWriteString B b bs _ _ (Bm h _) (by omega) (by simp;omega)).mono ?_;rintro e w1 ⟨rfl,h1,hb1,hap⟩;have hc2:=Ds hap (by rcases h with h|h<;>exact h.lt) (by decide) 2;have hg1:=(hb1.cell hgb).trans ((((Below.refl B w).alloc hBw _).cell hgb).trans hg);have hd1:=(hb1.cell (p:=⟨wb,wo+4,none⟩) hwb).trans ((((Below.refl B w).alloc hBw _).cell (p:=⟨wb,wo+4,none⟩) hwb).trans hd0)))
  refine bodyPost_ret (results_none rfl _ _ _) rfl ?_;refine⟨rfl,?_,((((Below.refl B w).alloc hBw _).trans hb1).trans hb2),((Apart.alloc w _).trans hap).trans hap2⟩;rw[e1,e2,zf6z,←CR]at h2;exact h2
 .have hd0:=hwd 5 (by omega);obtain⟨u,hu⟩:∃u:ByteArray,u=⟨(HE.getD 5 []).toArray⟩:=⟨_,rfl⟩;have hul:u.size<=5:=by rw[hu];decide
  have huw:u.data.toList=Y8 5:=by rw[hu];rfl
  rw[←hu]at hd0;clear hu hwd;have hau:(⟨#[58]⟩++u:ByteArray).size<=u.size+1:=by simp[zf0z];show 1+u.size<=u.size+1;omega
  have e2:Lib.strCells (⟨#[58]⟩++u)=Lib.byteCells (58::Y8 5):=by
   rw[Lib.strCells_eq,←huw];congr 1
  go_enter Tryz.func126,Tryz.ntmps126
  go_wp2_with (go_at_call 216;first
   |(refine(Tryz.bldWriteString B b _ _ _ (Or.inr h1) (by simp only[zf5z,Lib.strCells_length];omega) (by have:=hb1.size;simp at this ⊢;omega)).mono ?_;rintro e w2 ⟨rfl,h2,hb2,hap2⟩)
   |(refine(Tryz.bldWriteString B b bs _ _ (Bm h _) (by omega) (by simp;omega)).mono ?_;rintro e w1 ⟨rfl,h1,hb1,hap⟩;have hc2:=Ds hap (by rcases h with h|h<;>exact h.lt) (by decide) 2;have hg1:=(hb1.cell hgb).trans ((((Below.refl B w).alloc hBw _).cell hgb).trans hg);have hd1:=(hb1.cell (p:=⟨wb,wo+5,none⟩) hwb).trans ((((Below.refl B w).alloc hBw _).cell (p:=⟨wb,wo+5,none⟩) hwb).trans hd0)))
  refine bodyPost_ret (results_none rfl _ _ _) rfl ?_;refine⟨rfl,?_,((((Below.refl B w).alloc hBw _).trans hb1).trans hb2),((Apart.alloc w _).trans hap).trans hap2⟩;rw[e1,e2,zf6z,←CR]at h2;exact h2
end Go.Proofs
namespace Go.Proofs
open Go.RowKit Go.Abs
set_option maxHeartbeats 8000000 in
set_option maxRecDepth 100000 in
theorem Tryz.write_atom0(B b:Nat)(bs:List Value)(tn:ByteArray)(sl:Value)(w:World)(h:Lib.IsBuilder 196 5 B b bs w)(J3:bs.length+tn.size+10<=140737488355328)(hBw:B<=w.heap.size)(hW:Hf B w) :
  Calls Tryz.prog 126 #[.pointer (some ⟨b,0,none⟩),.agg #[.int .i64 2,.string tn,.int .i64 0,sl]] w λe w'=>e=.returned (.tuple #[])/\(Lib.BuilderAt 196 5 B b (.pointer (some ⟨b,0,none⟩)) (bs++Lib.byteCells (tn.data.toList++58::Y8 0)) w'/\Below B w w'/\Apart 5 b w w'):=by
 obtain⟨wb,wo,cap,hwb,hgb,hg,hwd⟩:=hW;have hbl:b<w.heap.size:=by rcases h with h|h<;>exact h.lt
 have hd0:=hwd 0 (by omega);obtain⟨u,hu⟩:∃u:ByteArray,u=⟨(HE.getD 0 []).toArray⟩:=⟨_,rfl⟩;have hul:u.size<=5:=by rw[hu];decide
 have huw:u.data.toList=Y8 0:=by rw[hu];rfl
 rw[←hu]at hd0;clear hu hwd;have hau:(tn++⟨#[58]⟩++u:ByteArray).size<=tn.size+u.size+1:=by simp[zf0z];show tn.size+1+u.size<=tn.size+u.size+1;omega
 have hs1:(tn++⟨#[58]⟩:ByteArray).size=tn.size+1:=by rw[zf0z];rfl
 have e2:Lib.strCells (tn++⟨#[58]⟩++u)=Lib.byteCells (tn.data.toList++58::Y8 0):=by
  rw[Lib.strCells_eq,←huw];congr 1;simp
 obtain⟨W,hWe⟩:∃W,W=w.alloc (.cells #[.int .i64 2,.string tn,.int .i64 0,sl] 28):=⟨_,rfl⟩;have hbW:Below B w W.drew:=by
  rw[hWe];have k:=(Below.refl B w).alloc hBw (.cells #[.int .i64 2,.string tn,.int .i64 0,sl] 28);exact⟨k.os,k.tape,k.output,k.size,k.block⟩
 have hiW:Lib.IsBuilder 196 5 B b bs W.drew:=by rw[hWe];exact Bm h _
 have hapW:Apart 5 b w W.drew:=by rw[hWe];exact(Apart.alloc w _).drew
 have hg1:=(hbW.cell hgb).trans hg;have hd1:=(hbW.cell (p:=⟨wb,wo,none⟩) hwb).trans hd0;have hc:∀i,W.drew.cell? ⟨w.heap.size,i,none⟩=#[.int .i64 2,.string tn,.int .i64 0,sl][i]?:=λi=>by
  rw[hWe];exact Lib.cell_of_heap (w:=(w.alloc _).drew) (show (w.heap.push _)[w.heap.size]?=some (.cells _ 28 (0,0)) from zf1z) i
 have hc1:=hc 1;have hc2:=hc 2;clear hc
 go_enter Tryz.func126,Tryz.ntmps126
 go_wp2
 rw[←hWe];refine wp_region_still_tail 10 (by kernel_rfl) (by kernel_rfl) ?_;simp only[zf3z,zf8z,zf2z,zf7z];change wpStill _ _ W.drew (λa'=>wpList _ _ _ _ a' W.drew) _ _;generalize W.drew=W1 at *
 clear hWe
 repeat still_step
 refine wpStill_step (λK hK=>?_)
 go_simp
 rw[if_neg (by omega)];refine⟨rfl,hK _ ?_⟩;clear hK K
 repeat still_step
 refine wpStill_step (λK hK=>?_)
 go_simp
 rw[if_neg (by omega)];refine⟨rfl,hK _ ?_⟩;clear hK K;refine wpStill_nil ?_
 go_wp2_with (go_at_call 216;(refine(Tryz.bldWriteString B b bs _ _ hiW (by omega) (zf4z hBw hbW.size)).mono ?_;rintro e w2 ⟨rfl,h2,hb2,hap2⟩))
 refine bodyPost_ret (results_none rfl _ _ _) rfl ?_;refine⟨rfl,?_,hbW.trans hb2,hapW.trans hap2⟩;rw[e2]at h2;exact h2
set_option maxHeartbeats 8000000 in
set_option maxRecDepth 100000 in
theorem Tryz.write_atom1(B b:Nat)(bs:List Value)(tn:ByteArray)(sl:Value)(w:World)(h:Lib.IsBuilder 196 5 B b bs w)(J3:bs.length+tn.size+10<=140737488355328)(hBw:B<=w.heap.size)(hW:Hf B w) :
  Calls Tryz.prog 126 #[.pointer (some ⟨b,0,none⟩),.agg #[.int .i64 2,.string tn,.int .i64 1,sl]] w λe w'=>e=.returned (.tuple #[])/\(Lib.BuilderAt 196 5 B b (.pointer (some ⟨b,0,none⟩)) (bs++Lib.byteCells (tn.data.toList++58::Y8 1)) w'/\Below B w w'/\Apart 5 b w w'):=by
 obtain⟨wb,wo,cap,hwb,hgb,hg,hwd⟩:=hW;have hbl:b<w.heap.size:=by rcases h with h|h<;>exact h.lt
 have hd0:=hwd 1 (by omega);obtain⟨u,hu⟩:∃u:ByteArray,u=⟨(HE.getD 1 []).toArray⟩:=⟨_,rfl⟩;have hul:u.size<=5:=by rw[hu];decide
 have huw:u.data.toList=Y8 1:=by rw[hu];rfl
 rw[←hu]at hd0;clear hu hwd;have hau:(tn++⟨#[58]⟩++u:ByteArray).size<=tn.size+u.size+1:=by simp[zf0z];show tn.size+1+u.size<=tn.size+u.size+1;omega
 have hs1:(tn++⟨#[58]⟩:ByteArray).size=tn.size+1:=by rw[zf0z];rfl
 have e2:Lib.strCells (tn++⟨#[58]⟩++u)=Lib.byteCells (tn.data.toList++58::Y8 1):=by
  rw[Lib.strCells_eq,←huw];congr 1;simp
 obtain⟨W,hWe⟩:∃W,W=w.alloc (.cells #[.int .i64 2,.string tn,.int .i64 1,sl] 28):=⟨_,rfl⟩;have hbW:Below B w W.drew:=by
  rw[hWe];have k:=(Below.refl B w).alloc hBw (.cells #[.int .i64 2,.string tn,.int .i64 1,sl] 28);exact⟨k.os,k.tape,k.output,k.size,k.block⟩
 have hiW:Lib.IsBuilder 196 5 B b bs W.drew:=by rw[hWe];exact Bm h _
 have hapW:Apart 5 b w W.drew:=by rw[hWe];exact(Apart.alloc w _).drew
 have hg1:=(hbW.cell hgb).trans hg;have hd1:=(hbW.cell (p:=⟨wb,wo+1,none⟩) hwb).trans hd0;have hc:∀i,W.drew.cell? ⟨w.heap.size,i,none⟩=#[.int .i64 2,.string tn,.int .i64 1,sl][i]?:=λi=>by
  rw[hWe];exact Lib.cell_of_heap (w:=(w.alloc _).drew) (show (w.heap.push _)[w.heap.size]?=some (.cells _ 28 (0,0)) from zf1z) i
 have hc1:=hc 1;have hc2:=hc 2;clear hc
 go_enter Tryz.func126,Tryz.ntmps126
 go_wp2
 rw[←hWe];refine wp_region_still_tail 10 (by kernel_rfl) (by kernel_rfl) ?_;simp only[zf3z,zf8z,zf2z,zf7z];change wpStill _ _ W.drew (λa'=>wpList _ _ _ _ a' W.drew) _ _;generalize W.drew=W1 at *
 clear hWe
 repeat still_step
 refine wpStill_step (λK hK=>?_)
 go_simp
 rw[if_neg (by omega)];refine⟨rfl,hK _ ?_⟩;clear hK K
 repeat still_step
 refine wpStill_step (λK hK=>?_)
 go_simp
 rw[if_neg (by omega)];refine⟨rfl,hK _ ?_⟩;clear hK K;refine wpStill_nil ?_
 go_wp2_with (go_at_call 216;(refine(Tryz.bldWriteString B b bs _ _ hiW (by omega) (zf4z hBw hbW.size)).mono ?_;rintro e w2 ⟨rfl,h2,hb2,hap2⟩))
 refine bodyPost_ret (results_none rfl _ _ _) rfl ?_;refine⟨rfl,?_,hbW.trans hb2,hapW.trans hap2⟩;rw[e2]at h2;exact h2
set_option maxHeartbeats 8000000 in
set_option maxRecDepth 100000 in
theorem Tryz.write_atom2(B b:Nat)(bs:List Value)(tn:ByteArray)(sl:Value)(w:World)(h:Lib.IsBuilder 196 5 B b bs w)(J3:bs.length+tn.size+10<=140737488355328)(hBw:B<=w.heap.size)(hW:Hf B w) :
  Calls Tryz.prog 126 #[.pointer (some ⟨b,0,none⟩),.agg #[.int .i64 2,.string tn,.int .i64 2,sl]] w λe w'=>e=.returned (.tuple #[])/\(Lib.BuilderAt 196 5 B b (.pointer (some ⟨b,0,none⟩)) (bs++Lib.byteCells (tn.data.toList++58::Y8 2)) w'/\Below B w w'/\Apart 5 b w w'):=by
 obtain⟨wb,wo,cap,hwb,hgb,hg,hwd⟩:=hW;have hbl:b<w.heap.size:=by rcases h with h|h<;>exact h.lt
 have hd0:=hwd 2 (by omega);obtain⟨u,hu⟩:∃u:ByteArray,u=⟨(HE.getD 2 []).toArray⟩:=⟨_,rfl⟩;have hul:u.size<=5:=by rw[hu];decide
 have huw:u.data.toList=Y8 2:=by rw[hu];rfl
 rw[←hu]at hd0;clear hu hwd;have hau:(tn++⟨#[58]⟩++u:ByteArray).size<=tn.size+u.size+1:=by simp[zf0z];show tn.size+1+u.size<=tn.size+u.size+1;omega
 have hs1:(tn++⟨#[58]⟩:ByteArray).size=tn.size+1:=by rw[zf0z];rfl
 have e2:Lib.strCells (tn++⟨#[58]⟩++u)=Lib.byteCells (tn.data.toList++58::Y8 2):=by
  rw[Lib.strCells_eq,←huw];congr 1;simp
 obtain⟨W,hWe⟩:∃W,W=w.alloc (.cells #[.int .i64 2,.string tn,.int .i64 2,sl] 28):=⟨_,rfl⟩;have hbW:Below B w W.drew:=by
  rw[hWe];have k:=(Below.refl B w).alloc hBw (.cells #[.int .i64 2,.string tn,.int .i64 2,sl] 28);exact⟨k.os,k.tape,k.output,k.size,k.block⟩
 have hiW:Lib.IsBuilder 196 5 B b bs W.drew:=by rw[hWe];exact Bm h _
 have hapW:Apart 5 b w W.drew:=by rw[hWe];exact(Apart.alloc w _).drew
 have hg1:=(hbW.cell hgb).trans hg;have hd1:=(hbW.cell (p:=⟨wb,wo+2,none⟩) hwb).trans hd0;have hc:∀i,W.drew.cell? ⟨w.heap.size,i,none⟩=#[.int .i64 2,.string tn,.int .i64 2,sl][i]?:=λi=>by
  rw[hWe];exact Lib.cell_of_heap (w:=(w.alloc _).drew) (show (w.heap.push _)[w.heap.size]?=some (.cells _ 28 (0,0)) from zf1z) i
 have hc1:=hc 1;have hc2:=hc 2;clear hc
 go_enter Tryz.func126,Tryz.ntmps126
 go_wp2
 rw[←hWe];refine wp_region_still_tail 10 (by kernel_rfl) (by kernel_rfl) ?_;simp only[zf3z,zf8z,zf2z,zf7z];change wpStill _ _ W.drew (λa'=>wpList _ _ _ _ a' W.drew) _ _;generalize W.drew=W1 at *
 clear hWe
 repeat still_step
 refine wpStill_step (λK hK=>?_)
 go_simp
 rw[if_neg (by omega)];refine⟨rfl,hK _ ?_⟩;clear hK K
 repeat still_step
 refine wpStill_step (λK hK=>?_)
 go_simp
 rw[if_neg (by omega)];refine⟨rfl,hK _ ?_⟩;clear hK K;refine wpStill_nil ?_
 go_wp2_with (go_at_call 216;(refine(Tryz.bldWriteString B b bs _ _ hiW (by omega) (zf4z hBw hbW.size)).mono ?_;rintro e w2 ⟨rfl,h2,hb2,hap2⟩))
 refine bodyPost_ret (results_none rfl _ _ _) rfl ?_;refine⟨rfl,?_,hbW.trans hb2,hapW.trans hap2⟩;rw[e2]at h2;exact h2
set_option maxHeartbeats 8000000 in
set_option maxRecDepth 100000 in
theorem Tryz.write_atom3(B b:Nat)(bs:List Value)(tn:ByteArray)(sl:Value)(w:World)(h:Lib.IsBuilder 196 5 B b bs w)(J3:bs.length+tn.size+10<=140737488355328)(hBw:B<=w.heap.size)(hW:Hf B w) :
  Calls Tryz.prog 126 #[.pointer (some ⟨b,0,none⟩),.agg #[.int .i64 2,.string tn,.int .i64 3,sl]] w λe w'=>e=.returned (.tuple #[])/\(Lib.BuilderAt 196 5 B b (.pointer (some ⟨b,0,none⟩)) (bs++Lib.byteCells (tn.data.toList++58::Y8 3)) w'/\Below B w w'/\Apart 5 b w w'):=by
 obtain⟨wb,wo,cap,hwb,hgb,hg,hwd⟩:=hW;have hbl:b<w.heap.size:=by rcases h with h|h<;>exact h.lt
 have hd0:=hwd 3 (by omega);obtain⟨u,hu⟩:∃u:ByteArray,u=⟨(HE.getD 3 []).toArray⟩:=⟨_,rfl⟩;have hul:u.size<=5:=by rw[hu];decide
 have huw:u.data.toList=Y8 3:=by rw[hu];rfl
 rw[←hu]at hd0;clear hu hwd;have hau:(tn++⟨#[58]⟩++u:ByteArray).size<=tn.size+u.size+1:=by simp[zf0z];show tn.size+1+u.size<=tn.size+u.size+1;omega
 have hs1:(tn++⟨#[58]⟩:ByteArray).size=tn.size+1:=by rw[zf0z];rfl
 have e2:Lib.strCells (tn++⟨#[58]⟩++u)=Lib.byteCells (tn.data.toList++58::Y8 3):=by
  rw[Lib.strCells_eq,←huw];congr 1;simp
 obtain⟨W,hWe⟩:∃W,W=w.alloc (.cells #[.int .i64 2,.string tn,.int .i64 3,sl] 28):=⟨_,rfl⟩;have hbW:Below B w W.drew:=by
  rw[hWe];have k:=(Below.refl B w).alloc hBw (.cells #[.int .i64 2,.string tn,.int .i64 3,sl] 28);exact⟨k.os,k.tape,k.output,k.size,k.block⟩
 have hiW:Lib.IsBuilder 196 5 B b bs W.drew:=by rw[hWe];exact Bm h _
 have hapW:Apart 5 b w W.drew:=by rw[hWe];exact(Apart.alloc w _).drew
 have hg1:=(hbW.cell hgb).trans hg;have hd1:=(hbW.cell (p:=⟨wb,wo+3,none⟩) hwb).trans hd0;have hc:∀i,W.drew.cell? ⟨w.heap.size,i,none⟩=#[.int .i64 2,.string tn,.int .i64 3,sl][i]?:=λi=>by
  rw[hWe];exact Lib.cell_of_heap (w:=(w.alloc _).drew) (show (w.heap.push _)[w.heap.size]?=some (.cells _ 28 (0,0)) from zf1z) i
 have hc1:=hc 1;have hc2:=hc 2;clear hc
 go_enter Tryz.func126,Tryz.ntmps126
 go_wp2
 rw[←hWe];refine wp_region_still_tail 10 (by kernel_rfl) (by kernel_rfl) ?_;simp only[zf3z,zf8z,zf2z,zf7z];change wpStill _ _ W.drew (λa'=>wpList _ _ _ _ a' W.drew) _ _;generalize W.drew=W1 at *
 clear hWe
 repeat still_step
 refine wpStill_step (λK hK=>?_)
 go_simp
 rw[if_neg (by omega)];refine⟨rfl,hK _ ?_⟩;clear hK K
 repeat still_step
 refine wpStill_step (λK hK=>?_)
 go_simp
 rw[if_neg (by omega)];refine⟨rfl,hK _ ?_⟩;clear hK K;refine wpStill_nil ?_
 go_wp2_with (go_at_call 216;(refine(Tryz.bldWriteString B b bs _ _ hiW (by omega) (zf4z hBw hbW.size)).mono ?_;rintro e w2 ⟨rfl,h2,hb2,hap2⟩))
 refine bodyPost_ret (results_none rfl _ _ _) rfl ?_;refine⟨rfl,?_,hbW.trans hb2,hapW.trans hap2⟩;rw[e2]at h2;exact h2
set_option maxHeartbeats 8000000 in
set_option maxRecDepth 100000 in
theorem Tryz.write_atom4(B b:Nat)(bs:List Value)(tn:ByteArray)(sl:Value)(w:World)(h:Lib.IsBuilder 196 5 B b bs w)(J3:bs.length+tn.size+10<=140737488355328)(hBw:B<=w.heap.size)(hW:Hf B w) :
  Calls Tryz.prog 126 #[.pointer (some ⟨b,0,none⟩),.agg #[.int .i64 2,.string tn,.int .i64 4,sl]] w λe w'=>e=.returned (.tuple #[])/\(Lib.BuilderAt 196 5 B b (.pointer (some ⟨b,0,none⟩)) (bs++Lib.byteCells (tn.data.toList++58::Y8 4)) w'/\Below B w w'/\Apart 5 b w w'):=by
 obtain⟨wb,wo,cap,hwb,hgb,hg,hwd⟩:=hW;have hbl:b<w.heap.size:=by rcases h with h|h<;>exact h.lt
 have hd0:=hwd 4 (by omega);obtain⟨u,hu⟩:∃u:ByteArray,u=⟨(HE.getD 4 []).toArray⟩:=⟨_,rfl⟩;have hul:u.size<=5:=by rw[hu];decide
 have huw:u.data.toList=Y8 4:=by rw[hu];rfl
 rw[←hu]at hd0;clear hu hwd;have hau:(tn++⟨#[58]⟩++u:ByteArray).size<=tn.size+u.size+1:=by simp[zf0z];show tn.size+1+u.size<=tn.size+u.size+1;omega
 have hs1:(tn++⟨#[58]⟩:ByteArray).size=tn.size+1:=by rw[zf0z];rfl
 have e2:Lib.strCells (tn++⟨#[58]⟩++u)=Lib.byteCells (tn.data.toList++58::Y8 4):=by
  rw[Lib.strCells_eq,←huw];congr 1;simp
 obtain⟨W,hWe⟩:∃W,W=w.alloc (.cells #[.int .i64 2,.string tn,.int .i64 4,sl] 28):=⟨_,rfl⟩;have hbW:Below B w W.drew:=by
  rw[hWe];have k:=(Below.refl B w).alloc hBw (.cells #[.int .i64 2,.string tn,.int .i64 4,sl] 28);exact⟨k.os,k.tape,k.output,k.size,k.block⟩
 have hiW:Lib.IsBuilder 196 5 B b bs W.drew:=by rw[hWe];exact Bm h _
 have hapW:Apart 5 b w W.drew:=by rw[hWe];exact(Apart.alloc w _).drew
 have hg1:=(hbW.cell hgb).trans hg;have hd1:=(hbW.cell (p:=⟨wb,wo+4,none⟩) hwb).trans hd0;have hc:∀i,W.drew.cell? ⟨w.heap.size,i,none⟩=#[.int .i64 2,.string tn,.int .i64 4,sl][i]?:=λi=>by
  rw[hWe];exact Lib.cell_of_heap (w:=(w.alloc _).drew) (show (w.heap.push _)[w.heap.size]?=some (.cells _ 28 (0,0)) from zf1z) i
 have hc1:=hc 1;have hc2:=hc 2;clear hc
 go_enter Tryz.func126,Tryz.ntmps126
 go_wp2
 rw[←hWe];refine wp_region_still_tail 10 (by kernel_rfl) (by kernel_rfl) ?_;simp only[zf3z,zf8z,zf2z,zf7z];change wpStill _ _ W.drew (λa'=>wpList _ _ _ _ a' W.drew) _ _;generalize W.drew=W1 at *
 clear hWe
 repeat still_step
 refine wpStill_step (λK hK=>?_)
 go_simp
 rw[if_neg (by omega)];refine⟨rfl,hK _ ?_⟩;clear hK K
 repeat still_step
 refine wpStill_step (λK hK=>?_)
 go_simp
 rw[if_neg (by omega)];refine⟨rfl,hK _ ?_⟩;clear hK K;refine wpStill_nil ?_
 go_wp2_with (go_at_call 216;(refine(Tryz.bldWriteString B b bs _ _ hiW (by omega) (zf4z hBw hbW.size)).mono ?_;rintro e w2 ⟨rfl,h2,hb2,hap2⟩))
 refine bodyPost_ret (results_none rfl _ _ _) rfl ?_;refine⟨rfl,?_,hbW.trans hb2,hapW.trans hap2⟩;rw[e2]at h2;exact h2
set_option maxHeartbeats 8000000 in
set_option maxRecDepth 100000 in
theorem Tryz.write_atom5(B b:Nat)(bs:List Value)(tn:ByteArray)(sl:Value)(w:World)(h:Lib.IsBuilder 196 5 B b bs w)(J3:bs.length+tn.size+10<=140737488355328)(hBw:B<=w.heap.size)(hW:Hf B w) :
  Calls Tryz.prog 126 #[.pointer (some ⟨b,0,none⟩),.agg #[.int .i64 2,.string tn,.int .i64 5,sl]] w λe w'=>e=.returned (.tuple #[])/\(Lib.BuilderAt 196 5 B b (.pointer (some ⟨b,0,none⟩)) (bs++Lib.byteCells (tn.data.toList++58::Y8 5)) w'/\Below B w w'/\Apart 5 b w w'):=by
 obtain⟨wb,wo,cap,hwb,hgb,hg,hwd⟩:=hW;have hbl:b<w.heap.size:=by rcases h with h|h<;>exact h.lt
 have hd0:=hwd 5 (by omega);obtain⟨u,hu⟩:∃u:ByteArray,u=⟨(HE.getD 5 []).toArray⟩:=⟨_,rfl⟩;have hul:u.size<=5:=by rw[hu];decide
 have huw:u.data.toList=Y8 5:=by rw[hu];rfl
 rw[←hu]at hd0;clear hu hwd;have hau:(tn++⟨#[58]⟩++u:ByteArray).size<=tn.size+u.size+1:=by simp[zf0z];show tn.size+1+u.size<=tn.size+u.size+1;omega
 have hs1:(tn++⟨#[58]⟩:ByteArray).size=tn.size+1:=by rw[zf0z];rfl
 have e2:Lib.strCells (tn++⟨#[58]⟩++u)=Lib.byteCells (tn.data.toList++58::Y8 5):=by
  rw[Lib.strCells_eq,←huw];congr 1;simp
 obtain⟨W,hWe⟩:∃W,W=w.alloc (.cells #[.int .i64 2,.string tn,.int .i64 5,sl] 28):=⟨_,rfl⟩;have hbW:Below B w W.drew:=by
  rw[hWe];have k:=(Below.refl B w).alloc hBw (.cells #[.int .i64 2,.string tn,.int .i64 5,sl] 28);exact⟨k.os,k.tape,k.output,k.size,k.block⟩
 have hiW:Lib.IsBuilder 196 5 B b bs W.drew:=by rw[hWe];exact Bm h _
 have hapW:Apart 5 b w W.drew:=by rw[hWe];exact(Apart.alloc w _).drew
 have hg1:=(hbW.cell hgb).trans hg;have hd1:=(hbW.cell (p:=⟨wb,wo+5,none⟩) hwb).trans hd0;have hc:∀i,W.drew.cell? ⟨w.heap.size,i,none⟩=#[.int .i64 2,.string tn,.int .i64 5,sl][i]?:=λi=>by
  rw[hWe];exact Lib.cell_of_heap (w:=(w.alloc _).drew) (show (w.heap.push _)[w.heap.size]?=some (.cells _ 28 (0,0)) from zf1z) i
 have hc1:=hc 1;have hc2:=hc 2;clear hc
 go_enter Tryz.func126,Tryz.ntmps126
 go_wp2
 rw[←hWe];refine wp_region_still_tail 10 (by kernel_rfl) (by kernel_rfl) ?_;simp only[zf3z,zf8z,zf2z,zf7z];change wpStill _ _ W.drew (λa'=>wpList _ _ _ _ a' W.drew) _ _;generalize W.drew=W1 at *
 clear hWe
 repeat still_step
 refine wpStill_step (λK hK=>?_)
 go_simp
 rw[if_neg (by omega)];refine⟨rfl,hK _ ?_⟩;clear hK K
 repeat still_step
 refine wpStill_step (λK hK=>?_)
 go_simp
 rw[if_neg (by omega)];refine⟨rfl,hK _ ?_⟩;clear hK K;refine wpStill_nil ?_
 go_wp2_with (go_at_call 216;(refine(Tryz.bldWriteString B b bs _ _ hiW (by omega) (zf4z hBw hbW.size)).mono ?_;rintro e w2 ⟨rfl,h2,hb2,hap2⟩))
 refine bodyPost_ret (results_none rfl _ _ _) rfl ?_;refine⟨rfl,?_,hbW.trans hb2,hapW.trans hap2⟩;rw[e2]at h2;exact h2
end Go.Proofs
