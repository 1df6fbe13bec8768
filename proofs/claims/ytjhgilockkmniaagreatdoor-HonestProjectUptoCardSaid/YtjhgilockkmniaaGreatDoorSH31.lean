/- A part of the proof. -/
import Derived.Test.YtjhgilockkmniaaGreatDoorSH29
import Derived.Shelf.Strings.Builder1
import Derived.Test.YtjhgilockkmniaaGreatDoorProg
import Derived.KernelRfl
import Derived.WalkKit
import Derived.Deep.RegionWith
import Derived.Deep.QuietTactic
import Derived.BigQuiet
set_option linter.all false
open ByteArray renaming size_append->zf0z
open List renaming length_append->zf1z,append_assoc->zf2z,length->zf6z
open Array renaming getElem?_eq_none->zf3z
open Nat renaming le_refl->zf4z,lt_or_ge->zf5z
namespace Go.Abs.Q
open Go.Proofs
attribute [local simp] D3 D6 fin H4 G2 Bd Bc
theorem Ww:∀(n:Nat) (t:Tm),t.size<=n->(Km t).size=t.size:=by
 intro n
 induction n with
 |zero=>intro t h;have:=t.size_pos;omega
 |succ n ih =>
  intro t hn;obtain⟨k,nm,s,m,l⟩:=t;have K3:Tm.size (.mk k nm s m l)=1+Tm.sizes l:=rfl;have:∀l:List Tm,Tm.sizes l<=n->Tm.sizes (Cr l)=Tm.sizes l:=by
   intro l
   induction l with
   |nil=>intro _;rfl
   |cons a l ihl =>
    intro h;simp only[Tm.sizes]at h;simp only[Cr,Tm.sizes,ih a (by omega),ihl (by omega)]
  rw[Km,Tm.size,this l (by omega),K3]
theorem OC:∀(l:Hm),Tm.sizes (Cr l)=Tm.sizes l
 | []=>rfl
 |t::l=>by simp only[Cr,Tm.sizes,Ww _ t (zf4z _),OC l]
theorem TZ (l:List UInt8):Op.bytesLess l l=false:=by
 induction l with
 |nil=>rfl
 |cons a l ih=>simp[Op.bytesLess,ih]
theorem Xx (a:Int):Ey a a=0:=by simp[Ey]
theorem Xv (a:Q1):Q7 a a=0:=by simp[Q7,TZ]
theorem eV:∀(n:Nat) (a b:Tm),a.size<=n->Km a=Km b->GD a b=0:=by
 intro n
 induction n with
 |zero=>intro t _ h;have:=t.size_pos;omega
 |succ n ih =>
  intro a b hn he;obtain⟨k,nm,s,m,l⟩:=a;obtain⟨k',nm',s',m',l'⟩:=b;have K3:Tm.size (.mk k nm s m l)=1+Tm.sizes l:=rfl;simp only[Km,Tm.mk.injEq]at he;obtain⟨rfl,rfl,rfl,_,hl⟩:=he;have h1:Tm.sizes l=Tm.sizes l':=by rw[←OC l,hl,OC]
  have h2:l.length=l'.length:=by
   have:=congrArg zf6z hl;simpa[EV]using this
  have:∀l l':List Tm,Tm.sizes l<=n->Cr l=Cr l'->GO l l'=0:=by
   intro l
   induction l with
   |nil=>intro l' _ h;exact MA l'
   |cons a l ihl =>
    intro l' hs h;cases l' with
    |nil=>simp[Cr]at h
    |cons b l' =>
     simp only[Cr,List.cons.injEq]at h;simp only[Tm.sizes]at hs;simp[GO,nz,ih a b (by omega) h.1,ihl l' (by omega) h.2]
  simp[GD,nz,Xx,Xv,h1,h2,this l l' (by omega) hl]
theorem XI {a b:Int}:nz a b=0↔a=0/\b=0:=by
 unfold nz;split<;>simp_all
theorem Xy {a b:Int}:Ey a b=0↔a=b:=by
 unfold Ey;split
 .constructor<;>intro h<;>omega
 .split<;>constructor<;>intro h<;>omega
theorem Xw {a b:Q1}:Q7 a b=0↔a=b:=by
 unfold Q7;split
 .rename_i h;constructor
  .intro e;omega
  .intro e;subst e;rw[TZ]at h;cases h
 .split
  .rename_i h;simp[(Bd a b).1 h]
  .rename_i h;constructor
   .intro e;omega
   .intro e;exact absurd (by rw[e]) h
theorem ey:∀(n:Nat) (a b:Tm),a.size<=n->GD a b=0->Km a=Km b:=by
 intro n
 induction n with
 |zero=>intro a _ h;have:=a.size_pos;omega
 |succ n ih =>
  intro a b hn h;obtain⟨k,nm,s,m,l⟩:=a;obtain⟨k',nm',s',m',l'⟩:=b;have K3:Tm.size (.mk k nm s m l)=1+Tm.sizes l:=rfl;simp only[GD,XI,Xy,Xw]at h;obtain⟨_,rfl,rfl,rfl,h1,h2⟩:=h;have e1:l.length=l'.length:=by omega
  have:∀l l':List Tm,Tm.sizes l<=n->l.length=l'.length->GO l l'=0->Cr l=Cr l':=by
   intro l
   induction l with
   |nil=>intro l' _ h1 _;rw[List.eq_nil_of_length_eq_zero h1.symm]
   |cons a l ihl =>
    intro l' hs h1 h2;cases l' with
    |nil=>simp at h1
    |cons b l' =>
     simp only[Tm.sizes]at hs;simp only[GO,XI]at h2;simp only[Cr,ih a b (by omega) h2.1,ihl l' (by omega) (by simpa using h1) h2.2]
  simp only[Km,this l l' (by omega) e1 h2]
theorem ak {a b:Tm}:GD a b=0↔Km a=Km b:=⟨ey _ a b (zf4z _),eV _ a b (zf4z _)⟩
theorem dU (f:ByteArray->Int):∀(N:Nat) (t:Tm),t.size<=N->(HM f t).size=t.size:=by
 intro N
 induction N with
 |zero=>intro t h;have:=t.size_pos;omega
 |succ N ih =>
  intro t h;obtain⟨k,nm,s,m,l⟩:=t;have e:Tm.size (.mk k nm s m l)=1+Tm.sizes l:=rfl;have key:∀l:List Tm,Tm.sizes l<=N->Tm.sizes (BS f l)=Tm.sizes l:=by
   intro l
   induction l with
   |nil=>intro _;rfl
   |cons a l ihl =>
    intro hl;simp only[Tm.sizes]at hl;simp only[BS,Tm.sizes];rw[ih a (by omega),ihl (by omega)]
  show Tm.size (.mk k nm _ (false,false) (BS f l))=_;rw[Tm.size,key l (by omega),e]
theorem ew {a b:Ste} (h:OB a=OB b):bJ a b=true:=by
 obtain⟨f,t,m,l⟩:=a;obtain⟨f',t',m',l'⟩:=b;simp only[OB,Ste.mk.injEq]at h;obtain⟨rfl,rfl,h,-⟩:=h;simp[bJ,mi,ak.2 h]
theorem TB:∀{l l':List Ste},l.map OB=l'.map OB->Ft l l'=true
 | [],[],_=>rfl
 |a::l,b::l',h=>by
  simp only[List.map_cons,List.cons.injEq]at h;simp[Ft,ew h.1,TB h.2]
 | [],_::_,h=>by simp at h
 |_::_,[],h=>by simp at h
theorem Qg {n:Nar} (F:Fine n) {role:Int} {l:List Ste} (h:l.map OB=Gd n role):(∀s∈l,s.msg.size<=1099511627776)/\l.length<=n.steps.length:=by
 have hL:∀x∈Gd n role,x.msg.size<=1099511627776:=λx hx=>by
  unfold Gd at hx;split at hx
  .obtain⟨s,hs,rfl⟩:=List.mem_map.1 (List.mem_filter.1 hx).1;have:=(F.steps s hs).2.2;show (HM _ s.msg).size<=_;rw[dU _ _ _ (zf4z _)];exact this
  .cases hx
 constructor
 .intro s hs;have:=hL (OB s) (by rw[←h];exact List.mem_map_of_mem hs);rw[←Ww _ s.msg (zf4z _)];exact this
 .have h1:=congrArg zf6z h;rw[List.length_map]at h1;rw[h1];unfold Gd;split
  .exact Nat.le_trans (List.length_filter_le _ _) (by simp)
  .simp
end Go.Abs.Q
set_option linter.unusedVariables false
namespace Go.Proofs
open Go.Shelf Go.RowKit
variable {P:Program} {ρ:Ren}
def N9 (T:TypeId) (b:Nat) (w w':World):Prop:=∀k,k<w.heap.size->k≠b->(∀cs fr,w.heap[k]?≠some (.cells cs T fr))->w'.heap[k]?=w.heap[k]?
theorem Hw (w:World) (a:Addr) (v:Value) {k:Nat} (h:a.block≠k):(w.setCell a v).heap[k]?=w.heap[k]?:=by
 unfold World.setCell;split<;>simp_all [Array.getElem?_modify]
theorem gb (L:Lays.n240 P ρ) (X:Builder.X72 P ρ) (B b:Nat) (bs:List Value) (w:World) (h:Lib.IsBuilder (ρ.t 72) (ρ.t 5) B b bs w) :
  Calls P (ρ.f 240) #[.pointer (some ⟨b,0,none⟩)] w λe w'=>e=.returned (.tuple #[])/\(Lib.BuilderAt (ρ.t 72) (ρ.t 5) B b (.pointer (some ⟨b,0,none⟩)) bs w'/\Below B w w'/\N9 (ρ.t 5) b w w'):=by
 rcases h with h|h
 .refine(Any.Builder_copyCheck_fresh L X b w h.cell0 h.shape h.frozen0).mono ?_;rintro e w' ⟨rfl,rfl⟩;exact⟨rfl,h.used _,(Below.refl B w).setCell (p:=⟨b,0,none⟩) h.1 _,λk _ hk _=>Hw _ _ _ (Ne.symm hk)⟩
 .refine(Any.Builder_copyCheck_used L X b w h.cell0).mono ?_;rintro e w' ⟨rfl,rfl⟩;exact⟨rfl,h,Below.refl B _,λ_ _ _ _=>rfl⟩
set_option maxHeartbeats 2000000 in
set_option maxRecDepth 100000 in
theorem lm (L:Lays.n166 P ρ) (X:Builder.Extra P ρ) (B b:Nat) (bs:List Value) (s:ByteArray) (w:World) (h:Lib.IsBuilder (ρ.t 72) (ρ.t 5) B b bs w) (C4:bs.length+s.size<=140737488355328) (hBw:B<=w.heap.size) :
  Calls P (ρ.f 166) #[.pointer (some ⟨b,0,none⟩),.string s] w λe w'=>e=.returned (.tuple #[.int .i64 s.size,.nilIface])/\(Lib.BuilderAt (ρ.t 72) (ρ.t 5) B b (.pointer (some ⟨b,0,none⟩)) (bs++Lib.strCells s) w'/\Below B w w'/\N9 (ρ.t 5) b w w'):=by
 obtain⟨i0,hi,hz0,hz1,hz2⟩:=info_parts X.infoByte;have mixed:=L.mixed;have t72:=L.t72;have a72:=L.a72;have z72:=L.z72;have v72:=L.v72;have u72:=run_underlying L.t72;have t70:=L.t70;have a70:=L.a70;have z70:=L.z70;have v70:=L.v70;have u70:=run_underlying L.t70;have t37:=L.t37;have a37:=L.a37;have z37:=L.z37;have v37:=L.v37;have u37:=run_underlying L.t37;have t3:=L.t3;have a3:=L.a3;have z3:=L.z3;have v3:=L.v3;have u3:=run_underlying L.t3;have t9:=L.t9;have a9:=L.a9;have z9:=L.z9;have v9:=L.v9;have u9:=run_underlying L.t9;have t4:=L.t4;have a4:=L.a4;have z4:=L.z4;have v4:=L.v4;have u4:=run_underlying L.t4;have t164:=L.t164;have a164:=L.a164;have z164:=L.z164;have v164:=L.v164;have u164:=run_underlying L.t164;have t5:=X.t5;have a5:=X.a5;have z5:=X.z5;have v5:=X.v5;have u5:=run_underlying X.t5;have e240:∀args w,(callFunc (ρ.f 240) args).run P w=.ok (.enter (ρ.f 240) args) w:=enters_of L.f240 (by kernel_rfl) rfl
 go_enter L.f166,Body.n166_ntmps ρ
 go_wp2_with (go_at_fn (ρ.f 240);refine(gb {L with} X.toX72 B b bs _ h).mono ?_)
 rintro e w1 ⟨rfl,h1,hb1,hap⟩;obtain⟨hB,v,hbk,hown,S6⟩:=h1;have c0:w1.cell? ⟨b,0,none⟩=some (.pointer (some ⟨b,0,none⟩)):=by rw[Lib.cell_of_heap hbk];rfl
 have c1:w1.cell? ⟨b,1,none⟩=some v:=by rw[Lib.cell_of_heap hbk];rfl
 go_wp2_with (at_builtin;refine Lib.wpList_append_own_string _ rfl _ _ (ρ.t 37) (ρ.t 9) rfl B (ρ.t 5) i0 L.t37 L.t9 hi hz0 hz1 hz2 _ _ _ rfl hown s rfl ?c3 ?c4 ?c5 ?_)
 case c3=>unfold maxLen;omega
 case c4=>omega
 case c5=>have:=hb1.size;omega
 intro v' w2 hown' hgrow _;have A9:b<w1.heap.size:=by
  rcases zf5z b w1.heap.size with h' | h'
  .exact h'
  .simp[zf3z h']at hbk
 have hb2:w2.heap[b]?=some (.cells #[.pointer (some ⟨b,0,none⟩),v] (ρ.t 72) (0,0)):=by
  rw[hgrow.block b A9 (λe=>S6 e.symm)];exact hbk
 have d0:w2.cell? ⟨b,0,none⟩=some (.pointer (some ⟨b,0,none⟩)):=by rw[Lib.cell_of_heap hb2];rfl
 have d1:w2.cell? ⟨b,1,none⟩=some v:=by rw[Lib.cell_of_heap hb2];rfl
 have f1:w2.frozen? ⟨b,1,none⟩=false:=Lib.frozen_of_heap hb2 1;obtain⟨ao,n',cap,rfl⟩:∃ao n' cap,v'=.slice ao n' cap:=by
  rcases hown'.2 with ⟨hv,_⟩|⟨g,cap,cur,hv,_⟩
  .exact⟨_,_,_,hv⟩
  .exact⟨_,_,_,hv⟩
 go_wp2
 go_ret2
 refine⟨rfl,?_,?_,?_⟩
 .exact Lib.BuilderAt.put (T:=(ρ.t 72)) (e:=(ρ.t 5)) hB hb2 (bs':=bs++Lib.strCells s) (by simpa[Lib.strCells_length]using hown') X.neB5
 .exact(hb1.grown hgrow (by have:=hb1.size;omega) (λk hk=>(hown.lt k hk).1)).setCell (p:=⟨b,1,none⟩) hB _
 .intro k hk hkb hT;have e1:=hap k hk hkb hT;have hk1:k<w1.heap.size:=by have:=hb1.size;omega
  have hne':∀g,v.ownBlock=some g->k≠g:=by
   rintro g hg rfl;rcases hown.2 with ⟨hv,_⟩|⟨g',cap',cur,hv,_,hgc,_⟩
   .rw[hv]at hg;cases hg
   .rw[hv]at hg;cases hg;exact hT _ _ (e1.symm.trans hgc)
  have e2:w2.heap[k]?=w1.heap[k]?:=hgrow.block k hk1 (λe=>hne' _ e.symm rfl);have e3:(w2.setCell ⟨b,1,none⟩ (.slice ao n' cap)).heap[k]?=w2.heap[k]?:=Hw _ _ _ (Ne.symm hkb);exact e3.trans (e2.trans e1)
set_option maxHeartbeats 2000000 in
set_option maxRecDepth 100000 in
theorem ll (L:Lays.n167 P ρ) (X:Builder.Extra P ρ) (B b:Nat) (bs:List Value) (c:Int) (w:World) (h:Lib.IsBuilder (ρ.t 72) (ρ.t 5) B b bs w) (C4:bs.length+1<=140737488355328) (hBw:B<=w.heap.size) :
  Calls P (ρ.f 167) #[.pointer (some ⟨b,0,none⟩),.int .u8 c] w λe w'=>e=.returned .nilIface/\(Lib.BuilderAt (ρ.t 72) (ρ.t 5) B b (.pointer (some ⟨b,0,none⟩)) (bs++[.int .u8 c]) w'/\Below B w w'/\N9 (ρ.t 5) b w w'):=by
 obtain⟨i0,hi,hz0,hz1,hz2⟩:=info_parts X.infoByte;have mixed:=L.mixed;have t72:=L.t72;have a72:=L.a72;have z72:=L.z72;have v72:=L.v72;have u72:=run_underlying L.t72;have t70:=L.t70;have a70:=L.a70;have z70:=L.z70;have v70:=L.v70;have u70:=run_underlying L.t70;have t5:=L.t5;have a5:=L.a5;have z5:=L.z5;have v5:=L.v5;have u5:=run_underlying L.t5;have t37:=L.t37;have a37:=L.a37;have z37:=L.z37;have v37:=L.v37;have u37:=run_underlying L.t37;have t9:=L.t9;have a9:=L.a9;have z9:=L.z9;have v9:=L.v9;have u9:=run_underlying L.t9;have t4:=L.t4;have a4:=L.a4;have z4:=L.z4;have v4:=L.v4;have u4:=run_underlying L.t4;have t164:=L.t164;have a164:=L.a164;have z164:=L.z164;have v164:=L.v164;have u164:=run_underlying L.t164;have e240:∀args w,(callFunc (ρ.f 240) args).run P w=.ok (.enter (ρ.f 240) args) w:=enters_of L.f240 (by kernel_rfl) rfl
 go_enter L.f167,Body.n167_ntmps ρ
 go_wp2_with (go_at_fn (ρ.f 240);refine(gb {L with} X.toX72 B b bs _ h).mono ?_)
 rintro e w1 ⟨rfl,h1,hb1,hap⟩;obtain⟨hB,v,hbk,hown,S6⟩:=h1;have c0:w1.cell? ⟨b,0,none⟩=some (.pointer (some ⟨b,0,none⟩)):=by rw[Lib.cell_of_heap hbk];rfl
 have c1:w1.cell? ⟨b,1,none⟩=some v:=by rw[Lib.cell_of_heap hbk];rfl
 go_wp2_with (at_builtin;refine wpList_append_own _ rfl _ _ (ρ.t 37) rfl B (ρ.t 5) i0 (.int .u8 0) 1 1 L.t37 hi hz0 hz1 hz2 rfl (by decide) _ _ _ rfl (hown.alloc _) ⟨w1.heap.size,0,none⟩ 1 1 [.int .u8 c] rfl rfl ?c1 ?c2 ?c3 ?c4 ?c5 ?_)
 case c1 =>
  intro j u hj
  match j,hj with
  |0,hj=>simp at hj;subst hj;simp[Addr.add]
 case c2=>intro u hu;simp at hu;subst hu;rfl
 case c3=>unfold maxLen;omega
 case c4=>omega
 case c5=>have:=hb1.size;simp;omega
 intro v' w2 hown' hgrow _;have A9:b<w1.heap.size:=by
  rcases zf5z b w1.heap.size with h' | h'
  .exact h'
  .simp[zf3z h']at hbk
 have hb2:w2.heap[b]?=some (.cells #[.pointer (some ⟨b,0,none⟩),v] (ρ.t 72) (0,0)):=by
  rw[hgrow.block b (by simp;omega) (λe=>S6 e.symm),Lib.alloc_old w1 _ b A9];exact hbk
 have d0:w2.cell? ⟨b,0,none⟩=some (.pointer (some ⟨b,0,none⟩)):=by rw[Lib.cell_of_heap hb2];rfl
 have d1:w2.cell? ⟨b,1,none⟩=some v:=by rw[Lib.cell_of_heap hb2];rfl
 have f1:w2.frozen? ⟨b,1,none⟩=false:=Lib.frozen_of_heap hb2 1;obtain⟨g,cap,rfl⟩:∃g cap,v'=.slice (some ⟨g,0,none⟩) (bs.length+1) cap:=by
  rcases hown'.2 with ⟨_,h0⟩|⟨g,cap,cur,hv,_⟩
  .omega
  .exact⟨g,cap,hv⟩
 go_wp2
 go_ret
 refine⟨rfl,?_,?_,?_⟩
 .exact Lib.BuilderAt.put (T:=(ρ.t 72)) (e:=(ρ.t 5)) hB hb2 (bs':=bs++[.int .u8 c]) (by simpa using hown') X.neB5
 .exact((hb1.alloc (by have:=hb1.size;omega) _).grown hgrow (by have:=hb1.size;simp;omega) (λk hk=>(hown.lt k hk).1)).setCell (p:=⟨b,1,none⟩) hB _
 .intro k hk hkb hT;have e1:=hap k hk hkb hT;have hk1:k<w1.heap.size:=by have:=hb1.size;omega
  have hne':∀g,v.ownBlock=some g->k≠g:=by
   rintro g hg rfl;rcases hown.2 with ⟨hv,_⟩|⟨g',cap',cur,hv,_,hgc,_⟩
   .rw[hv]at hg;cases hg
   .rw[hv]at hg;cases hg;exact hT _ _ (e1.symm.trans hgc)
  have e2:w2.heap[k]?=w1.heap[k]?:=(hgrow.block k (by simp;omega) (λe=>hne' _ e.symm rfl)).trans (Lib.alloc_old w1 _ k hk1);have e3:(w2.setCell ⟨b,1,none⟩ (.slice (some ⟨g,0,none⟩) (bs.length+1) cap)).heap[k]?=w2.heap[k]?:=Hw _ _ _ (Ne.symm hkb);exact e3.trans (e2.trans e1)
end Go.Proofs
namespace Go.Proofs
open Go.Shelf Go.RowKit
def Tryz.bld_ren:Go.Shelf.Ren:=⟨fun|240=>347|276=>377|166=>300|167=>301|169=>254|n=>n,fun|0=>0|3=>3|4=>4|5=>5|9=>9|20=>20|37=>194|70=>308|72=>310|75=>348|80=>312|164=>399|127=>352|n=>n,fun|n=>n⟩
theorem Tryz.bldLays166:Go.Proofs.Lays.n166 Tryz.prog Tryz.bld_ren:={
 mixed:=by kernel_rfl
 f166:=Tryz.func300.trans (congrArg some (by kernel_rfl))
 f240:=Tryz.func347.trans (congrArg some (by kernel_rfl))
 f276:=Tryz.func377.trans (congrArg some (by kernel_rfl))
 t0:=Tryz.underlying0
 a0:=Tryz.isAgg0
 z0:=Tryz.sizeOf0
 v0:=Tryz.zeroValue0
 t3:=Tryz.underlying3
 a3:=Tryz.isAgg3
 z3:=Tryz.sizeOf3
 v3:=Tryz.zeroValue3
 t4:=Tryz.underlying4
 a4:=Tryz.isAgg4
 z4:=Tryz.sizeOf4
 v4:=Tryz.zeroValue4
 t9:=Tryz.underlying9
 a9:=Tryz.isAgg9
 z9:=Tryz.sizeOf9
 v9:=Tryz.zeroValue9
 t20:=Tryz.underlying20
 a20:=Tryz.isAgg20
 z20:=Tryz.sizeOf20
 v20:=Tryz.zeroValue20
 t37:=Tryz.underlying194
 a37:=Tryz.isAgg194
 z37:=Tryz.sizeOf194
 v37:=Tryz.zeroValue194
 t70:=Tryz.underlying308
 a70:=Tryz.isAgg308
 z70:=Tryz.sizeOf308
 v70:=Tryz.zeroValue308
 t72:=Tryz.underlying310
 a72:=Tryz.isAgg310
 z72:=Tryz.sizeOf310
 v72:=Tryz.zeroValue310
 t75:=Tryz.underlying348
 a75:=Tryz.isAgg348
 z75:=Tryz.sizeOf348
 v75:=Tryz.zeroValue348
 t164:=Tryz.underlying399
 a164:=Tryz.isAgg399
 z164:=Tryz.sizeOf399
 v164:=Tryz.zeroValue399}
theorem Tryz.bldLays167:Go.Proofs.Lays.n167 Tryz.prog Tryz.bld_ren:={
 mixed:=by kernel_rfl
 f167:=Tryz.func301.trans (congrArg some (by kernel_rfl))
 f240:=Tryz.func347.trans (congrArg some (by kernel_rfl))
 f276:=Tryz.func377.trans (congrArg some (by kernel_rfl))
 t0:=Tryz.underlying0
 a0:=Tryz.isAgg0
 z0:=Tryz.sizeOf0
 v0:=Tryz.zeroValue0
 t4:=Tryz.underlying4
 a4:=Tryz.isAgg4
 z4:=Tryz.sizeOf4
 v4:=Tryz.zeroValue4
 t5:=Tryz.underlying5
 a5:=Tryz.isAgg5
 z5:=Tryz.sizeOf5
 v5:=Tryz.zeroValue5
 t9:=Tryz.underlying9
 a9:=Tryz.isAgg9
 z9:=Tryz.sizeOf9
 v9:=Tryz.zeroValue9
 t20:=Tryz.underlying20
 a20:=Tryz.isAgg20
 z20:=Tryz.sizeOf20
 v20:=Tryz.zeroValue20
 t37:=Tryz.underlying194
 a37:=Tryz.isAgg194
 z37:=Tryz.sizeOf194
 v37:=Tryz.zeroValue194
 t70:=Tryz.underlying308
 a70:=Tryz.isAgg308
 z70:=Tryz.sizeOf308
 v70:=Tryz.zeroValue308
 t72:=Tryz.underlying310
 a72:=Tryz.isAgg310
 z72:=Tryz.sizeOf310
 v72:=Tryz.zeroValue310
 t75:=Tryz.underlying348
 a75:=Tryz.isAgg348
 z75:=Tryz.sizeOf348
 v75:=Tryz.zeroValue348
 t164:=Tryz.underlying399
 a164:=Tryz.isAgg399
 z164:=Tryz.sizeOf399
 v164:=Tryz.zeroValue399}
theorem Tryz.bldLays169:Go.Proofs.Lays.n169 Tryz.prog Tryz.bld_ren:={
 mixed:=by kernel_rfl
 f169:=Tryz.func254.trans (congrArg some (by kernel_rfl))
 t0:=Tryz.underlying0
 a0:=Tryz.isAgg0
 z0:=Tryz.sizeOf0
 v0:=Tryz.zeroValue0
 t3:=Tryz.underlying3
 a3:=Tryz.isAgg3
 z3:=Tryz.sizeOf3
 v3:=Tryz.zeroValue3
 t9:=Tryz.underlying9
 a9:=Tryz.isAgg9
 z9:=Tryz.sizeOf9
 v9:=Tryz.zeroValue9
 t37:=Tryz.underlying194
 a37:=Tryz.isAgg194
 z37:=Tryz.sizeOf194
 v37:=Tryz.zeroValue194
 t70:=Tryz.underlying308
 a70:=Tryz.isAgg308
 z70:=Tryz.sizeOf308
 v70:=Tryz.zeroValue308
 t72:=Tryz.underlying310
 a72:=Tryz.isAgg310
 z72:=Tryz.sizeOf310
 v72:=Tryz.zeroValue310
 t127:=Tryz.underlying352
 a127:=Tryz.isAgg352
 z127:=Tryz.sizeOf352
 v127:=Tryz.zeroValue352}
theorem Tryz.bldExtra:Builder.Extra Tryz.prog Tryz.bld_ren:={
 sizeBuilder:=by kernel_rfl
 liesBuilder:=by kernel_rfl
 t5:=Tryz.underlying5
 a5:=Tryz.isAgg5
 z5:=Tryz.sizeOf5
 v5:=Tryz.zeroValue5
 infoByte:=by kernel_rfl
 cellsByte:=by kernel_rfl
 sizeByte:=by kernel_rfl
 neB5:=by decide}
theorem Tryz.bldWriteString (B b:Nat) (bs:List Value) (s:ByteArray) (w:World) (h:Lib.IsBuilder 310 5 B b bs w) (C4:bs.length+s.size<=140737488355328) (hBw:B<=w.heap.size) :
  Calls Tryz.prog 300 #[.pointer (some ⟨b,0,none⟩),.string s] w λe w'=>e=.returned (.tuple #[.int .i64 s.size,.nilIface])/\(Lib.BuilderAt 310 5 B b (.pointer (some ⟨b,0,none⟩)) (bs++Lib.strCells s) w'/\Below B w w'/\N9 5 b w w'):=lm Tryz.bldLays166 Tryz.bldExtra B b bs s w h C4 hBw
theorem Tryz.bldWriteByte (B b:Nat) (bs:List Value) (c:Int) (w:World) (h:Lib.IsBuilder 310 5 B b bs w) (C4:bs.length+1<=140737488355328) (hBw:B<=w.heap.size) :
  Calls Tryz.prog 301 #[.pointer (some ⟨b,0,none⟩),.int .u8 c] w λe w'=>e=.returned .nilIface/\(Lib.BuilderAt 310 5 B b (.pointer (some ⟨b,0,none⟩)) (bs++[.int .u8 c]) w'/\Below B w w'/\N9 5 b w w'):=ll Tryz.bldLays167 Tryz.bldExtra B b bs c w h C4 hBw
theorem Tryz.bldString (B b:Nat) (l:List UInt8) (w:World) (h:Lib.IsBuilder 310 5 B b (Lib.byteCells l) w) (hBw:B<=w.heap.size) :
  Calls Tryz.prog 254 #[.pointer (some ⟨b,0,none⟩)] w λe w'=>e=.returned (.string ⟨l.toArray⟩)/\Below B w w':=Any.Builder_String_any Tryz.bldLays169 Tryz.bldExtra B b l w h hBw
end Go.Proofs
namespace Go.Proofs
open Go.RowKit
theorem AE {T e:TypeId} {B b:Nat} {bs:List Value} {w:World} (h:Lib.IsBuilder T e B b bs w) (o:Obj):Lib.IsBuilder T e B b bs (w.alloc o):=by
 rcases h with h|h
 .have hl:=h.lt;obtain⟨h1,v,h2,h3,h4⟩:=h;exact .inl ⟨h1,v,by rw[Lib.alloc_old w o b hl];exact h2,h3.alloc _,h4⟩
 .have hl:=h.lt;obtain⟨h1,v,h2,h3,h4⟩:=h;exact .inr ⟨h1,v,by rw[Lib.alloc_old w o b hl];exact h2,h3.alloc _,h4⟩
theorem CT {T e:TypeId} {b:Nat} {w w1:World} {cs:Array Value} (hap:N9 e b (w.alloc (.cells cs T)) w1) (hb:b<w.heap.size) (hT:T≠e) (i:Nat):w1.cell? ⟨w.heap.size,i,none⟩=cs[i]?:=by
 have h2:(w.alloc (.cells cs T)).heap[w.heap.size]?=some (.cells cs T (0,0)):=by
  show (w.heap.push (.cells cs T (0,0)))[w.heap.size]?=_;exact Array.getElem?_push_size
 have h:=hap w.heap.size (by simp) (by omega) (by intro cs' fr h;rw[h2]at h;cases h;exact hT rfl);exact Lib.cell_of_heap (h.trans h2) i
set_option maxHeartbeats 2000000 in
set_option maxRecDepth 100000 in
theorem Tryz.write_var_any (B b:Nat) (bs:List Value) (tn:ByteArray) (sl:Value) (w:World) (h:Lib.IsBuilder 310 5 B b bs w) (C4:bs.length+tn.size+10<=140737488355328) (hBw:B<=w.heap.size) :
  Calls Tryz.prog 253 #[.pointer (some ⟨b,0,none⟩),.agg #[.int .i64 1,.string tn,.int .i64 0,sl]] w λe w'=>e=.returned (.tuple #[])/\(Lib.BuilderAt 310 5 B b (.pointer (some ⟨b,0,none⟩)) (bs++Lib.strCells (⟨#[63]⟩++tn)) w'/\Below B w w'/\N9 5 b w w'):=by
 go_enter Tryz.func253,Tryz.ntmps253
 have ha:(⟨#[63]⟩++tn:ByteArray).size<=tn.size+1:=by simp[zf0z];show 1+tn.size<=tn.size+1;omega
 go_wp2_with (go_at_call 300;refine(Tryz.bldWriteString B b bs _ _ (AE h _) (by omega) (by simp;omega)).mono ?_;rintro e w1 ⟨rfl,h1,hb1,hap⟩;have hc2:=CT hap (by rcases h with h|h<;>exact h.lt) (by decide) 2)
 refine bodyPost_ret (results_none rfl _ _ _) rfl ?_;exact⟨rfl,h1,(((Below.refl B w).alloc hBw _).trans hb1),λk hk hkb hT=>(hap k (by simp;omega) hkb (by rw[Lib.alloc_old w _ k hk];exact hT)).trans (Lib.alloc_old w _ k hk)⟩
end Go.Proofs
namespace Go.Abs
def HO:List (List UInt8):=[[97,110,121],[97,103,101,110,116],[110,111,110,99,101],[107,101,121],[100,97,116,97],[116,97,103]]
def uI (s:Int):List UInt8:=HO.getD s.toNat []
mutual
def Sb:Tm->List UInt8
 | .mk k n s _ l=>if k=1 then 63::n.data.toList++(if s=0 then []else 58::uI s)else if k=2 then n.data.toList++58::uI s else n.data.toList++40::(EN true l++[41])
def EN:Bool->List Tm->List UInt8
 |_,[]=>[]
 |b,t::l=>(if b then []else [44,32])++Sb t++EN false l
end
mutual
def Us:Tm->Bool
 | .mk k _ s _ l=>if k=1\/k=2 then decide (0<=s)&&decide (s<=5)else Ut l
def Ut:List Tm->Bool
 | []=>true
 |t::l=>Us t&&Ut l
end
end Go.Abs
namespace Go.Proofs
open Go.RowKit Go.Abs
def GN (B:Nat) (w:World):Prop:=∃wb wo cap,wb<B/\2<B/\w.cell? ⟨2,0,none⟩=some (.slice (some ⟨wb,wo,none⟩) 6 cap)/\∀j,j<6->w.cell? ⟨wb,wo+j,none⟩=some (.string ⟨(HO.getD j []).toArray⟩)
theorem GN.below {B:Nat} {w w':World} (h:GN B w) (hb:Below B w w'):GN B w':=by
 obtain⟨wb,wo,cap,h1,h2,h3,h4⟩:=h;exact⟨wb,wo,cap,h1,h2,(hb.cell h2).trans h3,λj hj=>(hb.cell h1).trans (h4 j hj)⟩
theorem N9.trans {T:TypeId} {b:Nat} {w w1 w2:World} (h:N9 T b w w1) (k:N9 T b w1 w2):N9 T b w w2:=by
 intro j hj hjb hT;have h1:=h j hj hjb hT;have hj1:j<w1.heap.size:=by
  rcases zf5z j w1.heap.size with h' | h'
  .exact h'
  .rw[zf3z h',Array.getElem?_eq_getElem hj]at h1;cases h1
 rw[←h1];exact k j hj1 hjb (by rw[h1];exact hT)
theorem N9.alloc {T:TypeId} {b:Nat} (w:World) (o:Obj):N9 T b w (w.alloc o):=λk hk _ _=>Lib.alloc_old w o k hk
theorem N9.refl (T:TypeId) (b:Nat) (w:World):N9 T b w w:=λ_ _ _ _=>rfl
theorem Aq (l l':List UInt8):Lib.byteCells (l++l')=Lib.byteCells l++Lib.byteCells l':=by simp[Lib.byteCells]
set_option maxHeartbeats 8000000 in
set_option maxRecDepth 100000 in
theorem Tryz.write_var (B b:Nat) (bs:List Value) (tn:ByteArray) (s:Int) (sl:Value) (w:World) (h:Lib.IsBuilder 310 5 B b bs w) (hs:s=1\/s=2\/s=3\/s=4\/s=5) (C4:bs.length+tn.size+10<=140737488355328) (hBw:B<=w.heap.size) (hW:GN B w) :
  Calls Tryz.prog 253 #[.pointer (some ⟨b,0,none⟩),.agg #[.int .i64 1,.string tn,.int .i64 s,sl]] w λe w'=>e=.returned (.tuple #[])/\(Lib.BuilderAt 310 5 B b (.pointer (some ⟨b,0,none⟩)) (bs++Lib.byteCells (63::tn.data.toList++58::uI s)) w'/\Below B w w'/\N9 5 b w w'):=by
 obtain⟨wb,wo,cap,hwb,hgb,hg,hwd⟩:=hW;have ha:(⟨#[63]⟩++tn:ByteArray).size<=tn.size+1:=by simp[zf0z];show 1+tn.size<=tn.size+1;omega
 have hbl:b<w.heap.size:=by rcases h with h|h<;>exact h.lt
 have e1:Lib.strCells (⟨#[63]⟩++tn)=Lib.byteCells (63::tn.data.toList):=by
  rw[Lib.strCells_eq];congr 1
 rcases hs with rfl|rfl|rfl|rfl|rfl
 .have hd0:=hwd 1 (by omega);obtain⟨u,hu⟩:∃u:ByteArray,u=⟨(HO.getD 1 []).toArray⟩:=⟨_,rfl⟩;have hul:u.size<=5:=by rw[hu];decide
  have huw:u.data.toList=uI 1:=by rw[hu];rfl
  rw[←hu]at hd0;clear hu hwd;have hau:(⟨#[58]⟩++u:ByteArray).size<=u.size+1:=by simp[zf0z];show 1+u.size<=u.size+1;omega
  have e2:Lib.strCells (⟨#[58]⟩++u)=Lib.byteCells (58::uI 1):=by
   rw[Lib.strCells_eq,←huw];congr 1
  go_enter Tryz.func253,Tryz.ntmps253
  go_wp2_with (go_at_call 300;first
   |(refine(Tryz.bldWriteString B b _ _ _ (Or.inr h1) (by simp only[zf1z,Lib.strCells_length];omega) (by have:=hb1.size;simp at this ⊢;omega)).mono ?_;rintro e w2 ⟨rfl,h2,hb2,hap2⟩)
   |(refine(Tryz.bldWriteString B b bs _ _ (AE h _) (by omega) (by simp;omega)).mono ?_;rintro e w1 ⟨rfl,h1,hb1,hap⟩;have hc2:=CT hap (by rcases h with h|h<;>exact h.lt) (by decide) 2;have hg1:=(hb1.cell hgb).trans ((((Below.refl B w).alloc hBw _).cell hgb).trans hg);have hd1:=(hb1.cell (p:=⟨wb,wo+1,none⟩) hwb).trans ((((Below.refl B w).alloc hBw _).cell (p:=⟨wb,wo+1,none⟩) hwb).trans hd0)))
  refine bodyPost_ret (results_none rfl _ _ _) rfl ?_;refine⟨rfl,?_,((((Below.refl B w).alloc hBw _).trans hb1).trans hb2),((N9.alloc w _).trans hap).trans hap2⟩;rw[e1,e2,zf2z,←Aq]at h2;exact h2
 .have hd0:=hwd 2 (by omega);obtain⟨u,hu⟩:∃u:ByteArray,u=⟨(HO.getD 2 []).toArray⟩:=⟨_,rfl⟩;have hul:u.size<=5:=by rw[hu];decide
  have huw:u.data.toList=uI 2:=by rw[hu];rfl
  rw[←hu]at hd0;clear hu hwd;have hau:(⟨#[58]⟩++u:ByteArray).size<=u.size+1:=by simp[zf0z];show 1+u.size<=u.size+1;omega
  have e2:Lib.strCells (⟨#[58]⟩++u)=Lib.byteCells (58::uI 2):=by
   rw[Lib.strCells_eq,←huw];congr 1
  go_enter Tryz.func253,Tryz.ntmps253
  go_wp2_with (go_at_call 300;first
   |(refine(Tryz.bldWriteString B b _ _ _ (Or.inr h1) (by simp only[zf1z,Lib.strCells_length];omega) (by have:=hb1.size;simp at this ⊢;omega)).mono ?_;rintro e w2 ⟨rfl,h2,hb2,hap2⟩)
   |(refine(Tryz.bldWriteString B b bs _ _ (AE h _) (by omega) (by simp;omega)).mono ?_;rintro e w1 ⟨rfl,h1,hb1,hap⟩;have hc2:=CT hap (by rcases h with h|h<;>exact h.lt) (by decide) 2;have hg1:=(hb1.cell hgb).trans ((((Below.refl B w).alloc hBw _).cell hgb).trans hg);have hd1:=(hb1.cell (p:=⟨wb,wo+2,none⟩) hwb).trans ((((Below.refl B w).alloc hBw _).cell (p:=⟨wb,wo+2,none⟩) hwb).trans hd0)))
  refine bodyPost_ret (results_none rfl _ _ _) rfl ?_;refine⟨rfl,?_,((((Below.refl B w).alloc hBw _).trans hb1).trans hb2),((N9.alloc w _).trans hap).trans hap2⟩;rw[e1,e2,zf2z,←Aq]at h2;exact h2
 .have hd0:=hwd 3 (by omega);obtain⟨u,hu⟩:∃u:ByteArray,u=⟨(HO.getD 3 []).toArray⟩:=⟨_,rfl⟩;have hul:u.size<=5:=by rw[hu];decide
  have huw:u.data.toList=uI 3:=by rw[hu];rfl
  rw[←hu]at hd0;clear hu hwd;have hau:(⟨#[58]⟩++u:ByteArray).size<=u.size+1:=by simp[zf0z];show 1+u.size<=u.size+1;omega
  have e2:Lib.strCells (⟨#[58]⟩++u)=Lib.byteCells (58::uI 3):=by
   rw[Lib.strCells_eq,←huw];congr 1
  go_enter Tryz.func253,Tryz.ntmps253
  go_wp2_with (go_at_call 300;first
   |(refine(Tryz.bldWriteString B b _ _ _ (Or.inr h1) (by simp only[zf1z,Lib.strCells_length];omega) (by have:=hb1.size;simp at this ⊢;omega)).mono ?_;rintro e w2 ⟨rfl,h2,hb2,hap2⟩)
   |(refine(Tryz.bldWriteString B b bs _ _ (AE h _) (by omega) (by simp;omega)).mono ?_;rintro e w1 ⟨rfl,h1,hb1,hap⟩;have hc2:=CT hap (by rcases h with h|h<;>exact h.lt) (by decide) 2;have hg1:=(hb1.cell hgb).trans ((((Below.refl B w).alloc hBw _).cell hgb).trans hg);have hd1:=(hb1.cell (p:=⟨wb,wo+3,none⟩) hwb).trans ((((Below.refl B w).alloc hBw _).cell (p:=⟨wb,wo+3,none⟩) hwb).trans hd0)))
  refine bodyPost_ret (results_none rfl _ _ _) rfl ?_;refine⟨rfl,?_,((((Below.refl B w).alloc hBw _).trans hb1).trans hb2),((N9.alloc w _).trans hap).trans hap2⟩;rw[e1,e2,zf2z,←Aq]at h2;exact h2
 .have hd0:=hwd 4 (by omega);obtain⟨u,hu⟩:∃u:ByteArray,u=⟨(HO.getD 4 []).toArray⟩:=⟨_,rfl⟩;have hul:u.size<=5:=by rw[hu];decide
  have huw:u.data.toList=uI 4:=by rw[hu];rfl
  rw[←hu]at hd0;clear hu hwd;have hau:(⟨#[58]⟩++u:ByteArray).size<=u.size+1:=by simp[zf0z];show 1+u.size<=u.size+1;omega
  have e2:Lib.strCells (⟨#[58]⟩++u)=Lib.byteCells (58::uI 4):=by
   rw[Lib.strCells_eq,←huw];congr 1
  go_enter Tryz.func253,Tryz.ntmps253
  go_wp2_with (go_at_call 300;first
   |(refine(Tryz.bldWriteString B b _ _ _ (Or.inr h1) (by simp only[zf1z,Lib.strCells_length];omega) (by have:=hb1.size;simp at this ⊢;omega)).mono ?_;rintro e w2 ⟨rfl,h2,hb2,hap2⟩)
   |(refine(Tryz.bldWriteString B b bs _ _ (AE h _) (by omega) (by simp;omega)).mono ?_;rintro e w1 ⟨rfl,h1,hb1,hap⟩;have hc2:=CT hap (by rcases h with h|h<;>exact h.lt) (by decide) 2;have hg1:=(hb1.cell hgb).trans ((((Below.refl B w).alloc hBw _).cell hgb).trans hg);have hd1:=(hb1.cell (p:=⟨wb,wo+4,none⟩) hwb).trans ((((Below.refl B w).alloc hBw _).cell (p:=⟨wb,wo+4,none⟩) hwb).trans hd0)))
  refine bodyPost_ret (results_none rfl _ _ _) rfl ?_;refine⟨rfl,?_,((((Below.refl B w).alloc hBw _).trans hb1).trans hb2),((N9.alloc w _).trans hap).trans hap2⟩;rw[e1,e2,zf2z,←Aq]at h2;exact h2
 .have hd0:=hwd 5 (by omega);obtain⟨u,hu⟩:∃u:ByteArray,u=⟨(HO.getD 5 []).toArray⟩:=⟨_,rfl⟩;have hul:u.size<=5:=by rw[hu];decide
  have huw:u.data.toList=uI 5:=by rw[hu];rfl
  rw[←hu]at hd0;clear hu hwd;have hau:(⟨#[58]⟩++u:ByteArray).size<=u.size+1:=by simp[zf0z];show 1+u.size<=u.size+1;omega
  have e2:Lib.strCells (⟨#[58]⟩++u)=Lib.byteCells (58::uI 5):=by
   rw[Lib.strCells_eq,←huw];congr 1
  go_enter Tryz.func253,Tryz.ntmps253
  go_wp2_with (go_at_call 300;first
   |(refine(Tryz.bldWriteString B b _ _ _ (Or.inr h1) (by simp only[zf1z,Lib.strCells_length];omega) (by have:=hb1.size;simp at this ⊢;omega)).mono ?_;rintro e w2 ⟨rfl,h2,hb2,hap2⟩)
   |(refine(Tryz.bldWriteString B b bs _ _ (AE h _) (by omega) (by simp;omega)).mono ?_;rintro e w1 ⟨rfl,h1,hb1,hap⟩;have hc2:=CT hap (by rcases h with h|h<;>exact h.lt) (by decide) 2;have hg1:=(hb1.cell hgb).trans ((((Below.refl B w).alloc hBw _).cell hgb).trans hg);have hd1:=(hb1.cell (p:=⟨wb,wo+5,none⟩) hwb).trans ((((Below.refl B w).alloc hBw _).cell (p:=⟨wb,wo+5,none⟩) hwb).trans hd0)))
  refine bodyPost_ret (results_none rfl _ _ _) rfl ?_;refine⟨rfl,?_,((((Below.refl B w).alloc hBw _).trans hb1).trans hb2),((N9.alloc w _).trans hap).trans hap2⟩;rw[e1,e2,zf2z,←Aq]at h2;exact h2
end Go.Proofs
