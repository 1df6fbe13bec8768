/- A part of the proof. -/
import Derived.Test.YtohjdamplbhdpaaGreatDoorSD26
import Derived.Test.YtohjdamplbhdpaaGreatDoorSD27
import Derived.ProofKit
import Derived.WalkKit
import Derived.Lib.Strings
import Derived.Lib.Slices
import Derived.Lib.Walk
import Derived.Lib.Bytealg
import Derived.KernelRfl
import Derived.Test.YtohjdamplbhdpaaGreatDoorCards
import Derived.Test.YtohjdamplbhdpaaGreatDoorTie
import Derived.OpenShut
import Derived.JoinedCond
import Derived.Deep.DeepHandedRow
import Derived.Lib.LaidTab
set_option linter.all false
open List renaming getElem?_eq_getElem->oD,take_succ_eq_append_getElem->xX,take_of_length_le->xY,length_take->xZ,getElem?_eq_some_iff->xb,mem_of_mem_take->xc,mem_map->xd,getElem_mem->xg,append_nil->xh,length_map->xi,map_append->xj,mem_cons->xk
open Nat renaming zero_add->xa,zero_le->xf,le_refl->xl
open Array renaming size_append->xe
namespace Go.Abs
open Go.RowKit (Below)
section
variable {P:Program} {E:Env}
structure InsLaw0 (P:Program) (f:FuncId) (K bytes:Nat):Prop where
 pos:0<K
 enter:Program.enterable P f=true
 newR:∀(w:World) (base:Option Addr) (vb vo vc:Nat) (vs:List Value),bytes<=G5->vs.length=K->(∀j v,vs[j]?=some v->w.cell? ⟨vb,vo+j,none⟩=some v)->(∀v∈vs,v.oneCell'=true) ->
  Calls P f #[.slice base 0 0,.int .i64 0,.slice (some ⟨vb,vo,none⟩) 1 vc] w λe w'=>∃(q G:Nat) (us:Array Value) (t:TypeId),e=.returned (.slice (some ⟨w.heap.size,0,none⟩) 1 G)/\w'=(w.drewN q).alloc (.cells us t)/\1<=G/\G<=maxLen/\G*K<=us.size /\
   ∀j,j<K->us[j]?=vs[j]?
theorem ZF {f:FuncId} {K bytes:Nat} (L:InsLaw0 P f K bytes) (O:Orc) (args:E5) (h:AH) (r:AV) (h':AH) (he:(ae K bytes).run O args h=some (r,h')):Program.enterable P f=true /\
  ∀(E:Env) (vs:Array Value),SR E->E.h=h->w9 E args vs.toList ->
   Calls P f vs E.w λe w'=>∃u E',e=.returned u/\w'=E'.w/\Ext E E'/\SR E'/\E'.h=h'/\VR E' r u:=by
 refine⟨L.enter,λE avs hS hh hv=>?_⟩;subst hh;change Oh K bytes args E.h=some (r,h')at he;unfold Oh at he;split at he
 .rename_i z' i0 x0;unfold Ke at he;split at he
  .rename_i s i q z x heq;cases heq;split at he
   .rename_i hc0;obtain⟨hzK,hag⟩:=hc0;obtain⟨avs⟩:=avs;simp only[w9]at hv;obtain⟨v0,_,rfl,hv0,v1,_,rfl,hv1,v2,_,rfl,hv2,rfl⟩:=hv;simp only[VR]at hv1;subst hv1;obtain⟨vb,vo,vc,vs,rfl,hvl,hvc,hv1c,hvr,hK⟩:=UP hS hzK hv2;have hvc1:∀j u,vs[j]?=some u->E.w.cell? ⟨vb,vo+j,none⟩=some u:=λj u hu=>(hvc j u hu).1;simp only at he;split at he
    .rename_i hc;obtain⟨rfl,hb⟩:=hc;cases he;simp only[VR,PV]at hv0;obtain⟨base,len,cap,rfl,rfl,_,_,h4',_,_⟩:=hv0;have hcap:cap=0:=h4' trivial;subst hcap;refine(L.newR E.w base vb vo vc vs hb hvl hvc1 hv1c).mono λe w' ⟨q,G,us,te,h1,h2,h3,h4,h5,h6⟩=>?_;have x1:=AF hS (EU E.w q);have s1:=Dp hS (EU E.w q);refine⟨_,({E with w:=E.w.drewN q}:Env).newFam us te G ⟨[x],K,true⟩,h1,h2,x1.trans (GV s1 _ _ _ _),KE s1 hK (by simpa using h3) h4 h5 (λj y hy=>?_),rfl,?_⟩
     .obtain⟨g1,g2⟩:=Lg x1 hvr j y hy;refine⟨g1,λc y' hy'=>?_⟩;obtain⟨v,v1,v2⟩:=g2 c y' hy';have hjn:j=0:=by have:=(xb.1 hy).1;simpa using this
      have hcK:c<K:=by have:=(xb.1 hy').1;omega
      subst hjn;rw[Nat.zero_mul,xa]at v1 ⊢;exact⟨v,by rw[h6 _ hcK];exact v1,v2⟩
     .simp only[VR,Env.newFam,X2];exact⟨_,_,⟨[x],K,true⟩,rfl,by simp,⟨by simp,λ_=>⟨_,_,rfl⟩⟩,λ_=>⟨xf _,by simp,by simp,(λh=>nomatch h),λ_=>by simp⟩⟩
    .cases he
   .cases he
  .cases he
 .cases he
structure GrowLaw (P:Program) (f:FuncId) (K bytes:Nat):Prop where
 pos:0<K
 enter:Program.enterable P f=true
 zero:∀(w:World) (base:Option Addr),Calls P f #[.slice base 0 0,.int .i64 0] w λe w'=>e=.returned (.slice base 0 0)/\w'=w
 some:∀(w:World) (base:Option Addr) (n:Nat),0<n->n*bytes<=G5->n<=maxLen ->
  Calls P f #[.slice base 0 0,.int .i64 n] w λe w'=>∃(q G:Nat) (us:Array Value) (t:TypeId),e=.returned (.slice (some ⟨w.heap.size,0,none⟩) 0 G)/\w'=(w.drewN q).alloc (.cells us t)/\G<=maxLen/\G*K<=us.size
theorem ZE {f:FuncId} {K bytes:Nat} (L:GrowLaw P f K bytes) (O:Orc) (args:E5) (h:AH) (r:AV) (h':AH) (he:(UC K bytes).run O args h=some (r,h')):Program.enterable P f=true /\
  ∀(E:Env) (vs:Array Value),SR E->E.h=h->w9 E args vs.toList ->
   Calls P f vs E.w λe w'=>∃u E',e=.returned u/\w'=E'.w/\Ext E E'/\SR E'/\E'.h=h'/\VR E' r u:=by
 refine⟨L.enter,λE avs hS hh hv=>?_⟩;subst hh;change My K bytes args E.h=some (r,h')at he;unfold My at he;split at he
 .rename_i z n;obtain⟨avs⟩:=avs;simp only[w9]at hv;obtain⟨v0,_,rfl,hv0,v1,_,rfl,hv1,rfl⟩:=hv;simp only[VR]at hv1;subst hv1;have hv0':=hv0;simp only[VR,PV]at hv0;obtain⟨base,len,cap,rfl,rfl,_,_,h4',_,_⟩:=hv0;have hcap:cap=0:=h4' trivial;subst hcap;split at he
  .rename_i h0;subst h0;cases he;exact(L.zero E.w base).mono λe w' ⟨h1,h2⟩=>⟨_,E,h1,h2,Ext.refl E,hS,rfl,hv0'⟩
  .split at he
   .rename_i hc;obtain⟨c1,c2,c3⟩:=hc;cases he;obtain⟨m,rfl⟩:∃m:Nat,n=m:=⟨n.toNat,by omega⟩;refine(L.some E.w base m (by omega) (by exact_mod_cast c2) (by exact_mod_cast c3)).mono λe w' ⟨q,G,us,te,h1,h2,h3,h4⟩=>?_;have x1:=AF hS (EU E.w q);have s1:=Dp hS (EU E.w q);refine⟨_,({E with w:=E.w.drewN q}:Env).newFam us te G ⟨[],K,false⟩,h1,h2,x1.trans (GV s1 _ _ _ _),KE s1 L.pos (xf _) h3 h4 (λj y hy=>by simp at hy),rfl,?_⟩
    simp only[VR,Env.newFam,X2];exact⟨_,_,⟨[],K,false⟩,rfl,by simp,⟨by simp,λh=>absurd rfl h⟩,λ_=>⟨xf _,by simp,by simp,(λh=>nomatch h),λ_=>by simp⟩⟩
   .cases he
 .cases he
end
end Go.Abs
set_option linter.unusedVariables false
set_option linter.unusedSimpArgs false
namespace Go.Proofs
open Go.RowKit Go.Lib Go.Abs
theorem Tryz.powsUnd:Tryz.prog.underlying 163=some (.slice 167):=by kernel_rfl
set_option maxHeartbeats 4000000 in
set_option maxRecDepth 100000 in
theorem Tryz.insp_nil (base:Option Addr) (vb vo vc:Nat) (vs:List Value) (w:World) (i0:TypeInfo) (z:Value) (hi0:Tryz.prog.info? 167=some i0) (hz0:i0.zero=some z) (K3:i0.size=5) (hbig:i0.bytes<=140737488355328)
  (hvl:vs.length=5) (LQ:∀j v,vs[j]?=some v->w.cell? ⟨vb,vo+j,none⟩=some v) (h1v:∀v∈vs,v.oneCell'=true) :
  Calls Tryz.prog 311 #[.slice base 0 0,.int .i64 0,.slice (some ⟨vb,vo,none⟩) 1 vc] w λe w'=>e=.returned (.slice (some ⟨w.heap.size,0,none⟩) 1 (grownCap w 1 0 167)) /\
   w'=w.drew.alloc (.cells (vs.toArray++Builtin.zeroCells z.cells (grownCap w 1 0 167-1)) 167):=by
 have hsrc:Src Tryz.prog i0.size 163 (.slice (some ⟨vb,vo,none⟩) 1 vc) 1 vs w:=Src.ofSlice w Tryz.powsUnd ⟨vb,vo,none⟩ 1 vc vs (by rw[K3,hvl]) (λj u hj=>by rw[Addr.add_lit];exact LQ j u hj) h1v;have hold:(Builtin.firstCells i0.size 0 (.slice base 0 0)).run Tryz.prog w.drew=.ok ([]:List Value).toArray w.drew:=by
  rw[K3];cases base with
  |none=>exact run_firstCells_none w.drew 5 0 0 0
  |some a=>exact run_firstCells_some w.drew 5 0 a 0 0 [] rfl (λj v hj=>by simp at hj)
 have hrun:∀ty,(Builtin.append_ #[163,163] ty #[.slice base 0 0,.slice (some ⟨vb,vo,none⟩) 1 vc]).run Tryz.prog w=_:=λty =>
  run_append_grow_src w 163 163 ty 167 i0 z Tryz.powsUnd hi0 hz0 base 0 0 [] hold _ 1 vs hsrc (by omega) (by omega) (growslice_fits (by omega) (by rw[xa,Nat.one_mul];exact hbig))
 rw[xa,List.nil_append]at hrun;generalize hG:grownCap w 1 0 167=G at *
 generalize hR:vs.toArray++Builtin.zeroCells z.cells (G-1)=R at *
 clear hR hold hsrc hG
 go_enter Tryz.func311,Tryz.ntmps311
 cases base with
 |none =>
  go_wp2_with (at_builtin;refine Lib.wpList_append_run _ rfl _ _ _ _ rfl _ _ rfl rfl _ _ (hrun _) ?_)
  go_ret
  exact⟨rfl,rfl⟩
 |some a =>
  obtain⟨ab,ao,asp⟩:=a
  go_wp2_with (at_builtin;refine Lib.wpList_append_run _ rfl _ _ _ _ rfl _ _ rfl rfl _ _ (hrun _) ?_)
  all_goals (go_ret;exact⟨rfl,rfl⟩)
set_option maxRecDepth 100000 in
theorem Tryz.insLawP:InsLaw0 Tryz.prog 311 5 64:=by
 obtain⟨i0,z,hi0,K3,hz0,hzs,hby⟩:∃i0 z,Tryz.prog.info? 167=some i0/\i0.size=5/\i0.zero=some z/\z.cells.size=5/\i0.bytes=64:=⟨_,_,rfl,by kernel_rfl,rfl,by kernel_rfl,by kernel_rfl⟩;refine⟨by omega,by kernel_rfl,?_⟩;intro w base vb vo vc vs hb hvl LQ h1v;have hG1:=grownCap_ge w 1 0 167;have hG2:=grownCap_le_maxLen w 1 0 167 (by unfold maxLen;omega);refine(Tryz.insp_nil base vb vo vc vs w i0 z hi0 hz0 K3 (by rw[hby];omega) hvl LQ h1v).mono λe w' ⟨h1,h2⟩=>⟨1,_,_,_,h1,h2,hG1,hG2,?_,?_⟩
 .rw[xe,size_zeroCells,hzs,List.size_toArray,hvl];omega
 .intro j hj;rw[Array.getElem?_append_left (by simp;omega),List.getElem?_toArray]
set_option maxHeartbeats 4000000 in
set_option maxRecDepth 100000 in
theorem Tryz.growZero (base:Option Addr) (w:World):Calls Tryz.prog 147 #[.slice base 0 0,.int .i64 0] w λe w'=>e=.returned (.slice base 0 0)/\w'=w:=by
 go_enter Tryz.func147,Tryz.ntmps147
 go_wp2
 go_ret
 exact⟨rfl,rfl⟩
set_option maxHeartbeats 4000000 in
set_option maxRecDepth 100000 in
theorem Tryz.growSome (base:Option Addr) (n:Nat) (w:World) (i0:TypeInfo) (z:Value) (hi0:Tryz.prog.info? 32=some i0) (hz0:i0.zero=some z) (K3:i0.size=4) (h0:0<n) (hm:n<=maxLen) (hbig:n*i0.bytes<=140737488355328) :
  Calls Tryz.prog 147 #[.slice base 0 0,.int .i64 n] w λe w'=>e=.returned (.slice (some ⟨w.heap.size,0,none⟩) 0 (grownCap w n 0 32)) /\
   w'=w.drew.alloc (.cells (Builtin.zeroCells z.cells n++Builtin.zeroCells z.cells (grownCap w n 0 32-n)) 32):=by
 have uQ:maxLen<=9223372036854775807:=by unfold maxLen;omega
 have mixed:Tryz.prog.follows Departure.mixedOrders=true:=by kernel_rfl
 have hold:(Builtin.firstCells i0.size 0 (.slice base 0 0)).run Tryz.prog w.drew=.ok ([]:List Value).toArray w.drew:=by
  rw[K3];cases base with
  |none=>exact run_firstCells_none w.drew 4 0 0 0
  |some a=>exact run_firstCells_some w.drew 4 0 a 0 0 [] rfl (λj v hj=>by simp at hj)
 have hrz:∀ty,(Builtin.append_ #[30,3] ty #[.slice base 0 0,.int .i64 (n:Int)]).run Tryz.prog w =
   .ok (.slice (some ⟨w.heap.size,0,none⟩) n (grownCap w n 0 32)) (w.drew.alloc (.cells (Builtin.zeroCells z.cells n++Builtin.zeroCells z.cells (grownCap w n 0 32-n)) 32)):=λty=>by
  have h:=Lib.run_append_grow_zeros w 30 3 ty 32 i0 z .i64 .i64 Tryz.termsUnd Tryz.intUnd hi0 hz0 base 0 0 [] hold n (by omega) (by omega) (by omega) (by omega) (by omega)
   (by rw[xa];exact growslice_fits (need:=n) (by omega) hbig)
  rw[xa]at h;simpa using h
 have hG63:grownCap w n 0 32<=9223372036854775807:=by
  have:=grownCap_le_maxLen w n 0 32 hm;omega
 generalize hG:grownCap w n 0 32=G at *
 generalize hR:Builtin.zeroCells z.cells n++Builtin.zeroCells z.cells (G-n)=R at *
 have h1:¬((n:Int)<0):=by omega
 have h2:wrap64 (n:Int)=(n:Int):=by unfold wrap64;omega
 have h4:(n:Int) > 0:=by omega
 clear hR hold hG
 go_enter Tryz.func147,Tryz.ntmps147
 cases base with
 |none =>
  go_wp2_with (at_builtin;refine Lib.wpList_append_run _ rfl _ _ _ _ rfl _ _ rfl rfl _ _ (hrz _) ?_)
  all_goals (go_ret;exact⟨rfl,rfl⟩)
 |some a =>
  obtain⟨ab,ao,asp⟩:=a
  go_wp2_with (at_builtin;refine Lib.wpList_append_run _ rfl _ _ _ _ rfl _ _ rfl rfl _ _ (hrz _) ?_)
  all_goals (go_ret;exact⟨rfl,rfl⟩)
set_option maxRecDepth 100000 in
theorem Tryz.growLaw:GrowLaw Tryz.prog 147 4 56:=by
 obtain⟨i0,z,hi0,K3,hz0,hzs,hby⟩:∃i0 z,Tryz.prog.info? 32=some i0/\i0.size=4/\i0.zero=some z/\z.cells.size=4/\i0.bytes=56:=⟨_,_,rfl,by kernel_rfl,rfl,by kernel_rfl,by kernel_rfl⟩;refine⟨by omega,by kernel_rfl,λw base=>Tryz.growZero base w,λw base n h0 hb hm=>?_⟩;have hG1:=grownCap_ge w n 0 32;refine(Tryz.growSome base n w i0 z hi0 hz0 K3 h0 hm (by rw[hby];exact hb)).mono λe w' ⟨h1,h2⟩=>⟨1,_,_,_,h1,h2,grownCap_le_maxLen w n 0 32 hm,?_⟩;rw[xe,size_zeroCells,size_zeroCells,hzs];omega
end Go.Proofs
namespace Go.Proofs
set_option maxHeartbeats 1000000 in
set_option maxRecDepth 100000 in
theorem Tryz.cmpString (a b:ByteArray) (w:World) :
  Calls Tryz.prog 134 #[.string a,.string b] w λe w'=>e=.returned (.int .i64 (Lib.compareBytes a.data.toList b.data.toList))/\w'=w:=by
 go_enter Tryz.func134,Tryz.ntmps134
 go_wp2
 rw[run_callFunc_extern Tryz.func187 (by kernel_rfl) (by kernel_rfl) (by kernel_rfl) (e:=Extern.BytealgCompare.compare) (by kernel_rfl),Lib.run_compareString];simp only[Result.andThen];rw[Oper.upon_value]
 go_wp2
 go_ret
 exact⟨rfl,rfl⟩
set_option maxHeartbeats 1000000 in
set_option maxRecDepth 100000 in
theorem Tryz.sliteIndexByte (s:ByteArray) (c:Int) (w:World) :
  Calls Tryz.prog 359 #[.string s,.int .u8 c] w λe w'=>e=.returned (.int .i64 (Lib.indexByte s.data.toList c.toNat.toUInt8))/\w'=w:=by
 go_enter Tryz.func359,Tryz.ntmps359
 go_wp2
 rw[run_callFunc_extern Tryz.func391 (by kernel_rfl) (by kernel_rfl) (by kernel_rfl) (e:=Extern.BytealgIndexByte.indexByte) (by kernel_rfl),Lib.run_indexByteString];simp only[Result.andThen];rw[Oper.upon_value]
 go_wp2
 go_ret
 exact⟨rfl,rfl⟩
set_option maxHeartbeats 2000000 in
set_option maxRecDepth 100000 in
theorem Tryz.sliteIndexOne (s:ByteArray) (c:UInt8) (w:World) :
  Calls Tryz.prog 304 #[.string s,.string ⟨#[c]⟩] w λe w'=>e=.returned (.int .i64 (Lib.indexByte s.data.toList c))/\w'=w:=by
 go_enter Tryz.func304,Tryz.ntmps304
 go_wp2_with (go_at_call 359;refine(Tryz.sliteIndexByte _ _ _).mono ?_;rintro e w' ⟨rfl,rfl⟩)
 .have h:([c] == s.toList)=true:=by assumption
  go_ret
  refine⟨?_,rfl⟩;have e:s.data.toList=[c]:=by rw[←Lib.toList_data];exact(beq_iff_eq.1 h).symm
  rw[e];simp[Lib.indexByte]
 .go_ret
  exact⟨rfl,rfl⟩
set_option maxHeartbeats 1000000 in
theorem Tryz.stringsIndexOne (s:ByteArray) (c:UInt8) (w:World) :
  Calls Tryz.prog 249 #[.string s,.string ⟨#[c]⟩] w λe w'=>e=.returned (.int .i64 (Lib.indexByte s.data.toList c))/\w'=w:=by
 go_enter Tryz.func249,Tryz.ntmps249
 go_wp2_with (go_at_call 304;refine(Tryz.sliteIndexOne _ _ _).mono ?_;rintro e w' ⟨rfl,rfl⟩)
 go_ret
 exact⟨rfl,rfl⟩
set_option maxHeartbeats 1000000 in
theorem Tryz.stringsContainsOne (s:ByteArray) (c:UInt8) (w:World) :
  Calls Tryz.prog 195 #[.string s,.string ⟨#[c]⟩] w λe w'=>e=.returned (.bool (decide (0<=Lib.indexByte s.data.toList c)))/\w'=w:=by
 go_enter Tryz.func195,Tryz.ntmps195
 go_wp2_with (go_at_call 249;refine(Tryz.stringsIndexOne _ _ _).mono ?_;rintro e w' ⟨rfl,rfl⟩)
 go_ret
 exact⟨rfl,rfl⟩
end Go.Proofs
namespace Go.Abs.Q
open Go.Proofs
open Go.RowKit (Below)
theorem RS:∀(a b:List UInt8),Lib.compareBytes a b=if Op.bytesLess a b then -1 else if a=b then 0 else 1
 | [],[]=>by simp[Lib.compareBytes,Op.bytesLess]
 | [],_::_=>by simp[Lib.compareBytes,Op.bytesLess]
 |_::_,[]=>by simp[Lib.compareBytes,Op.bytesLess]
 |x::a,y::b=>by
  simp only[Lib.compareBytes,Op.bytesLess,RS a b];by_cases h:x<y
  .simp[h]
  .by_cases h':y<x
   .have M8:x≠y:=λe=>h (e ▸ h');simp[h,h',M8]
   .have he:x=y:=by
     apply UInt8.le_antisymm
     .exact UInt8.not_lt.1 h'
     .exact UInt8.not_lt.1 h
    subst he;simp[h]
theorem Wd (a b:H6):Q6 a b=Lib.compareBytes a.data.toList b.data.toList:=by
 rw[RS,Q6,Lib.toList_data,Lib.toList_data]
theorem NW (c:UInt8):∀l:List UInt8,0<=Lib.indexByte l c↔c∈l
 | []=>by simp[Lib.indexByte]
 |b::l=>by
  have ih:=NW c l;have hge:=Lib.indexByte_ge l c;by_cases h:b=c
  .subst h;simp[Lib.indexByte]
  .have h1:Lib.indexByte (b::l) c=if Lib.indexByte l c=-1 then -1 else Lib.indexByte l c+1:=by
    simp[Lib.indexByte,h]
   have h2:¬c=b:=λe=>h e.symm;rw[h1,xk];by_cases h3:Lib.indexByte l c=-1
   .rw[if_pos h3];constructor
    .intro k;omega
    .rintro(k|k)
     .exact absurd k h2
     .have:=ih.2 k;omega
   .rw[if_neg h3];constructor
    .intro k;exact .inr (ih.1 (by omega))
    .intro k;omega
theorem TF (l:List UInt8) (c:UInt8):decide (0<=Lib.indexByte l c)=l.contains c:=by
 rw[Bool.eq_iff_iff,decide_eq_true_iff,NW];simp
theorem mixed:Tryz.prog.follows .mixedOrders=true:=by kernel_rfl
theorem ky (f:FuncId) (s:RSpec) (h:SX f=some s):(f=C9/\s=Uh 4)\/(f=K9/\s=cc 4 56)\/(f=L9/\s=ae 5 64)\/(f=N3/\s=UC 4 56):=by
 unfold SX at h;split at h
 .rename_i hf;cases h;exact .inl ⟨hf,rfl⟩
 .split at h
  .rename_i hf;cases h;exact .inr (.inl ⟨hf,rfl⟩)
  .split at h
   .rename_i hf;cases h;exact .inr (.inr (.inl ⟨hf,rfl⟩))
   .split at h
    .rename_i hf;cases h;exact .inr (.inr (.inr ⟨hf,rfl⟩))
    .cases h
theorem QS:CfgS Tryz.prog Q:=by
 refine⟨λf rf h=>?_,λf s hs args r hr=>?_,mixed,λf s hs O hP args h r h' he=>?_⟩
 .have h1:Az f=some rf:=(Lf f).symm.trans h;unfold Az at h1;split at h1
  .cases h1
  .exact h1
 rotate_left 1
 .have hs':SX f=some s:=hs;rcases ky f s hs' with ⟨rfl,rfl⟩|⟨rfl,rfl⟩|⟨rfl,rfl⟩|⟨rfl,rfl⟩
  .exact Zr Tryz.sortLays (by kernel_rfl) 4 Tryz.isAgg32 Tryz.sizeOf32 hP args h r h' he
  .exact ce Tryz.insLaw O args h r h' he
  .exact ZF Tryz.insLawP O args h r h' he
  .exact ZE Tryz.growLaw O args h r h' he
 have hs':LV f=some s:=(PR f).symm.trans hs;unfold LV at hs';split at hs'
 .rename_i hf;subst hf;cases hs';unfold Vu at hr;split at hr
  .rename_i a b;cases hr;refine⟨by kernel_rfl,λw ok0 vs _ hv=>?_⟩;have LQ:vs=#[.string a,.string b]:=by
    simp only[BS,PV]at hv;obtain⟨u,us,h1,rfl,u',us',rfl,rfl,rfl⟩:=hv;cases vs
    simp_all
   subst LQ;refine(Tryz.cmpString a b w).mono λe w' ⟨he,hw⟩=>?_;subst hw;exact⟨_,he,Bl.refl _ _,by simp[PV,Wd]⟩
  .cases hr
 .split at hs'
  .rename_i hf;subst hf;cases hs';unfold Vv at hr;split at hr
   .rename_i a b;split at hr
    .rename_i c hb;cases hr;refine⟨by kernel_rfl,λw ok0 vs _ hv=>?_⟩;have hb':b=⟨#[c]⟩:=by
      obtain⟨⟨l⟩⟩:=b;simp at hb;rw[hb]
     subst hb';have LQ:vs=#[.string a,.string ⟨#[c]⟩]:=by
      simp only[BS,PV]at hv;obtain⟨u,us,h1,rfl,u',us',rfl,rfl,rfl⟩:=hv;cases vs
      simp_all
     subst LQ;refine(Tryz.stringsContainsOne a c w).mono λe w' ⟨he,hw⟩=>?_;subst hw;exact⟨_,he,Bl.refl _ _,by simp[PV,TF]⟩
    .cases hr
   .cases hr
  .cases hs'
end Go.Abs.Q
namespace Go.Abs.Q
open Go.Proofs
open Go.Proofs.YtohjdamplbhdpaaGreatDoor (Rows.uptoBulk Rows.uptoBulkAll)
variable {w:World}
theorem vl {α:Type}:∀{l:List α},l.length=2->∃a b,l=[a,b]
 | [a,b],_=>⟨a,b,rfl⟩
theorem lm {w:World} {cs:E5} {us:Array Value} (h:CV w cs us.toList):PV w (nD w) (.agg cs) (.agg us):=by
 simp only[PV];exact⟨us,rfl,h.2,h.1⟩
end Go.Abs.Q
namespace Go.Proofs.YtohjdamplbhdpaaGreatDoor
open Go.ChangeShapes Go.WideShapes Go.ChangeAt Go.RowKit Go.Abs Go.Abs.Q
theorem own:ownKnob Tryz.prog.godebug=none:=by kernel_rfl
theorem laidOut:laidOutB Tryz.prog=true:=by kernel_rfl
def qf:DataW Unit->List Value
 | .lit (.int k n)=>[.int k n]
 |_=>[]
def lL:DataW Unit->List Value
 | .agg l=>l.flatMap qf
 |_=>[]
def qg:DataW Unit->List Value
 | .agg l=>l.flatMap lL
 |_=>[]
def UK (l:List Value):Obj->Obj
 | .cells _ t frozen=>.cells l.toArray t frozen
 |o=>o
noncomputable def Pe (os:Os):World :=
 {World.holding Tryz.prog os ⟨#[],#[],[]⟩with heap:=((World.holding Tryz.prog os ⟨#[],#[],[]⟩).heap.modify 1 (UK (lL Rows.laid_unicode_utf8_first))).modify 2 (UK (qg Rows.laid_unicode_utf8_acceptRanges))}
end Go.Proofs.YtohjdamplbhdpaaGreatDoor
namespace Go.Abs.Q
open Go.Proofs
attribute [local simp] D1 D4 fin I2 G0 K7 I3 N4 O5
def Nb (m:Bool×Bool) (a:ByteArray):Tm:=Y3 (bs [115,107]) m [HM a]
def NJ (m:Bool×Bool) (a:ByteArray):Tm:=Y3 (bs [112,107]) m [Nb m a]
def TA (m:Bool×Bool) (a b:ByteArray):Tm:=Y3 (bs [115,104,107]) m [HM a,HM b]
def j9 (G2 l:List Tm):List Tm:=l.foldl Jt G2
theorem OT (G2 a b:I1):j9 G2 (a++b)=j9 (j9 G2 a) b:=List.foldl_append
theorem Ca:∀(l G2:I1),(j9 G2 l).length<=G2.length+l.length
 | [],G2=>xl _
 |t::l,G2=>by
  have h1:=Ca l (Jt G2 t);have h2:=(WV G2 t).1;show (j9 (Jt G2 t) l).length<=_;rw[List.length_cons];omega
theorem Cb:∀(l G2:I1) {x:Tm},x∈j9 G2 l->x∈G2\/x∈l
 | [],G2,x,h=>.inl h
 |t::l,G2,x,h=>by
  rcases Cb l (Jt G2 t) h with h|h
  .rcases WW h with h|h
   .exact .inl h
   .exact .inr (h ▸ List.mem_cons_self)
  .exact .inr (List.mem_cons_of_mem _ h)
def JM (m:Bool×Bool) (me:ByteArray) (rs:List ByteArray) (role:Nat):Nat->List Tm
 |0=>[]
 |i+1=>JM m me rs role i++(if i=role then []else match rs[i]? with|some r=>[TA m me r,TA m r me]|none=>[])
def JT (me:ByteArray) (s:Ste):Bool:=decide (s.frm=me)||decide (s.to=me)
def UL (me:ByteArray) (l:List Ste):List Tm:=(l.filter (JT me)).map Ste.msg
theorem gX {me:H6} {l:List Ste} {i:Nat} (h:i<l.length):UL me (l.take (i+1))=UL me (l.take i)++(if JT me l[i]=true then [l[i].msg]else []):=by
 unfold UL;rw[xX h,List.filter_append,xj];congr 1;by_cases hb:JT me l[i]=true
 .rw[if_pos hb,List.filter_cons_of_pos hb];rfl
 .rw[if_neg hb,List.filter_cons_of_neg hb];rfl
theorem PE (m:J0) (me:H6) (rs:List ByteArray) (role:Nat):∀i,(JM m me rs role i).length<=2*i
 |0=>xl _
 |i+1=>by
  have:=PE m me rs role i;rw[JM,List.length_append];split
  .simp;omega
  .split<;>simp<;>omega
theorem MY (m:J0) (me:H6) (rs:List ByteArray) (role:Nat):∀i,∀x∈JM m me rs role i,x.size=3
 |0,x,h=>by simp[JM]at h
 |i+1,x,h=>by
  rw[JM,List.mem_append]at h;rcases h with h|h
  .exact MY m me rs role i x h
  .split at h
   .simp at h
   .split at h
    .simp only[xk,List.not_mem_nil,or_false]at h;rcases h with rfl|rfl<;>rfl
    .simp at h
theorem Mx {me:H6} {l:List Fre} {x:Tm} (h:x∈GO me l):x.size=1:=by
 unfold GO at h;rw[xd]at h;obtain⟨f,-,rfl⟩:=h;rfl
theorem Xj (r n:Nar) (role:Nat) (me:H6) (hme:r.roles[role]?=some me) (i:Nat) (hi:i<r.steps.length):pc Q Cz [Dx r n,.int .i64 (role:Nat),.int .i64 (i:Nat)]=some (.bool (JT me r.steps[i])):=by
 have sb:=BK r n;have hme':Ir (r.roles.map AV.str) role=some (.str me):=H8 hme;have hx:=H8 (f:=Ci) (oD hi);unfold JT;generalize r.steps[i]=s at *
 by_cases hq:s.frm=me
 .rw[show (decide (s.frm=me)||decide (s.to=me))=true from by simp[hq]];refine JZ S2 λfr hl h0 h1 h2=>?_;simp[S2]at hl h0 h1 h2;simp[S2,hl,h0,h1,h2,sb,hme',hx,hq]
 .rw[show (decide (s.frm=me)||decide (s.to=me))=decide (s.to=me) from by simp[hq]];have M8:=hq;refine JZ S2 λfr hl h0 h1 h2=>?_;simp[S2]at hl h0 h1 h2;simp[S2,hl,h0,h1,h2,sb,hme',hx,M8]
theorem gM (rs:List ByteArray) (m0:J0) (C2:rs.length<=1000) (G2:I1) (hal:G2.length<=1000) (has:∀x∈G2,x.size<=1099511627776) (B0:List (List AV)) (fr:Fr) (h:AH) (hh:h.boxes=B0) (v0:AV) (hv0:A0 fr 8=v0) (hg0:In false 4 (A4 G2) v0 h) (hl:fr.length=102) (h29:A0 fr 29=sl m0 1 (rs.map AV.str)) (h30:A0 fr 30=.int .i64 rs.length) (h31:A0 fr 31=.int .i64 0) :
  C8 (lp (A1 (Q8 Q) (G8 L4) j8) (fr,h)) λe D3 h'=>Kp j8.wr fr D3/\e=.exit 0/\h'.boxes=B0/\In false 4 (A4 (j9 G2 (rs.map (NJ (true,true))))) (A0 D3 8) h':=by
 refine C3 rfl fr (λn fr h'=>∃(i:Nat),i+n=rs.length/\A0 fr 31=.int .i64 (i:Nat)/\(∃v,A0 fr 8=v/\h'.boxes=B0/\In false 4 (A4 (j9 G2 ((rs.take i).map (NJ (true,true))))) v h')) ?_ rs.length h ⟨0,by omega,h31,_,hv0,hh,hg0⟩;rintro J Φ hJ hΦ n H0 H1 K ⟨i,hi,k31,hr⟩;have B5:=K.1.trans hl;have k29:=A5 K 29 h29;have k30:=A5 K 30 h30;clear K;by_cases A7:i<rs.length
 .have V9:=E6 i (by omega);obtain⟨v,k8,hB,hg⟩:=hr;obtain⟨bx,fams⟩:=H1;simp only at hB;subst hB;have hx:=H8 (f:=AV.str) (oD A7);have JS:=Ca ((rs.take i).map (NJ (true,true))) G2;rw[xi,xZ]at JS;have K3:∀x∈j9 G2 ((rs.take i).map (NJ (true,true))),x.size<=1099511627776:=λx hx=>by
   rcases Cb _ _ hx with h|h
   .exact has x h
   .rw[xd]at h;obtain⟨a,-,rfl⟩:=h;simp[NJ,Nb,Y3,HM,Tm.size,Tm.sizes]
  have Cf:(rs.take (i+1)).map (NJ (true,true))=(rs.take i).map (NJ (true,true))++[NJ (true,true) rs[i]]:=by
   rw[xX A7,xj,List.map_cons,List.map_nil]
  generalize rs[i]=a at *
  have hG:=SH a;have hA:=SI (bs [115,107]) (true,true) [HM a];have hA2:=SI (bs [112,107]) (true,true) [Nb (true,true) a];rw[show A4 [HM a]=[B8 (HM a)] from rfl]at hA;rw[show A4 [Nb (true,true) a]=[B8 (Nb (true,true) a)] from rfl]at hA2;change pc Q r6 _=some (B8 (Nb (true,true) a))at hA;change pc Q r6 _=some (B8 (NJ (true,true) a))at hA2;obtain⟨v',F',hK,DF⟩:=Oy _ v ⟨bx,fams⟩ hg (NJ (true,true) a) (by omega) K3 (by simp[NJ,Nb,Y3,HM,Tm.size,Tm.sizes]);have e1:Jt (j9 G2 ((rs.take i).map (NJ (true,true)))) (NJ (true,true) a)=j9 G2 ((rs.take (i+1)).map (NJ (true,true))):=by
   rw[Cf,OT];rfl
  rw[e1]at DF;clear e1 Cf hg K3;generalize NJ (true,true) a=t2 at *
  generalize Nb (true,true) a=t1 at *
  generalize HM a=t0 at *
  simp[j8,B5,k29,k30,k31,A7,V9,k8,hx,hG,hA,hA2,A3,hK];exact O9 hJ ⟨i+1,by omega,by simp[B5],v',by simp[B5],rfl,DF⟩
 .obtain⟨v,k8,hB,hg⟩:=hr;rw[xY (by omega)]at hg;simp[j8,B5,k30,k31,A7];exact hΦ _ _ _ ⟨rfl,hB,by simp[k8];exact P5 hg rfl⟩
theorem gL (rs:List ByteArray) (m0:J0) (C2:rs.length<=1000) (G2:I1) (hal:G2.length<=2000) (has:∀x∈G2,x.size<=1099511627776) (role:Nat) (me:H6) (C0:E5) (fr:Fr) (h:AH) (hh:h.boxes=[C0,(B8 (HM me)).cells]) (v0:AV) (hv0:A0 fr 8=v0) (hg0:In false 4 (A4 G2) v0 h) (hl:fr.length=102) (h1:A0 fr 1=.int .i64 (role:Nat)) (h7:A0 fr 7=.ptr 1 0) (h46:A0 fr 46=sl m0 1 (rs.map AV.str)) (h47:A0 fr 47=.int .i64 rs.length) (h48:A0 fr 48=.int .i64 0) :
  C8 (lp (A1 (Q8 Q) (G8 L4) V6) (fr,h)) λe D3 h'=>Kp V6.wr fr D3/\e=.exit 2/\h'.boxes=[C0,(B8 (HM me)).cells]/\In false 4 (A4 (j9 G2 (JM (true,true) me rs role rs.length))) (A0 D3 8) h':=by
 refine C3 rfl fr (λn fr h'=>∃(i:Nat),i+n=rs.length/\A0 fr 48=.int .i64 (i:Nat)/\(∃v,A0 fr 8=v/\h'.boxes=[C0,(B8 (HM me)).cells]/\In false 4 (A4 (j9 G2 (JM (true,true) me rs role i))) v h')) ?_ rs.length h ⟨0,by omega,h48,_,hv0,hh,hg0⟩;rintro J Φ hJ hΦ n H0 H1 K ⟨i,hi,k48,hr⟩;have B5:=K.1.trans hl;have k1:=A5 K 1 h1;have k7:=A5 K 7 h7;have k46:=A5 K 46 h46;have k47:=A5 K 47 h47;clear K;by_cases A7:i<rs.length
 .have V9:=E6 i (by omega);obtain⟨v,k8,hB,hg⟩:=hr;obtain⟨bx,fams⟩:=H1;simp only at hB;subst hB;have hx:=H8 (f:=AV.str) (oD A7);have JS:=Ca (JM (true,true) me rs role i) G2;have hl3:=PE (true,true) me rs role i;have K3:∀x∈j9 G2 (JM (true,true) me rs role i),x.size<=1099511627776:=λx hx=>by
   rcases Cb _ _ hx with h|h
   .exact has x h
   .have:=MY _ _ _ _ _ x h;omega
  have Cf:JM (true,true) me rs role (i+1)=JM (true,true) me rs role i++(if i=role then []else [TA (true,true) me rs[i],TA (true,true) rs[i] me]):=by
   rw[JM,oD A7]
  generalize rs[i]=a at *
  by_cases hir:i=role
  .rw[if_pos hir,xh]at Cf;rw[←Cf]at hg;subst hir;simp[V6,B5,k1,k46,k47,k48,A7,V9,hx];exact O9 hJ ⟨i+1,by omega,by simp[B5],v,by simp[k8],by simp,P5 hg rfl⟩
  .rw[if_neg hir]at Cf;have hii:¬(i:Int)=(role:Int):=by omega
   have hG:=SH a;have hA:=SI (bs [115,104,107]) (true,true) [HM me,HM a];have hA2:=SI (bs [115,104,107]) (true,true) [HM a,HM me];rw[show A4 [HM me,HM a]=[B8 (HM me),B8 (HM a)] from rfl]at hA;rw[show A4 [HM a,HM me]=[B8 (HM a),B8 (HM me)] from rfl]at hA2;change pc Q r6 _=some (B8 (TA (true,true) me a))at hA;change pc Q r6 _=some (B8 (TA (true,true) a me))at hA2;obtain⟨v',F',hK,DF⟩:=Oy _ v ⟨[C0,(B8 (HM me)).cells],fams⟩ hg (TA (true,true) me a) (by omega) K3 (by simp[TA,Y3,HM,Tm.size,Tm.sizes]);obtain⟨v2,F2,hK2,hg2⟩:=Oy _ v' ⟨[C0,(B8 (HM me)).cells],F'⟩ DF (TA (true,true) a me) (by have:=(WV (j9 G2 (JM (true,true) me rs role i)) (TA (true,true) me a)).1;omega) (λx hx=>by
    rcases WW hx with h|h
    .exact K3 x h
    .subst h;simp[TA,Y3,HM,Tm.size,Tm.sizes]) (by simp[TA,Y3,HM,Tm.size,Tm.sizes])
   have e1:Jt (Jt (j9 G2 (JM (true,true) me rs role i)) (TA (true,true) me a)) (TA (true,true) a me)=j9 G2 (JM (true,true) me rs role (i+1)):=by
    rw[Cf,OT];rfl
   rw[e1]at hg2;clear e1 Cf hg DF K3;generalize TA (true,true) me a=t2 at *
   generalize TA (true,true) a me=t1 at *
   simp only[H4]at hK hK2;generalize HM a=t0 at *
   generalize HM me=tm at *
   simp[V6,B5,k1,k7,k46,k47,k48,A7,V9,k8,hx,hii,hG,hA,hA2,A3,hK,hK2];exact O9 hJ ⟨i+1,by omega,by simp[B5],v2,by simp[B5],by simp,hg2⟩
 .obtain⟨v,k8,hB,hg⟩:=hr;have hi2:i=rs.length:=by omega
  subst hi2;simp[V6,B5,k47,k48];exact hΦ _ _ _ ⟨rfl,hB,by simp[k8];exact P5 hg rfl⟩
theorem gK (l:I1) (m0:J0) (C2:l.length<=1000) (G2:I1) (hal:G2.length<=5000) (has:∀x∈G2,x.size<=1099511627776) (hls:∀x∈l,x.size<=1099511627776) (C0:E5) (fr:Fr) (h:AH) (B0:List (List AV)) (hB0:h.boxes=C0::B0) (v0:AV) (hv0:A0 fr 8=v0) (hg0:In false 4 (A4 G2) v0 h) (hl:fr.length=102) (h73:A0 fr 73=sl m0 4 (A4 l)) (h74:A0 fr 74=.int .i64 l.length) (h75:A0 fr 75=.int .i64 0) :
  C8 (lp (A1 (Q8 Q) (G8 L4) j7) (fr,h)) λe D3 h'=>Kp j7.wr fr D3/\e=.exit 4/\(∃B,h'.boxes=C0::B)/\In false 4 (A4 (j9 G2 l)) (A0 D3 8) h':=by
 refine C3 rfl fr (λn fr h'=>∃(i:Nat),i+n=l.length/\A0 fr 75=.int .i64 (i:Nat)/\(∃(B:List (List AV)) (v:AV),A0 fr 8=v/\h'.boxes=C0::B/\In false 4 (A4 (j9 G2 (l.take i))) v h')) ?_ l.length h ⟨0,by omega,h75,_,_,hv0,hB0,hg0⟩;rintro J Φ hJ hΦ n H0 H1 K ⟨i,hi,k75,hr⟩;have B5:=K.1.trans hl;have k73:=A5 K 73 h73;have k74:=A5 K 74 h74;clear K;by_cases A7:i<l.length
 .have V9:=E6 i (by omega);obtain⟨B,v,k8,hB,hg⟩:=hr;obtain⟨bx,fams⟩:=H1;simp only at hB;subst hB;have hx:=U2 A7;have JS:=Ca (l.take i) G2;rw[xZ]at JS;have K3:∀x∈j9 G2 (l.take i),x.size<=1099511627776:=λx hx=>by
   rcases Cb _ _ hx with h|h
   .exact has x h
   .exact hls x (xc h)
  have hli:=hls _ (xg A7);have Cf:l.take (i+1)=l.take i++[l[i]]:=xX A7;generalize l[i]=t at *
  obtain⟨v',F',hK,DF⟩:=Oy _ v ⟨C0::(B++[(B8 t).cells]),fams⟩ (P5 hg rfl) t (by omega) K3 hli;have e1:Jt (j9 G2 (l.take i)) t=j9 G2 (l.take (i+1)):=by
   rw[Cf,OT];rfl
  rw[e1]at DF;clear e1 Cf hg K3;simp only[H4]at hK;simp[j7,B5,k73,k74,k75,A7,V9,k8,hx,hK];exact O9 hJ ⟨i+1,by omega,by simp[B5],_,v',by simp[B5],rfl,P5 DF rfl⟩
 .obtain⟨B,v,k8,hB,hg⟩:=hr;rw[xY (by omega)]at hg;simp[j7,B5,k74,k75,A7];exact hΦ _ _ _ ⟨rfl,⟨B,hB⟩,by simp[k8];exact P5 hg rfl⟩
theorem gJ (r na:Nar) (l:List Ste) (q:Nat) (hq:q<=r.steps.length) (hlq:l=r.steps.take q) (C2:l.length<=1000) (G2:I1) (hal:G2.length<=7000) (has:∀x∈G2,x.size<=1099511627776) (hls:∀x∈l,x.msg.size<=1099511627776) (role:Nat) (me:H6) (hme:r.roles[role]?=some me) (fr:Fr) (h:AH) (B0:List (List AV)) (hB0:h.boxes=(Dx r na).cells::B0) (v0:AV) (hv0:A0 fr 8=v0) (hg0:In false 4 (A4 G2) v0 h) (hl:fr.length=102) (h1:A0 fr 1=.int .i64 (role:Nat)) (h3:A0 fr 3=.ptr 0 0) (h83:A0 fr 83=.int .i64 l.length) (h84:A0 fr 84=.int .i64 0) :
  C8 (lp (A1 (Q8 Q) (G8 L4) V5) (fr,h)) λe D3 h'=>Kp V5.wr fr D3/\e=.exit 6/\In false 4 (A4 (j9 G2 (UL me l))) (A0 D3 8) h':=by
 refine C3 rfl fr (λn fr h'=>∃(i:Nat),i+n=l.length/\A0 fr 84=.int .i64 (i:Nat)/\(∃(B:List (List AV)) (v:AV),A0 fr 8=v/\h'.boxes=(Dx r na).cells::B/\In false 4 (A4 (j9 G2 (UL me (l.take i)))) v h')) ?_ l.length h ⟨0,by omega,h84,_,_,hv0,hB0,hg0⟩;rintro J Φ hJ hΦ n H0 H1 K ⟨i,hi,k84,hr⟩;have B5:=K.1.trans hl;have k1:=A5 K 1 h1;have k3:=A5 K 3 h3;have k83:=A5 K 83 h83;clear K;by_cases A7:i<l.length
 .have V9:=E6 i (by omega);obtain⟨B,v,k8,hB,hg⟩:=hr;obtain⟨bx,fams⟩:=H1;simp only at hB;subst hB;have sb:=BK r na;have hlr:i<r.steps.length:=by rw[hlq,xZ]at A7;omega
  have hli:l[i]=r.steps[i]:=by simp only[hlq,List.getElem_take]
  have hx:=H8 (f:=Ci) (oD hlr);have hI:=Xj r na role me hme i hlr;have JS:=Ca (UL me (l.take i)) G2;have hml:(UL me (l.take i)).length<=i:=by
   unfold UL;rw[xi];have:=List.length_filter_le (JT me) (l.take i);rw[xZ]at this;omega
  have K3:∀x∈j9 G2 (UL me (l.take i)),x.size<=1099511627776:=λx hx=>by
   rcases Cb _ _ hx with h|h
   .exact has x h
   .unfold UL at h;rw[xd]at h;obtain⟨s,hs,rfl⟩:=h;exact hls s (xc (List.mem_filter.1 hs).1)
  have hli2:=hls _ (xg A7);have Cf:=gX (me:=me) A7;rw[hli]at Cf hli2;generalize r.steps[i]=s at *
  cases hb:JT me s with
  |false =>
   rw[hb]at Cf hI;simp only[Bool.false_eq_true,if_false,xh]at Cf;rw[←Cf]at hg;simp[V5,B5,k1,k3,k83,k84,A7,V9,sb,hI];exact O9 hJ ⟨i+1,by omega,by simp[B5],_,v,by simp[k8],by rw[sb],P5 hg rfl⟩
  |true =>
   rw[hb]at Cf hI;simp only[if_true]at Cf;obtain⟨v',F',hK,DF⟩:=Oy _ v ⟨(Dx r na).cells::B,fams⟩ hg s.msg (by omega) K3 hli2;have e1:Jt (j9 G2 (UL me (l.take i))) s.msg=j9 G2 (UL me (l.take (i+1))):=by
    rw[Cf,OT];rfl
   rw[e1]at DF;clear e1 Cf hg K3;rw[sb]at hK;simp[V5,B5,k1,k3,k83,k84,A7,V9,sb,k8,hI,hx,hK];exact O9 hJ ⟨i+1,by omega,by simp[B5],B,v',by simp[B5],by rw[sb],P5 DF rfl⟩
 .obtain⟨B,v,k8,hB,hg⟩:=hr;rw[xY (by omega)]at hg;simp[V5,B5,k83,k84,A7];exact hΦ _ _ _ ⟨rfl,by simp[k8];exact P5 hg rfl⟩
end Go.Abs.Q
