/- A part of the proof. -/
import Derived.Test.YtohjdamplbhdpaaGreatDoorSG26
import Derived.Test.YtohjdamplbhdpaaGreatDoorSG27
import Derived.ProofKit
import Derived.WalkKit
import Derived.Lib.Strings
import Derived.Lib.Slices
import Derived.Lib.Walk
import Derived.Lib.Bytealg
import Derived.KernelRfl
import Derived.Test.YtohjdamplbhdpaaGreatDoorCards
import Derived.Test.YtohjdamplbhdpaaGreatDoorTie
import Derived.OpenShut
import Derived.JoinedCond
import Derived.Deep.DeepHandedRow
import Derived.Lib.LaidTab
set_option linter.all false
open List renaming length_take->xk,length_append->xl,getElem?_toArray->xo,getElem?_append_left->xp,take_succ_eq_append_getElem->xq,getElem?_drop->xt,getElem?_append_right->xu,size_toArray->xw,getElem?_eq_some_iff->xy,getElem?_eq_getElem->xz,take_of_length_le->yA,getElem?_take->yB,length_drop->yD,map_append->yE,map_cons->yG,mem_cons->yH,map_nil->yI,mem_map->yJ
open Array renaming getElem?_append_left->xm,size_append->xn
open Nat renaming zero_add->xr,zero_le->yC,min_eq_left->yF,lt_or_ge->yK,succ_mul->yL,le_refl->yM
namespace Go.Abs
theorem Jo {α:Type} {cs vs:List α} {A:Nat} (hA:A<=cs.length) (j:Nat):(cs.take A++vs++cs.drop A)[j]?=if j<A then cs[j]? else if j<A+vs.length then vs[j-A]? else cs[j-vs.length]?:=by
 by_cases h1:j<A
 .rw[if_pos h1,xp (by rw[xl,xk];omega),xp (by rw[xk];omega),yB,if_pos h1]
 .rw[if_neg h1];by_cases h2:j<A+vs.length
  .rw[if_pos h2,xp (by rw[xl,xk];omega),xu (by rw[xk];omega),xk,yF hA]
  .rw[if_neg h2,xu (by rw[xl,xk];omega),xl,xk,yF hA,xt];congr 1;omega
theorem LR {cur us:Array Value} {vs:List Value} {off:Nat} (BU:off+vs.length<=cur.size) (Qq:us=(cur.toList.take off++vs++cur.toList.drop (off+vs.length)).toArray) (j:Nat):us[j]?=if j<off then cur[j]? else if j<off+vs.length then vs[j-off]? else cur[j]?:=by
 have:=Gh (l:=cur.toList) (off:=off) (vs:=vs) (by simpa using BU) j;simp only[Array.getElem?_toList]at this;rw[Qq,xo,this]
theorem lO {cur us:Array Value} {cs vs:List Value} {o N:Nat} (Cc:cs.length=N) (hcc:∀j,j<N->cur[o+j]?=cs[j]?) (BU:o+N+vs.length<=cur.size) (Qq:us=(cur.toList.take (o+N)++vs++cur.toList.drop (o+N+vs.length)).toArray) :
  ∀j,j<N+vs.length->us[o+j]?=(cs.take N++vs++cs.drop N)[j]?:=by
 intro j hj;rw[LR BU Qq,Jo (by omega)];by_cases h1:j<N
 .rw[if_pos (by omega),if_pos h1,hcc j h1]
 .rw[if_neg (by omega),if_pos (by omega),if_neg h1,if_pos hj];congr 1;omega
theorem lP {cur us1 us2:Array Value} {cs vs:List Value} {o N A:Nat} (Cc:cs.length=N) (hA:A<=N) (hcc:∀j,j<N->cur[o+j]?=cs[j]?) (BU:o+N+vs.length<=cur.size)
  (hu1:us1=(cur.toList.take (o+(A+vs.length))++cs.drop A++cur.toList.drop (o+(A+vs.length)+(cs.drop A).length)).toArray) (hu2:us2=(us1.toList.take (o+A)++vs++us1.toList.drop (o+A+vs.length)).toArray) :
  us2.size=cur.size/\∀j,j<N+vs.length->us2[o+j]?=(cs.take A++vs++cs.drop A)[j]?:=by
 have hd:(cs.drop A).length=N-A:=by rw[yD,Cc]
 have hs1:us1.size=cur.size:=by rw[hu1];simp;omega
 refine⟨by rw[hu2];simp;omega,λj hj=>?_⟩;rw[LR (by omega) hu2,Jo (by omega)];by_cases h1:j<A
 .rw[if_pos (by omega),if_pos h1,LR (by omega) hu1,if_pos (by omega),hcc j (by omega)]
 .rw[if_neg (by omega),if_neg h1];by_cases h2:j<A+vs.length
  .rw[if_pos (by omega),if_pos h2];congr 1;omega
  .rw[if_neg (by omega),if_neg h2,LR (by omega) hu1,if_neg (by omega),if_pos (by omega),xt];congr 1;omega
end Go.Abs
namespace Go.Proofs
open Go.RowKit Go.Lib Go.Abs
set_option maxRecDepth 100000 in
theorem Tryz.insLaw:InsLaw Tryz.prog 158 4 56:=by
 obtain⟨i0,z,hi0,K4,hz0,hzs,hby⟩:∃i0 z,Tryz.prog.info? 32=some i0/\i0.size=4/\i0.zero=some z/\z.cells.size=4/\i0.bytes=56:=⟨_,_,rfl,by kernel_rfl,rfl,by kernel_rfl,by kernel_rfl⟩;refine⟨by omega,by kernel_rfl,?_,?_⟩
 .intro w blk o n c i vb vo vc cur t cs vs Yt hnc hcm Cc hvl hcur hcc BU Lg M5 h1c h1v;rcases yK i n with A6|hge
  .obtain⟨us1,hu1⟩:∃us1,us1=(cur.toList.take (o+(i+1)*4)++cs.drop (i*4)++cur.toList.drop (o+(i+1)*4+(cs.drop (i*4)).length)).toArray:=⟨_,rfl⟩;obtain⟨us2,hu2⟩:∃us2,us2=(us1.toList.take (o+i*4)++vs++us1.toList.drop (o+i*4+vs.length)).toArray:=⟨_,rfl⟩;have h:=lP (o:=o) (A:=i*4) (vs:=vs) Cc (Nat.mul_le_mul_right _ Yt) hcc (by omega) (by rw[hvl,←yL];exact hu1) hu2;rw[hvl,←yL]at h;exact(Tryz.ins_shift blk o n c i vb vo vc cur us1 us2 t cs vs w A6 hnc hcm Cc hvl M5 hcur BU hcc Lg h1c h1v hu1 hu2).mono λe w' ⟨h1,h2⟩=>⟨h1,1,us2,h2.trans (setRow_setRow _ _ _ _),h⟩
  .have e:i=n:=by omega
   subst e;obtain⟨us,Qq⟩:∃us,us=(cur.toList.take (o+i*4)++vs++cur.toList.drop (o+i*4+vs.length)).toArray:=⟨_,rfl⟩;have h:=lO (o:=o) (vs:=vs) Cc hcc (by omega) Qq;refine(Tryz.ins_end_room blk o i c vb vo vc cur t vs w hnc hcm hvl hcur BU Lg h1v us Qq).mono λe w' ⟨h1,h2⟩=>⟨h1,0,us,h2,?_,?_⟩
   .rw[Qq];simp;omega
   .intro j hj;exact h j (by omega)
 .intro w base n c i vb vo vc cs vs Yt hnc t6 hm hbig Cc hvl hnil HM Lg h1c h1v;have hbig':(n+1)*i0.bytes<=140737488355328:=by rw[hby];exact hbig
  have hG1:=grownCap_ge w (n+1) c 32;have hG2:=grownCap_le_maxLen w (n+1) c 32 hm;rcases yK i n with A6|hge
  .cases base with
   |none=>exact absurd (hnil rfl) (by omega)
   |some a =>
    obtain⟨blk,o,sp⟩:=a;obtain⟨hsp,HM⟩:=HM _ rfl;have:=hsp (by omega);simp only at this;subst this;have hcs':∀j v,cs[j]?=some v->w.cell? ⟨blk,o+j,none⟩=some v:=λj v hj=>by
     have:=HM j v hj
     rwa [Bm]at this
    obtain⟨ROW,hROW⟩:∃ROW,ROW=(cs.take (i*4)).toArray++Builtin.zeroCells z.cells (n+1-i)++Builtin.zeroCells z.cells (grownCap w (n+1) c 32-(n+1)):=⟨_,rfl⟩;obtain⟨us1,hu1⟩:∃us1,us1=(ROW.toList.take (i*4)++vs++ROW.toList.drop (i*4+vs.length)).toArray:=⟨_,rfl⟩;obtain⟨us2,hu2⟩:∃us2,us2=(us1.toList.take ((i+1)*4)++cs.drop (i*4)++us1.toList.drop ((i+1)*4+(cs.drop (i*4)).length)).toArray:=⟨_,rfl⟩;have hRs:ROW.size=grownCap w (n+1) c 32*4:=by
     rw[hROW,xn,xn,size_zeroCells,size_zeroCells,hzs,xw,xk,Cc];omega
    have hR0:∀j,j<i*4->ROW[j]?=cs[j]?:=λj hj=>by
     rw[hROW,xm (by simp;omega),xm (by simp;omega),xo,yB,if_pos hj]
    have hs1:us1.size=ROW.size:=by rw[hu1];simp;omega
    have hd:(cs.drop (i*4)).length=n*4-i*4:=by rw[yD,Cc]
    refine(Tryz.ins_grow blk o n c i vb vo vc us1 us2 cs vs w i0 z hi0 hz0 K4 hzs A6 hnc t6 hm hbig' Cc hvl hcs' Lg h1c h1v ROW hROW hu1 hu2).mono λe w' ⟨h1,q,h2⟩=>⟨q,_,us2,_,h1,h2,hG1,hG2,?_,?_⟩
    .rw[hu2];simp;omega
    .intro j hj;rw[LR (by omega) hu2,Jo (by omega),hvl];by_cases h1:j<i*4
     .rw[if_pos (by omega),if_pos h1,LR (by omega) hu1,if_pos h1,hR0 j h1]
     .rw[if_neg h1];by_cases h2:j<i*4+4
      .rw[if_pos (by omega),if_pos h2,LR (by omega) hu1,if_neg h1,if_pos (by omega)]
      .rw[if_neg (by omega),if_neg h2,if_pos (by omega),xt];congr 1;omega
  .have e:i=n:=by omega
   subst e;refine(Tryz.ins_end_grow base i c vb vo vc cs vs w i0 z hi0 hz0 K4 hnc t6 hm hbig' Cc hvl hnil (λa ha=>(HM a ha).2) Lg h1v).mono λe w' ⟨h1,h2⟩=>⟨1,_,_,_,h1,h2,hG1,hG2,?_,?_⟩
   .rw[xn,size_zeroCells,hzs,xw,xl,Cc,hvl];omega
   .intro j hj;rw[xm (by simp;omega),xo,yA (by omega),List.drop_eq_nil_of_le (by omega),List.append_nil]
end Go.Proofs
namespace Go.Abs
open Go.RowKit (Below)
section
variable {P:Program} {E:Env}
structure InsLaw0 (P:Program) (f:FuncId) (K bytes:Nat):Prop where
 pos:0<K
 enter:Program.enterable P f=true
 newR:∀(w:World) (base:Option Addr) (vb vo vc:Nat) (vs:List Value),bytes<=G4->vs.length=K->(∀j v,vs[j]?=some v->w.cell? ⟨vb,vo+j,none⟩=some v)->(∀v∈vs,v.oneCell'=true) ->
  Calls P f #[.slice base 0 0,.int .i64 0,.slice (some ⟨vb,vo,none⟩) 1 vc] w λe w'=>∃(q G:Nat) (us:Array Value) (t:TypeId),e=.returned (.slice (some ⟨w.heap.size,0,none⟩) 1 G)/\w'=(w.drewN q).alloc (.cells us t)/\1<=G/\G<=maxLen/\G*K<=us.size /\
   ∀j,j<K->us[j]?=vs[j]?
theorem ZS {f:FuncId} {K bytes:Nat} (L:InsLaw0 P f K bytes) (O:Orc) (args:E6) (h:AH) (r:AV) (h':AH) (he:(az K bytes).run O args h=some (r,h')):Program.enterable P f=true /\
  ∀(E:Env) (vs:Array Value),SR E->E.h=h->x6 E args vs.toList ->
   Calls P f vs E.w λe w'=>∃u E',e=.returned u/\w'=E'.w/\Ext E E'/\SR E'/\E'.h=h'/\VR E' r u:=by
 refine⟨L.enter,λE avs hS hh hv=>?_⟩;subst hh;change Ov K bytes args E.h=some (r,h')at he;unfold Ov at he;split at he
 .rename_i z' i0 x0;unfold Ku at he;split at he
  .rename_i s i q z x heq;cases heq;split at he
   .rename_i hc0;obtain⟨hzK,hag⟩:=hc0;obtain⟨avs⟩:=avs;simp only[x6]at hv;obtain⟨v0,_,rfl,hv0,v1,_,rfl,hv1,v2,_,rfl,hv2,rfl⟩:=hv;simp only[VR]at hv1;subst hv1;obtain⟨vb,vo,vc,vs,rfl,hvl,hvc,hv1c,hvr,hK⟩:=UX hS hzK hv2;have hvc1:∀j u,vs[j]?=some u->E.w.cell? ⟨vb,vo+j,none⟩=some u:=λj u hu=>(hvc j u hu).1;simp only at he;split at he
    .rename_i hc;obtain⟨rfl,hb⟩:=hc;cases he;simp only[VR,PV]at hv0;obtain⟨base,len,cap,rfl,rfl,_,_,h4',_,_⟩:=hv0;have hcap:cap=0:=h4' trivial;subst hcap;refine(L.newR E.w base vb vo vc vs hb hvl hvc1 hv1c).mono λe w' ⟨q,G,us,te,h1,h2,h3,h4,h5,h6⟩=>?_;have x1:=AJ hS (EV E.w q);have s1:=Do hS (EV E.w q);refine⟨_,({E with w:=E.w.drewN q}:Env).newFam us te G ⟨[x],K,true⟩,h1,h2,x1.trans (Gc s1 _ _ _ _),KN s1 hK (by simpa using h3) h4 h5 (λj y hy=>?_),rfl,?_⟩
     .obtain⟨g1,g2⟩:=Lx x1 hvr j y hy;refine⟨g1,λc y' hy'=>?_⟩;obtain⟨v,v1,v2⟩:=g2 c y' hy';have hjn:j=0:=by have:=(xy.1 hy).1;simpa using this
      have hcK:c<K:=by have:=(xy.1 hy').1;omega
      subst hjn;rw[Nat.zero_mul,xr]at v1 ⊢;exact⟨v,by rw[h6 _ hcK];exact v1,v2⟩
     .simp only[VR,Env.newFam,X3];exact⟨_,_,⟨[x],K,true⟩,rfl,by simp,⟨by simp,λ_=>⟨_,_,rfl⟩⟩,λ_=>⟨yC _,by simp,by simp,(λh=>nomatch h),λ_=>by simp⟩⟩
    .cases he
   .cases he
  .cases he
 .cases he
structure GrowLaw (P:Program) (f:FuncId) (K bytes:Nat):Prop where
 pos:0<K
 enter:Program.enterable P f=true
 zero:∀(w:World) (base:Option Addr),Calls P f #[.slice base 0 0,.int .i64 0] w λe w'=>e=.returned (.slice base 0 0)/\w'=w
 some:∀(w:World) (base:Option Addr) (n:Nat),0<n->n*bytes<=G4->n<=maxLen ->
  Calls P f #[.slice base 0 0,.int .i64 n] w λe w'=>∃(q G:Nat) (us:Array Value) (t:TypeId),e=.returned (.slice (some ⟨w.heap.size,0,none⟩) 0 G)/\w'=(w.drewN q).alloc (.cells us t)/\G<=maxLen/\G*K<=us.size
theorem ZR {f:FuncId} {K bytes:Nat} (L:GrowLaw P f K bytes) (O:Orc) (args:E6) (h:AH) (r:AV) (h':AH) (he:(UL K bytes).run O args h=some (r,h')):Program.enterable P f=true /\
  ∀(E:Env) (vs:Array Value),SR E->E.h=h->x6 E args vs.toList ->
   Calls P f vs E.w λe w'=>∃u E',e=.returned u/\w'=E'.w/\Ext E E'/\SR E'/\E'.h=h'/\VR E' r u:=by
 refine⟨L.enter,λE avs hS hh hv=>?_⟩;subst hh;change NJ K bytes args E.h=some (r,h')at he;unfold NJ at he;split at he
 .rename_i z n;obtain⟨avs⟩:=avs;simp only[x6]at hv;obtain⟨v0,_,rfl,hv0,v1,_,rfl,hv1,rfl⟩:=hv;simp only[VR]at hv1;subst hv1;have hv0':=hv0;simp only[VR,PV]at hv0;obtain⟨base,len,cap,rfl,rfl,_,_,h4',_,_⟩:=hv0;have hcap:cap=0:=h4' trivial;subst hcap;split at he
  .rename_i h0;subst h0;cases he;exact(L.zero E.w base).mono λe w' ⟨h1,h2⟩=>⟨_,E,h1,h2,Ext.refl E,hS,rfl,hv0'⟩
  .split at he
   .rename_i hc;obtain⟨c1,c2,c3⟩:=hc;cases he;obtain⟨m,rfl⟩:∃m:Nat,n=m:=⟨n.toNat,by omega⟩;refine(L.some E.w base m (by omega) (by exact_mod_cast c2) (by exact_mod_cast c3)).mono λe w' ⟨q,G,us,te,h1,h2,h3,h4⟩=>?_;have x1:=AJ hS (EV E.w q);have s1:=Do hS (EV E.w q);refine⟨_,({E with w:=E.w.drewN q}:Env).newFam us te G ⟨[],K,false⟩,h1,h2,x1.trans (Gc s1 _ _ _ _),KN s1 L.pos (yC _) h3 h4 (λj y hy=>by simp at hy),rfl,?_⟩
    simp only[VR,Env.newFam,X3];exact⟨_,_,⟨[],K,false⟩,rfl,by simp,⟨by simp,λh=>absurd rfl h⟩,λ_=>⟨yC _,by simp,by simp,(λh=>nomatch h),λ_=>by simp⟩⟩
   .cases he
 .cases he
end
end Go.Abs
set_option linter.unusedVariables false
set_option linter.unusedSimpArgs false
namespace Go.Proofs
open Go.RowKit Go.Lib Go.Abs
theorem Tryz.powsUnd:Tryz.prog.underlying 163=some (.slice 167):=by kernel_rfl
set_option maxHeartbeats 4000000 in
set_option maxRecDepth 100000 in
theorem Tryz.insp_nil (base:Option Addr) (vb vo vc:Nat) (vs:List Value) (w:World) (i0:TypeInfo) (z:Value) (hi0:Tryz.prog.info? 167=some i0) (hz0:i0.zero=some z) (K4:i0.size=5) (hbig:i0.bytes<=140737488355328)
  (hvl:vs.length=5) (Lg:∀j v,vs[j]?=some v->w.cell? ⟨vb,vo+j,none⟩=some v) (h1v:∀v∈vs,v.oneCell'=true) :
  Calls Tryz.prog 311 #[.slice base 0 0,.int .i64 0,.slice (some ⟨vb,vo,none⟩) 1 vc] w λe w'=>e=.returned (.slice (some ⟨w.heap.size,0,none⟩) 1 (grownCap w 1 0 167)) /\
   w'=w.drew.alloc (.cells (vs.toArray++Builtin.zeroCells z.cells (grownCap w 1 0 167-1)) 167):=by
 have hsrc:Src Tryz.prog i0.size 163 (.slice (some ⟨vb,vo,none⟩) 1 vc) 1 vs w:=Src.ofSlice w Tryz.powsUnd ⟨vb,vo,none⟩ 1 vc vs (by rw[K4,hvl]) (λj u hj=>by rw[Addr.add_lit];exact Lg j u hj) h1v;have hold:(Builtin.firstCells i0.size 0 (.slice base 0 0)).run Tryz.prog w.drew=.ok ([]:List Value).toArray w.drew:=by
  rw[K4];cases base with
  |none=>exact run_firstCells_none w.drew 5 0 0 0
  |some a=>exact run_firstCells_some w.drew 5 0 a 0 0 [] rfl (λj v hj=>by simp at hj)
 have hrun:∀ty,(Builtin.append_ #[163,163] ty #[.slice base 0 0,.slice (some ⟨vb,vo,none⟩) 1 vc]).run Tryz.prog w=_:=λty =>
  run_append_grow_src w 163 163 ty 167 i0 z Tryz.powsUnd hi0 hz0 base 0 0 [] hold _ 1 vs hsrc (by omega) (by omega) (growslice_fits (by omega) (by rw[xr,Nat.one_mul];exact hbig))
 rw[xr,List.nil_append]at hrun;generalize hG:grownCap w 1 0 167=G at *
 generalize hR:vs.toArray++Builtin.zeroCells z.cells (G-1)=R at *
 clear hR hold hsrc hG
 go_enter Tryz.func311,Tryz.ntmps311
 cases base with
 |none =>
  go_wp2_with (at_builtin;refine Lib.wpList_append_run _ rfl _ _ _ _ rfl _ _ rfl rfl _ _ (hrun _) ?_)
  go_ret
  exact⟨rfl,rfl⟩
 |some a =>
  obtain⟨ab,ao,asp⟩:=a
  go_wp2_with (at_builtin;refine Lib.wpList_append_run _ rfl _ _ _ _ rfl _ _ rfl rfl _ _ (hrun _) ?_)
  all_goals (go_ret;exact⟨rfl,rfl⟩)
set_option maxRecDepth 100000 in
theorem Tryz.insLawP:InsLaw0 Tryz.prog 311 5 64:=by
 obtain⟨i0,z,hi0,K4,hz0,hzs,hby⟩:∃i0 z,Tryz.prog.info? 167=some i0/\i0.size=5/\i0.zero=some z/\z.cells.size=5/\i0.bytes=64:=⟨_,_,rfl,by kernel_rfl,rfl,by kernel_rfl,by kernel_rfl⟩;refine⟨by omega,by kernel_rfl,?_⟩;intro w base vb vo vc vs hb hvl Lg h1v;have hG1:=grownCap_ge w 1 0 167;have hG2:=grownCap_le_maxLen w 1 0 167 (by unfold maxLen;omega);refine(Tryz.insp_nil base vb vo vc vs w i0 z hi0 hz0 K4 (by rw[hby];omega) hvl Lg h1v).mono λe w' ⟨h1,h2⟩=>⟨1,_,_,_,h1,h2,hG1,hG2,?_,?_⟩
 .rw[xn,size_zeroCells,hzs,xw,hvl];omega
 .intro j hj;rw[xm (by simp;omega),xo]
set_option maxHeartbeats 4000000 in
set_option maxRecDepth 100000 in
theorem Tryz.growZero (base:Option Addr) (w:World):Calls Tryz.prog 147 #[.slice base 0 0,.int .i64 0] w λe w'=>e=.returned (.slice base 0 0)/\w'=w:=by
 go_enter Tryz.func147,Tryz.ntmps147
 go_wp2
 go_ret
 exact⟨rfl,rfl⟩
set_option maxHeartbeats 4000000 in
set_option maxRecDepth 100000 in
theorem Tryz.growSome (base:Option Addr) (n:Nat) (w:World) (i0:TypeInfo) (z:Value) (hi0:Tryz.prog.info? 32=some i0) (hz0:i0.zero=some z) (K4:i0.size=4) (h0:0<n) (hm:n<=maxLen) (hbig:n*i0.bytes<=140737488355328) :
  Calls Tryz.prog 147 #[.slice base 0 0,.int .i64 n] w λe w'=>e=.returned (.slice (some ⟨w.heap.size,0,none⟩) 0 (grownCap w n 0 32)) /\
   w'=w.drew.alloc (.cells (Builtin.zeroCells z.cells n++Builtin.zeroCells z.cells (grownCap w n 0 32-n)) 32):=by
 have uc:maxLen<=9223372036854775807:=by unfold maxLen;omega
 have mixed:Tryz.prog.follows Departure.mixedOrders=true:=by kernel_rfl
 have hold:(Builtin.firstCells i0.size 0 (.slice base 0 0)).run Tryz.prog w.drew=.ok ([]:List Value).toArray w.drew:=by
  rw[K4];cases base with
  |none=>exact run_firstCells_none w.drew 4 0 0 0
  |some a=>exact run_firstCells_some w.drew 4 0 a 0 0 [] rfl (λj v hj=>by simp at hj)
 have hrz:∀ty,(Builtin.append_ #[30,3] ty #[.slice base 0 0,.int .i64 (n:Int)]).run Tryz.prog w =
   .ok (.slice (some ⟨w.heap.size,0,none⟩) n (grownCap w n 0 32)) (w.drew.alloc (.cells (Builtin.zeroCells z.cells n++Builtin.zeroCells z.cells (grownCap w n 0 32-n)) 32)):=λty=>by
  have h:=Lib.run_append_grow_zeros w 30 3 ty 32 i0 z .i64 .i64 Tryz.termsUnd Tryz.intUnd hi0 hz0 base 0 0 [] hold n (by omega) (by omega) (by omega) (by omega) (by omega)
   (by rw[xr];exact growslice_fits (need:=n) (by omega) hbig)
  rw[xr]at h;simpa using h
 have hG63:grownCap w n 0 32<=9223372036854775807:=by
  have:=grownCap_le_maxLen w n 0 32 hm;omega
 generalize hG:grownCap w n 0 32=G at *
 generalize hR:Builtin.zeroCells z.cells n++Builtin.zeroCells z.cells (G-n)=R at *
 have h1:¬((n:Int)<0):=by omega
 have h2:wrap64 (n:Int)=(n:Int):=by unfold wrap64;omega
 have h4:(n:Int) > 0:=by omega
 clear hR hold hG
 go_enter Tryz.func147,Tryz.ntmps147
 cases base with
 |none =>
  go_wp2_with (at_builtin;refine Lib.wpList_append_run _ rfl _ _ _ _ rfl _ _ rfl rfl _ _ (hrz _) ?_)
  all_goals (go_ret;exact⟨rfl,rfl⟩)
 |some a =>
  obtain⟨ab,ao,asp⟩:=a
  go_wp2_with (at_builtin;refine Lib.wpList_append_run _ rfl _ _ _ _ rfl _ _ rfl rfl _ _ (hrz _) ?_)
  all_goals (go_ret;exact⟨rfl,rfl⟩)
set_option maxRecDepth 100000 in
theorem Tryz.growLaw:GrowLaw Tryz.prog 147 4 56:=by
 obtain⟨i0,z,hi0,K4,hz0,hzs,hby⟩:∃i0 z,Tryz.prog.info? 32=some i0/\i0.size=4/\i0.zero=some z/\z.cells.size=4/\i0.bytes=56:=⟨_,_,rfl,by kernel_rfl,rfl,by kernel_rfl,by kernel_rfl⟩;refine⟨by omega,by kernel_rfl,λw base=>Tryz.growZero base w,λw base n h0 hb hm=>?_⟩;have hG1:=grownCap_ge w n 0 32;refine(Tryz.growSome base n w i0 z hi0 hz0 K4 h0 hm (by rw[hby];exact hb)).mono λe w' ⟨h1,h2⟩=>⟨1,_,_,_,h1,h2,grownCap_le_maxLen w n 0 32 hm,?_⟩;rw[xn,size_zeroCells,size_zeroCells,hzs];omega
end Go.Proofs
namespace Go.Proofs
set_option maxHeartbeats 1000000 in
set_option maxRecDepth 100000 in
theorem Tryz.cmpString (a b:ByteArray) (w:World) :
  Calls Tryz.prog 134 #[.string a,.string b] w λe w'=>e=.returned (.int .i64 (Lib.compareBytes a.data.toList b.data.toList))/\w'=w:=by
 go_enter Tryz.func134,Tryz.ntmps134
 go_wp2
 rw[run_callFunc_extern Tryz.func187 (by kernel_rfl) (by kernel_rfl) (by kernel_rfl) (e:=Extern.BytealgCompare.compare) (by kernel_rfl),Lib.run_compareString];simp only[Result.andThen];rw[Oper.upon_value]
 go_wp2
 go_ret
 exact⟨rfl,rfl⟩
set_option maxHeartbeats 1000000 in
set_option maxRecDepth 100000 in
theorem Tryz.sliteIndexByte (s:ByteArray) (c:Int) (w:World) :
  Calls Tryz.prog 359 #[.string s,.int .u8 c] w λe w'=>e=.returned (.int .i64 (Lib.indexByte s.data.toList c.toNat.toUInt8))/\w'=w:=by
 go_enter Tryz.func359,Tryz.ntmps359
 go_wp2
 rw[run_callFunc_extern Tryz.func391 (by kernel_rfl) (by kernel_rfl) (by kernel_rfl) (e:=Extern.BytealgIndexByte.indexByte) (by kernel_rfl),Lib.run_indexByteString];simp only[Result.andThen];rw[Oper.upon_value]
 go_wp2
 go_ret
 exact⟨rfl,rfl⟩
set_option maxHeartbeats 2000000 in
set_option maxRecDepth 100000 in
theorem Tryz.sliteIndexOne (s:ByteArray) (c:UInt8) (w:World) :
  Calls Tryz.prog 304 #[.string s,.string ⟨#[c]⟩] w λe w'=>e=.returned (.int .i64 (Lib.indexByte s.data.toList c))/\w'=w:=by
 go_enter Tryz.func304,Tryz.ntmps304
 go_wp2_with (go_at_call 359;refine(Tryz.sliteIndexByte _ _ _).mono ?_;rintro e w' ⟨rfl,rfl⟩)
 .have h:([c] == s.toList)=true:=by assumption
  go_ret
  refine⟨?_,rfl⟩;have e:s.data.toList=[c]:=by rw[←Lib.toList_data];exact(beq_iff_eq.1 h).symm
  rw[e];simp[Lib.indexByte]
 .go_ret
  exact⟨rfl,rfl⟩
set_option maxHeartbeats 1000000 in
theorem Tryz.stringsIndexOne (s:ByteArray) (c:UInt8) (w:World) :
  Calls Tryz.prog 249 #[.string s,.string ⟨#[c]⟩] w λe w'=>e=.returned (.int .i64 (Lib.indexByte s.data.toList c))/\w'=w:=by
 go_enter Tryz.func249,Tryz.ntmps249
 go_wp2_with (go_at_call 304;refine(Tryz.sliteIndexOne _ _ _).mono ?_;rintro e w' ⟨rfl,rfl⟩)
 go_ret
 exact⟨rfl,rfl⟩
set_option maxHeartbeats 1000000 in
theorem Tryz.stringsContainsOne (s:ByteArray) (c:UInt8) (w:World) :
  Calls Tryz.prog 195 #[.string s,.string ⟨#[c]⟩] w λe w'=>e=.returned (.bool (decide (0<=Lib.indexByte s.data.toList c)))/\w'=w:=by
 go_enter Tryz.func195,Tryz.ntmps195
 go_wp2_with (go_at_call 249;refine(Tryz.stringsIndexOne _ _ _).mono ?_;rintro e w' ⟨rfl,rfl⟩)
 go_ret
 exact⟨rfl,rfl⟩
end Go.Proofs
namespace Go.Abs.Q
open Go.Proofs
open Go.RowKit (Below)
theorem Rd:∀(a b:List UInt8),Lib.compareBytes a b=if Op.bytesLess a b then -1 else if a=b then 0 else 1
 | [],[]=>by simp[Lib.compareBytes,Op.bytesLess]
 | [],_::_=>by simp[Lib.compareBytes,Op.bytesLess]
 |_::_,[]=>by simp[Lib.compareBytes,Op.bytesLess]
 |x::a,y::b=>by
  simp only[Lib.compareBytes,Op.bytesLess,Rd a b];by_cases h:x<y
  .simp[h]
  .by_cases h':y<x
   .have M5:x≠y:=λe=>h (e ▸ h');simp[h,h',M5]
   .have he:x=y:=by
     apply UInt8.le_antisymm
     .exact UInt8.not_lt.1 h'
     .exact UInt8.not_lt.1 h
    subst he;simp[h]
theorem Wk (a b:H7):Q9 a b=Lib.compareBytes a.data.toList b.data.toList:=by
 rw[Rd,Q9,Lib.toList_data,Lib.toList_data]
theorem Ni (c:UInt8):∀l:List UInt8,0<=Lib.indexByte l c↔c∈l
 | []=>by simp[Lib.indexByte]
 |b::l=>by
  have ih:=Ni c l;have hge:=Lib.indexByte_ge l c;by_cases h:b=c
  .subst h;simp[Lib.indexByte]
  .have h1:Lib.indexByte (b::l) c=if Lib.indexByte l c=-1 then -1 else Lib.indexByte l c+1:=by
    simp[Lib.indexByte,h]
   have h2:¬c=b:=λe=>h e.symm;rw[h1,yH];by_cases h3:Lib.indexByte l c=-1
   .rw[if_pos h3];constructor
    .intro k;omega
    .rintro(k|k)
     .exact absurd k h2
     .have:=ih.2 k;omega
   .rw[if_neg h3];constructor
    .intro k;exact .inr (ih.1 (by omega))
    .intro k;omega
theorem TN (l:List UInt8) (c:UInt8):decide (0<=Lib.indexByte l c)=l.contains c:=by
 rw[Bool.eq_iff_iff,decide_eq_true_iff,Ni];simp
theorem mixed:Tryz.prog.follows .mixedOrders=true:=by kernel_rfl
theorem lN (f:FuncId) (s:RSpec) (h:Se f=some s):(f=C9/\s=Up 4)\/(f=L0/\s=dD 4 56)\/(f=L9/\s=az 5 64)\/(f=N1/\s=UL 4 56):=by
 unfold Se at h;split at h
 .rename_i hf;cases h;exact .inl ⟨hf,rfl⟩
 .split at h
  .rename_i hf;cases h;exact .inr (.inl ⟨hf,rfl⟩)
  .split at h
   .rename_i hf;cases h;exact .inr (.inr (.inl ⟨hf,rfl⟩))
   .split at h
    .rename_i hf;cases h;exact .inr (.inr (.inr ⟨hf,rfl⟩))
    .cases h
theorem QS:CfgS Tryz.prog Q:=by
 refine⟨λf rf h=>?_,λf s hs args r hr=>?_,mixed,λf s hs O hP args h r h' he=>?_⟩
 .have h1:BD f=some rf:=(Lw f).symm.trans h;unfold BD at h1;split at h1
  .cases h1
  .exact h1
 rotate_left 1
 .have hs':Se f=some s:=hs;rcases lN f s hs' with ⟨rfl,rfl⟩|⟨rfl,rfl⟩|⟨rfl,rfl⟩|⟨rfl,rfl⟩
  .exact aF Tryz.sortLays (by kernel_rfl) 4 Tryz.isAgg32 Tryz.sizeOf32 hP args h r h' he
  .exact dE Tryz.insLaw O args h r h' he
  .exact ZS Tryz.insLawP O args h r h' he
  .exact ZR Tryz.growLaw O args h r h' he
 have hs':Lm f=some s:=(Pa f).symm.trans hs;unfold Lm at hs';split at hs'
 .rename_i hf;subst hf;cases hs';unfold WC at hr;split at hr
  .rename_i a b;cases hr;refine⟨by kernel_rfl,λw ok0 vs _ hv=>?_⟩;have Lg:vs=#[.string a,.string b]:=by
    simp only[BT,PV]at hv;obtain⟨u,us,h1,rfl,u',us',rfl,rfl,rfl⟩:=hv;cases vs
    simp_all
   subst Lg;refine(Tryz.cmpString a b w).mono λe w' ⟨he,hw⟩=>?_;subst hw;exact⟨_,he,Bl.refl _ _,by simp[PV,Wk]⟩
  .cases hr
 .split at hs'
  .rename_i hf;subst hf;cases hs';unfold WD at hr;split at hr
   .rename_i a b;split at hr
    .rename_i c hb;cases hr;refine⟨by kernel_rfl,λw ok0 vs _ hv=>?_⟩;have hb':b=⟨#[c]⟩:=by
      obtain⟨⟨l⟩⟩:=b;simp at hb;rw[hb]
     subst hb';have Lg:vs=#[.string a,.string ⟨#[c]⟩]:=by
      simp only[BT,PV]at hv;obtain⟨u,us,h1,rfl,u',us',rfl,rfl,rfl⟩:=hv;cases vs
      simp_all
     subst Lg;refine(Tryz.stringsContainsOne a c w).mono λe w' ⟨he,hw⟩=>?_;subst hw;exact⟨_,he,Bl.refl _ _,by simp[PV,TN]⟩
    .cases hr
   .cases hr
  .cases hs'
end Go.Abs.Q
namespace Go.Abs.Q
open Go.Proofs
open Go.Proofs.YtohjdamplbhdpaaGreatDoor (Rows.uptoBulk Rows.uptoBulkAll)
variable {w:World}
theorem xe:Tryz.prog.cellsOf 42=2:=by kernel_rfl
theorem nH {α:Type}:∀{l:List α},l.length=2->∃a b,l=[a,b]
 | [a,b],_=>⟨a,b,rfl⟩
theorem iC (n:Nat):Nf Tryz.prog w 42 (λp:Int×Int=>[.int .i64 p.1,.int .i64 p.2]) (λ_=>True) (λ_=>1) n:=by
 intro H enc cs x hx;obtain⟨m,xs,rfl,Cc,Yv,hx1,hf⟩:=LT Tryz.underlying42 xe hx;obtain⟨y0,hy0,h0⟩:=hf 0 _ rfl;obtain⟨y1,hy1,h1⟩:=hf 1 _ rfl;clear hf;obtain⟨v0,v1,rfl⟩:=nH Cc;obtain⟨z0,z1,rfl⟩:=nH Yv;simp only[List.getElem?_cons_zero,List.getElem?_cons_succ,Option.some.injEq]at hy0 hy1;subst hy0 hy1;simp only[List.getElem_toArray,List.getElem_cons_zero,List.getElem_cons_succ,vT,List.drop_zero,List.drop_succ_cons,List.take_succ_cons,List.take_zero]at h0 h1;obtain⟨a,-,w0,cv0⟩:=Pv (w:=w) Tryz.underlying3 m enc _ _ h0;obtain⟨b,-,w1,cv1⟩:=Pv (w:=w) Tryz.underlying3 m enc _ _ h1;refine⟨(a,b),trivial,?_,Gv cv0 cv1⟩;rw[hx1];dsimp only at w0 w1;simp only[yG,yI,Rows.uptoBulk,Rows.uptoBulkAll];omega
theorem fG {w:World} {cs:E6} {us:Array Value} (h:CV w cs us.toList):PV w (nP w) (.agg cs) (.agg us):=by
 simp only[PV];exact⟨us,rfl,h.2,h.1⟩
end Go.Abs.Q
namespace Go.Proofs.YtohjdamplbhdpaaGreatDoor
open Go.ChangeShapes Go.WideShapes Go.ChangeAt Go.RowKit Go.Abs Go.Abs.Q
theorem own:ownKnob Tryz.prog.godebug=none:=by kernel_rfl
theorem laidOut:laidOutB Tryz.prog=true:=by kernel_rfl
def qt:DataW Unit->List Value
 | .lit (.int k n)=>[.int k n]
 |_=>[]
def lZ:DataW Unit->List Value
 | .agg l=>l.flatMap qt
 |_=>[]
def qu:DataW Unit->List Value
 | .agg l=>l.flatMap lZ
 |_=>[]
def UT (l:List Value):Obj->Obj
 | .cells _ t frozen=>.cells l.toArray t frozen
 |o=>o
noncomputable def Pm (os:Os):World :=
 {World.holding Tryz.prog os ⟨#[],#[],[]⟩with heap:=((World.holding Tryz.prog os ⟨#[],#[],[]⟩).heap.modify 1 (UT (lZ Rows.laid_unicode_utf8_first))).modify 2 (UT (qu Rows.laid_unicode_utf8_acceptRanges))}
end Go.Proofs.YtohjdamplbhdpaaGreatDoor
namespace Go.Abs.Q
open Go.Proofs
attribute [local simp] D0 D1 fin I1 E7 K8 I3 N6 P4
def Ls (m:Bool×Bool) (a:ByteArray):Tm:=Y4 (bs [115,107]) m [HU a]
def Li (m:Bool×Bool) (a:ByteArray):Tm:=Y4 (bs [112,107]) m [Ls m a]
def TH (m:Bool×Bool) (a b:ByteArray):Tm:=Y4 (bs [115,104,107]) m [HU a,HU b]
def X8 (G1 l:List Tm):List Tm:=l.foldl KC G1
theorem Oc (G1 a b:I2):X8 G1 (a++b)=X8 (X8 G1 a) b:=List.foldl_append
theorem s8:∀(l G1:I2),(X8 G1 l).length<=G1.length+l.length
 | [],G1=>yM _
 |t::l,G1=>by
  have h1:=s8 l (KC G1 t);have h2:=(Wd G1 t).1;show (X8 (KC G1 t) l).length<=_;rw[List.length_cons];omega
theorem Ce:∀(l G1:I2) {x:Tm},x∈X8 G1 l->x∈G1\/x∈l
 | [],G1,x,h=>.inl h
 |t::l,G1,x,h=>by
  rcases Ce l (KC G1 t) h with h|h
  .rcases We h with h|h
   .exact .inl h
   .exact .inr (h ▸ List.mem_cons_self)
  .exact .inr (List.mem_cons_of_mem _ h)
def Ib (m:Bool×Bool) (me:ByteArray) (rs:List ByteArray) (role:Nat):Nat->List Tm
 |0=>[]
 |i+1=>Ib m me rs role i++(if i=role then []else match rs[i]? with|some r=>[TH m me r,TH m r me]|none=>[])
def Iz (me:ByteArray) (s:Ste):Bool:=decide (s.frm=me)||decide (s.to=me)
def SH (me:ByteArray) (l:List Ste):List Tm:=(l.filter (Iz me)).map Ste.msg
theorem gw {me:H7} {l:List Ste} {i:Nat} (h:i<l.length):SH me (l.take (i+1))=SH me (l.take i)++(if Iz me l[i]=true then [l[i].msg]else []):=by
 unfold SH;rw[xq h,List.filter_append,yE];congr 1;by_cases hb:Iz me l[i]=true
 .rw[if_pos hb,List.filter_cons_of_pos hb];rfl
 .rw[if_neg hb,List.filter_cons_of_neg hb];rfl
theorem NS (m:I8) (me:H7) (rs:List ByteArray) (role:Nat):∀i,(Ib m me rs role i).length<=2*i
 |0=>yM _
 |i+1=>by
  have:=NS m me rs role i;rw[Ib,xl];split
  .simp;omega
  .split<;>simp<;>omega
theorem KU (m:I8) (me:H7) (rs:List ByteArray) (role:Nat):∀i,∀x∈Ib m me rs role i,x.size=3
 |0,x,h=>by simp[Ib]at h
 |i+1,x,h=>by
  rw[Ib,List.mem_append]at h;rcases h with h|h
  .exact KU m me rs role i x h
  .split at h
   .simp at h
   .split at h
    .simp only[yH,List.not_mem_nil,or_false]at h;rcases h with rfl|rfl<;>rfl
    .simp at h
theorem KJ {me:H7} {l:List Fre} {x:Tm} (h:x∈FZ me l):x.size=1:=by
 unfold FZ at h;rw[yJ]at h;obtain⟨f,-,rfl⟩:=h;rfl
theorem Xs (r n:Nar) (role:Nat) (me:H7) (hme:r.roles[role]?=some me) (i:Nat) (hi:i<r.steps.length):pc Q DC [Dw r n,.int .i64 (role:Nat),.int .i64 (i:Nat)]=some (.bool (Iz me r.steps[i])):=by
 have sb:=AR r n;have hme':IU (r.roles.map AV.str) role=some (.str me):=H8 hme;have hx:=H8 (f:=Cl) (xz hi);unfold Iz;generalize r.steps[i]=s at *
 by_cases hq:s.frm=me
 .rw[show (decide (s.frm=me)||decide (s.to=me))=true from by simp[hq]];refine IW S1 λfr hl h0 h1 h2=>?_;simp[S1]at hl h0 h1 h2;simp[S1,hl,h0,h1,h2,sb,hme',hx,hq]
 .rw[show (decide (s.frm=me)||decide (s.to=me))=decide (s.to=me) from by simp[hq]];have M5:=hq;refine IW S1 λfr hl h0 h1 h2=>?_;simp[S1]at hl h0 h1 h2;simp[S1,hl,h0,h1,h2,sb,hme',hx,M5]
theorem gh (rs:List ByteArray) (m0:I8) (C2:rs.length<=1000) (G1:I2) (hal:G1.length<=1000) (has:∀x∈G1,x.size<=1099511627776) (B0:List (List AV)) (fr:Fr) (h:AH) (hh:h.boxes=B0) (v0:AV) (hv0:A0 fr 8=v0) (hg0:Iw false 4 (A3 G1) v0 h) (hl:fr.length=102) (h29:A0 fr 29=sl m0 1 (rs.map AV.str)) (h30:A0 fr 30=.int .i64 rs.length) (h31:A0 fr 31=.int .i64 0) :
  C8 (lp (A1 (Q8 Q) (G7 J6) j8) (fr,h)) λe D4 h'=>Kp j8.wr fr D4/\e=.exit 0/\h'.boxes=B0/\Iw false 4 (A3 (X8 G1 (rs.map (Li (true,true))))) (A0 D4 8) h':=by
 refine C3 rfl fr (λn fr h'=>∃(i:Nat),i+n=rs.length/\A0 fr 31=.int .i64 (i:Nat)/\(∃v,A0 fr 8=v/\h'.boxes=B0/\Iw false 4 (A3 (X8 G1 ((rs.take i).map (Li (true,true))))) v h')) ?_ rs.length h ⟨0,by omega,h31,_,hv0,hh,hg0⟩;rintro J Φ hJ hΦ n G9 H1 K ⟨i,hi,k31,hr⟩;have B4:=K.1.trans hl;have k29:=A5 K 29 h29;have k30:=A5 K 30 h30;clear K;by_cases A6:i<rs.length
 .have V7:=E5 i (by omega);obtain⟨v,k8,hB,hg⟩:=hr;obtain⟨bx,fams⟩:=H1;simp only at hB;subst hB;have hx:=H8 (f:=AV.str) (xz A6);have Jc:=s8 ((rs.take i).map (Li (true,true))) G1;rw[List.length_map,xk]at Jc;have K4:∀x∈X8 G1 ((rs.take i).map (Li (true,true))),x.size<=1099511627776:=λx hx=>by
   rcases Ce _ _ hx with h|h
   .exact has x h
   .rw[yJ]at h;obtain⟨a,-,rfl⟩:=h;simp[Li,Ls,Y4,HU,Tm.size,Tm.sizes]
  have Ci:(rs.take (i+1)).map (Li (true,true))=(rs.take i).map (Li (true,true))++[Li (true,true) rs[i]]:=by
   rw[xq A6,yE,yG,yI]
  generalize rs[i]=a at *
  have hG:=SP a;have hA:=SS (bs [115,107]) (true,true) [HU a];have hA2:=SS (bs [112,107]) (true,true) [Ls (true,true) a];rw[show A3 [HU a]=[B8 (HU a)] from rfl]at hA;rw[show A3 [Ls (true,true) a]=[B8 (Ls (true,true) a)] from rfl]at hA2;change pc Q r6 _=some (B8 (Ls (true,true) a))at hA;change pc Q r6 _=some (B8 (Li (true,true) a))at hA2;obtain⟨v',F',hK,DG⟩:=PJ _ v ⟨bx,fams⟩ hg (Li (true,true) a) (by omega) K4 (by simp[Li,Ls,Y4,HU,Tm.size,Tm.sizes]);have e1:KC (X8 G1 ((rs.take i).map (Li (true,true)))) (Li (true,true) a)=X8 G1 ((rs.take (i+1)).map (Li (true,true))):=by
   rw[Ci,Oc];rfl
  rw[e1]at DG;clear e1 Ci hg K4;generalize Li (true,true) a=t2 at *
  generalize Ls (true,true) a=t1 at *
  generalize HU a=t0 at *
  simp[j8,B4,k29,k30,k31,A6,V7,k8,hx,hG,hA,hA2,A4,hK];exact O4 hJ ⟨i+1,by omega,by simp[B4],v',by simp[B4],rfl,DG⟩
 .obtain⟨v,k8,hB,hg⟩:=hr;rw[yA (by omega)]at hg;simp[j8,B4,k30,k31,A6];exact hΦ _ _ _ ⟨rfl,hB,by simp[k8];exact P5 hg rfl⟩
end Go.Abs.Q
