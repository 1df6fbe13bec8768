/- A part of the proof. -/
import Derived.Test.YtohjdamplbhdpaaGreatDoorSO3
import Derived.Orders
set_option linter.all false
open Option renaming map_eq_some_iff->A0Q
open Bool renaming and_eq_true->A0R
open List renaming mem_append->A0S,all_cons->A0V,flatMap_cons->A0W,getElem?_eq_some_iff->A0X,getElem?_take->A0Y,length_cons->A0Z,length_nil->A0a,getD->A0c
open Prod renaming fst->A0T
open Array renaming getD_eq_getD_getElem?->A0U
open Nat renaming testBit_or->A0b
namespace Go.Abs
open Go.RowKit (Below)
section
variable {E:Env} {P:Program} {fr:Fr} {a:Act} {o:Oper} {O:Orc} {c:Ctx}
def ROp.isCall:ROp->Bool
 | .call .. | .callv ..=>true
 |_=>false
theorem pi {el z:AV} {cs:G3} (h:el.reform cs=some z) (hl:cs.length=el.cells.length) (hf:∀x∈cs,x.cells=[x]\/∃aas,el=.agg aas):z.cells=cs:=by
 cases el<;>simp only[AV.reform]at h
 case agg=>cases h;rfl
 all_goals
  simp only[AV.cells,A0Z,A0a]at hl;cases cs with
  |nil=>simp at hl
  |cons c r =>
   have hr:r=[]:=by simpa using hl
   subst hr;simp at h;subst h;rcases hf c (by simp)with h' | ⟨aas,h'⟩
   .exact h'
   .cases h'
theorem WE {t:TypeId} {x y:Operand} {x' y':Opd} {n k m i q sz:Nat} {h1:AH} (hS:SR E) (hf:FR E fr a.tmps) (CL:o.op=.store t x y) (hn:Program.size? P t=some n) (hx:D7 x=some x') (hy:D7 y=some y')
  (hg:get fr x'=.ep k m i q sz) (Hg:Im E.h n (get fr y') k m i q sz=some h1):Pe P a o E C5 h1:=by
 unfold Im at Hg;split at Hg
 .rename_i f hfk;split at Hg
  .rename_i hc;split at Hg
   .rename_i el u Ul hu;split at Hg
    .rename_i hl;simp only[A0Q]at Hg;obtain⟨z,hz,rfl⟩:=Hg;refine qh hS hf CL hn hx hy hg hfk hc.1 hc.2.1 hc.2.2 Ul hu hl.1 hl.2 (pi hz (by simp[M5];omega) λw hw=>?_);by_cases hag:∃aas,el=.agg aas
     .exact .inr hag
     .refine .inl ?_;have hel1:el.cells=[el]:=by cases el<;>first|rfl|exact absurd ⟨_,rfl⟩ hag
      rw[hel1]at hw hl;simp only[A0Z,A0a]at hl;have hF:=hS.fams k f hfk;obtain⟨hPu,hut⟩:=Mh hS (am:=false) (ok':=E.ok) ⟨λ_ _ h=>h,λh=>by cases h⟩ (D8 hf hy) hu;obtain⟨g1,g2⟩:=Qs hPu hut;have hcell:∀{w:AV} {u:Value},PV E.w E.ok w u->u.oneCell'=true->w.cells=[w]:=by
       intro w u h1 h2;cases w<;>first|rfl|(simp only[PV]at h1;obtain⟨us,rfl,_⟩:=h1;simp[Value.oneCell']at h2)
      unfold M5 at hw;simp only[A0S]at hw;rcases hw with (hw|hw)|hw
      .have:=List.mem_of_mem_take hw;simp at this;subst this;exact hel1
      .obtain⟨j,hj⟩:=List.getElem?_of_mem hw;obtain⟨u',k1,k2⟩:=(JL g1).2 hj;exact hcell k2 (g2 u' (List.mem_of_getElem? k1))
      .have:=List.mem_of_mem_drop hw;simp at this;subst this;exact hel1
    .cases Hg
   .cases Hg
  .cases Hg
 .cases Hg
theorem ya {n:Nat} {x y:Opd} {h h':AH} {v:AV} (he:A9 O c (.ste n x y) fr h=some (v,h')):A9 O c (.st n x y) fr h=some (v,h'):=by
 simp only[A9,YX]at he;split at he
 .rename_i k m i q s hg;split at he
  .rename_i hfl;simp only[A9,hg,Ly,bY];rw[RI h false hfl];exact he
  .cases he
 .cases he
theorem yZ {n:Nat} {x y:Opd} {h h':AH} {v:AV} (he:A9 O c (.stb n x y) fr h=some (v,h')):A9 O c (.st n x y) fr h=some (v,h'):=by
 simp only[A9,YW]at he;split at he
 .rename_i b q hg;split at he
  .rename_i cs Lq;split at he
   .rename_i hc;cases he;simp only[A9,hg,Ly,Lq];rw[if_pos hc]
   .cases he
  .cases he
 .cases he
theorem vS (hS:SR E) (hf:FR E fr a.tmps) {r r0:ROp} (hr:u5 P o.op=some r0) (Cx:r=r0\/∃m,r=r0.lax m) {v:AV} {h':AH} (G1:A9 O c r fr E.h=some (v,h')) (hnc:r.isCall=false):Pe P a o E v h':=by
 cases CL:o.op with
 |move x =>
  rw[CL]at hr;simp only[u5,A0Q]at hr;obtain⟨y,hy,rfl⟩:=hr;obtain rfl:r=.mov y:=by rcases Cx with h|⟨_,h⟩<;>exact h
  simp only[A9]at G1;cases G1;exact(wd hf (.inl CL) hy).does hS
 |assign x =>
  rw[CL]at hr;simp only[u5,A0Q]at hr;obtain⟨y,hy,rfl⟩:=hr;obtain rfl:r=.mov y:=by rcases Cx with h|⟨_,h⟩<;>exact h
  simp only[A9]at G1;cases G1;exact(wd hf (.inr CL) hy).does hS
 |pick q x y =>
  rw[CL]at hr;simp only[u5]at hr;split at hr
  .rename_i q' x' y' h1 h2 h3;cases hr;obtain rfl:r=.pick q' x' y':=by rcases Cx with h|⟨_,h⟩<;>exact h
   simp only[A9]at G1;split at G1
   .rename_i t ht;cases G1;exact(yR hf CL h1 h2 h3 ht).does hS
   .cases G1
  .cases hr
 |alloc t =>
  rw[CL]at hr;simp only[u5,A0Q]at hr;obtain⟨z,hz,rfl⟩:=hr;obtain rfl:r=.alloc z:=by rcases Cx with h|⟨_,h⟩<;>exact h
  simp only[A9]at G1;cases G1;exact ud hS CL hz
 |box t x =>
  rw[CL]at hr;simp only[u5,A0Q]at hr;obtain⟨y,hy,rfl⟩:=hr;obtain rfl:r=.box y:=by rcases Cx with h|⟨_,h⟩<;>exact h
  simp only[A9]at G1;split at G1
  .cases G1
  .rename_i ht;cases G1;exact A0N hS hf CL hy (by simpa using ht)
 |build t parts =>
  rw[CL]at hr;simp only[u5]at hr;split at hr
  .rename_i fs zs hu hz;split at hr
   .rename_i hs;simp only[A0Q]at hr;obtain⟨ps,hp,rfl⟩:=hr;obtain rfl:r=.build (.agg zs) ps:=by rcases Cx with h|⟨_,h⟩<;>exact h
    simp only[A9,AV.cells]at G1;split at G1
    .rename_i qs hq;cases G1;exact(vr hf CL hu hz hs hp hq).does hS
    .cases G1
   .cases hr
  .cases hr
 |buildSlice t len parts =>
  rw[CL]at hr;simp only[u5]at hr;split at hr
  .rename_i e hu;split at hr
   .rename_i z n ps hz hn hp;split at hr
    .rename_i hc;cases hr;have G1:A9 O c (.bslice len z ps) fr E.h=some (v,h'):=by
      rcases Cx with rfl|⟨_,rfl⟩
      .exact G1
      .simp only[ROp.lax,A9]at G1;split at G1
       .simp only[A9];exact G1
       .cases G1
     simp only[A9]at G1;split at G1
     .rename_i xs hx;cases G1;exact qe hS hf CL hu hz hn hc.1 hc.2 hp hx
     .cases G1
    .cases hr
   .cases hr
  .cases hr
 |load t x =>
  rw[CL]at hr;simp only[u5]at hr;split at hr
  .rename_i b n y hb hn hy;cases hr;have key:∃w,JT E.h b n (get fr y)=some w/\(w,E.h)=(v,h'):=by
    rcases Cx with rfl|⟨_,rfl⟩
    .simp only[A9]at G1;split at G1
     .rename_i w hw;exact⟨w,hw,by simpa using G1⟩
     .cases G1
    .simp only[ROp.lax,A9]at G1;split at G1
     .cases G1
     .split at G1
      .rename_i w hw;exact⟨w,hw,by simpa using G1⟩
      .cases G1
   obtain⟨w,hw,he⟩:=key;cases he;exact(q_ld hS hf CL hb hn hy hw).does hS
  .cases hr
 |store t x y =>
  rw[CL]at hr;simp only[u5]at hr;split at hr
  .rename_i n x' y' hn hx hy;cases hr;have G1:A9 O c (.st n x' y') fr E.h=some (v,h'):=by
    rcases Cx with rfl|⟨m,rfl⟩
    .exact G1
    .obtain⟨m,mk⟩:=m;cases m with
     |none=>exact G1
     |some b =>
      cases b with
      |true=>exact ya G1
      |false=>exact yZ G1
   simp only[A9]at G1;split at G1
   .rename_i h1 Hg;cases G1;unfold Ly at Hg;split at Hg
    .rename_i b off hg;split at Hg
     .rename_i cs Lq;split at Hg
      .rename_i hc;cases Hg;exact qg hS hf CL hn hx hy hg Lq hc.1 hc.2.1 hc.2.2.1 hc.2.2.2
      .cases Hg
     .cases Hg
    .rename_i k m i q sz hg;split at Hg
     case h_2=>cases Hg
     rename_i h2 hlay;unfold bY at hlay;split at hlay
     .cases hlay;exact WE hS hf CL hn hx hy hg Hg
     .unfold pm at hlay;split at hlay
      case h_2=>cases hlay
      rename_i k2 n2 off2 xk hgy;split at hlay
      case h_2=>cases hlay
      rename_i f2 hf2;cases hlay;have hx1:=YN hf2;obtain⟨nx,u,E',e1,e2,e3,e4,e5,e6⟩:=WE (E:=E.rstFam k2 f2) (pn hS hf2) (hf.ext hx1) CL hn hx hy hg Hg;exact⟨nx,u,E',e1,e2,hx1.trans e3,e4,e5,e6⟩
    .cases Hg
   .cases G1
  .cases hr
 |nilCheck x =>
  rw[CL]at hr;simp only[u5,A0Q]at hr;obtain⟨y,hy,rfl⟩:=hr;obtain rfl:r=.nilck y:=by rcases Cx with h|⟨_,h⟩<;>exact h
  simp only[A9]at G1;have:h'=E.h:=by split at G1<;>first|(cases G1;rfl)|cases G1
  subst this;exact(vv hf CL hy G1).does hS
 |binOp op t x y t' =>
  rw[CL]at hr;simp only[u5]at hr;split at hr
  .rename_i x' y' hx hy;have gen:r0=.bin op x' y'->Pe P a o E v h':=by
    intro h;subst h;obtain rfl:r=.bin op x' y':=by rcases Cx with h|⟨_,h⟩<;>exact h
    simp only[A9]at G1;split at G1
    .rename_i w hw;cases G1;exact(q_bin hf CL hx hy hw).does hS
    .cases G1
   split at hr
   .rename_i ht;cases hr;obtain rfl:r=.beq false x' y':=by rcases Cx with h|⟨_,h⟩<;>exact h
    simp only[A9]at G1;split at G1
    .rename_i i j hi hj;cases G1;exact(wc (neg:=false) hf CL ht hx hy hi hj).does hS
    .cases G1
   .rename_i ht;cases hr;obtain rfl:r=.beq true x' y':=by rcases Cx with h|⟨_,h⟩<;>exact h
    simp only[A9]at G1;split at G1
    .rename_i i j hi hj;cases G1;exact(wc (neg:=true) hf CL ht hx hy hi hj).does hS
    .cases G1
   .rename_i ht;split at hr
    .cases hr;obtain rfl:r=.nileq false x':=by rcases Cx with h|⟨_,h⟩<;>exact h
     simp only[A9]at G1;split at G1
     .rename_i hi;cases G1;exact(lY (neg:=false) hf CL ht hx hy hi).does hS
     .cases G1
    .cases hr
   .rename_i ht;split at hr
    .cases hr;obtain rfl:r=.nileq true x':=by rcases Cx with h|⟨_,h⟩<;>exact h
     simp only[A9]at G1;split at G1
     .rename_i hi;cases G1;exact(lY (neg:=true) hf CL ht hx hy hi).does hS
     .cases G1
    .cases hr
   .cases hr;exact gen rfl
  .cases hr
 |unOp op t x =>
  rw[CL]at hr;simp only[u5,A0Q]at hr;obtain⟨y,hy,rfl⟩:=hr;obtain rfl:r=.un op y:=by rcases Cx with h|⟨_,h⟩<;>exact h
  simp only[A9]at G1;split at G1
  .rename_i w hw;cases G1;exact(q_un hf CL hy hw).does hS
  .cases G1
 |convert s d x =>
  rw[CL]at hr;simp only[u5]at hr;split at hr
  .rename_i k0 k hs hd;simp only[A0Q]at hr;obtain⟨y,hy,rfl⟩:=hr;obtain rfl:r=.conv k y:=by rcases Cx with h|⟨_,h⟩<;>exact h
   simp only[A9]at G1;split at G1
   .rename_i q n hq;cases G1;exact(yP hf CL hs hd hy hq).does hS
   .cases G1
  .rename_i hs hd;simp only[A0Q]at hr;obtain⟨y,hy,rfl⟩:=hr;obtain rfl:r=.cstr y:=by rcases Cx with h|⟨_,h⟩<;>exact h
   simp only[A9]at G1;split at G1
   .rename_i n hq;cases G1;exact(yQ hf CL hs hd hy hq).does hS
   .cases G1
  .rename_i e hs hd;split at hr
   .rename_i he;simp only[A0Q]at hr;obtain⟨y,hy,rfl⟩:=hr;obtain rfl:r=.bstr y:=by rcases Cx with h|⟨_,h⟩<;>exact h
    simp only[A9]at G1;exact yN hS hf CL hs hd he hy G1
   .cases hr
  .cases hr
 |makeFunc fn first caps =>
  rw[CL]at hr;cases fn<;>simp only[u5]at hr<;>try (cases hr;done)
  split at hr
  .rename_i f h0;simp only[A0Q]at hr;obtain⟨cs,hc,rfl⟩:=hr;obtain rfl:r=.clos _ cs:=by rcases Cx with h|⟨_,h⟩<;>exact h
   simp only[A9]at G1;split at G1
   .exact qf hS hf CL h0 hc G1
   .cases G1;exact(yO hf CL h0 hc).does hS
  .cases hr
 |makeSlice t l q =>
  rw[CL]at hr;simp only[u5]at hr;split at hr
  .rename_i e hu;split at hr
   .rename_i i z l' q' hi hz hl hq;split at hr
    .rename_i M2;cases hr;have hcase:r=.mkslice z i.bytes l' q'\/r=.mkv z i.bytes l' q':=by
      rcases Cx with h|⟨⟨m,mk⟩,h⟩
      .exact .inl h
      .cases mk
       .exact .inl h
       .exact .inr h
     rcases hcase with rfl|rfl
     case inr=>exact A0P hS hf CL hu hi hz M2 hl hq G1
     simp only[A9]at G1;split at G1
     .rename_i k1 x k2 y hx hy;split at G1
      .rename_i hc;cases G1;exact mY hS hf CL hu hi hz M2 hl hq hx hy hc.1 hc.2.1 hc.2.2.1 hc.2.2.2
      .cases G1
     .cases G1
    .cases hr
   .cases hr
  .cases hr
 |slice t x lo hi mx =>
  rw[CL]at hr;simp only[u5]at hr;split at hr
  .rename_i x' lo' Cw ht hx TY Zk hmx;cases hr;obtain rfl:r=.slc 0 x' lo' Cw none:=by rcases Cx with h|⟨_,h⟩<;>exact h
   have hmn:mx=none:=by
    cases mx with
    |none=>rfl
    |some m=>simp[Ij]at hmx
   subst hmn;simp only[A9]at G1;split at G1
   .rename_i l u m hl hu hm;simp only[L6]at hm;cases hm;split at G1
    .rename_i w hw;cases G1;unfold Oc at hw;split at hw
     .rename_i s hs;dsimp only at hw;split at hw
      .rename_i hc;cases hw;exact(pe hf CL ht hx TY Zk hs hl hu hc.2.2.1 hc.2.2.2.1 hc.2.2.2.2).does hS
      .cases hw
     .simp at hw
     .split at hw<;>simp at hw
     .cases hw
    .cases G1
   .cases G1
  .rename_i e x' lo' Cw mx' ht hx TY Zk hmx;split at hr
   .rename_i n hn;split at hr
    .rename_i M2;cases hr;obtain rfl:r=.slc n x' lo' Cw mx':=by rcases Cx with h|⟨_,h⟩<;>exact h
     simp only[A9]at G1;split at G1
     .rename_i l u m hl hu hm;split at G1
      .rename_i w hw;cases G1;unfold Oc at hw;split at hw
       .simp[show ¬n=0 from by omega]at hw
       .rename_i full z xs hg;dsimp only at hw;simp only[M2,true_and]at hw;split at hw
        .rename_i hz;split at hw
         .split at hw
          .rename_i hc;cases hw;exact(gA hf CL ht hn hx TY Zk hmx hg hl hu hm hz hc.1 hc.2.1 (.inl ⟨rfl,hc.2.2,rfl⟩)).does hS
          .cases hw
         .rename_i q;split at hw
          .rename_i hc;cases hw;exact(gA hf CL ht hn hx TY Zk hmx hg hl hu hm hz hc.2.1 hc.2.2.1 (.inr ⟨q,rfl,hc.1,hc.2.2.2.1,hc.2.2.2.2,rfl⟩)).does hS
          .cases hw
        .cases hw
       .rename_i k m0 off len hg;dsimp only at hw;split at hw
        .rename_i f hfk;simp only[M2,true_and]at hw;split at hw
         .rename_i hz;split at hw
          .split at hw
           .rename_i hc;cases hw;exact(fz hS hf CL ht hn hx TY Zk hmx hg hl hu hm hfk hz.1 hz.2 (.inl ⟨rfl,hc.1,hc.2.1,hc.2.2,rfl⟩)).does hS
           .cases hw
          .rename_i q;split at hw
           .rename_i hc;cases hw;obtain⟨c1,c2,c3,rfl⟩:=hc;exact(fz hS hf CL ht hn hx TY Zk hmx hg hl hu hm hfk hz.1 hz.2 (.inr ⟨rfl,c1,c2,c3,rfl⟩)).does hS
           .cases hw
         .cases hw
        .cases hw
       .cases hw
      .cases G1
     .cases G1
    .cases hr
   .cases hr
  .cases hr
 |fieldAddr s x i =>
  rw[CL]at hr;simp only[u5]at hr;split at hr
  .rename_i fs x' hs hx;split at hr
   .rename_i f hi;split at hr
    .rename_i n hn;split at hr
     .rename_i M2;cases hr;obtain rfl:r=.faddr f.offset x':=by rcases Cx with h|⟨_,h⟩<;>exact h
      simp only[A9]at G1;have:h'=E.h:=by split at G1<;>first|(cases G1;rfl)|cases G1
      subst this;exact(vt hf CL hs hi hn M2 hx G1).does hS
     .cases hr
    .cases hr
   .cases hr
  .cases hr
 |field s x i =>
  rw[CL]at hr;simp only[u5]at hr;split at hr
  .rename_i fs x' hs hx;split at hr
   .rename_i f hi;split at hr
    .rename_i b n hb hn;cases hr;obtain rfl:r=.fld b f.offset n x':=by rcases Cx with h|⟨_,h⟩<;>exact h
     simp only[A9]at G1;split at G1
     .rename_i cs hg;split at G1
      .rename_i w hw;cases G1;exact(q_fld hf CL hs hi hb hn hx hg hw).does hS
      .cases G1
     .cases G1
    .cases hr
   .cases hr
  .cases hr
 |indexAddr t x i =>
  rw[CL]at hr;simp only[u5]at hr;split at hr
  .rename_i e x' i' ht hx hi;split at hr
   .rename_i n hn;split at hr
    .cases hr;obtain rfl:r=.iaddr n x' i':=by rcases Cx with h|⟨_,h⟩<;>exact h
     simp only[A9]at G1;have:h'=E.h:=by
      split at G1
      .split at G1
       .split at G1<;>first|(cases G1;rfl)|cases G1
       .cases G1
      .split at G1<;>first|(cases G1;rfl)|cases G1
      .cases G1
     subst this;exact(vu hS hf CL ht hn hx hi G1).does hS
    .cases hr
   .cases hr
  .cases hr
 |index t x i =>
  rw[CL]at hr;simp only[u5]at hr;split at hr
  .rename_i x' i' ht hx hi;cases hr;obtain rfl:r=.idx x' i':=by rcases Cx with h|⟨_,h⟩<;>exact h
   simp only[A9]at G1;split at G1
   .rename_i s q j hg hj;split at G1
    .rename_i h0;split at G1
     .rename_i b hb;cases G1;exact(q_idx hf CL ht hx hi hg hj h0 hb).does hS
     .cases G1
    .cases G1
   .cases G1
  .cases hr
 |extract x i =>
  rw[CL]at hr;simp only[u5,A0Q]at hr;obtain⟨y,hy,rfl⟩:=hr;obtain rfl:r=.ext y i:=by rcases Cx with h|⟨_,h⟩<;>exact h
  simp only[A9]at G1;split at G1
  .rename_i vs hg;split at G1
   .rename_i w hw;cases G1;exact(q_ext hf CL hy hg hw).does hS
   .cases G1
  .cases G1
 |call q =>
  rw[CL]at hr;obtain⟨callee,args,ats⟩:=q;cases callee with
  |invoke x m=>simp[u5]at hr
  |value x =>
   cases x<;>simp only[u5]at hr<;>try (cases hr;done)
   .simp only[A0Q]at hr;obtain⟨aas,_,rfl⟩:=hr;rcases Cx with rfl|⟨_,rfl⟩<;>simp[ROp.isCall,ROp.lax]at hnc
   .split at hr
    .simp only[A0Q]at hr;obtain⟨aas,_,rfl⟩:=hr;rcases Cx with rfl|⟨_,rfl⟩<;>simp[ROp.isCall,ROp.lax]at hnc
    .cases hr
  |builtin b =>
   cases b<;>simp only[u5]at hr<;>try (cases hr;done)
   case append =>
    split at hr
    .rename_i s x t u h1 h2;split at hr
     .rename_i e ht;split at hr
      .rename_i i z s' x' hi hz hs hx;split at hr
       .rename_i hc;cases hr;obtain⟨M2,rfl⟩:=hc;obtain rfl:r=.app i.size i.bytes s' x':=by rcases Cx with h|⟨_,h⟩<;>exact h
        simp only[A9,K1]at G1;split at G1
        .cases G1
        .rename_i ys WZ;split at G1
         .rename_i z0 xs hg;split at G1
          .rename_i h0;cases G1;have e1:=D8 hf hs;have e1':=e1;rw[hg]at e1;simp only[VR,PV]at e1;obtain⟨base,len,cap,e2,_,e4,_⟩:=e1;obtain⟨ad,cx,f1,_⟩:=LZ hS M2 (D8 hf hx) WZ;refine⟨_,.slice base len cap,E,La CL h1 h2 ?_,.inl rfl,Ext.refl E,hS,rfl,by rw[hg,e2]at e1';exact e1'⟩;rw[e2,f1,h0];exact Qj t _ e i ht hi base ad len cap cx e4 E.w
          .rename_i h0;split at G1
           .rename_i hb;cases G1;exact iM hS hf CL h1 h2 ht hi hz M2 hs hx hg WZ h0 hb.1 hb.2.1 hb.2.2
           .cases G1
         .rename_i k n off len hg;split at G1
          .rename_i f hfk;split at G1
           .rename_i hb;cases G1;exact mX hS hf CL h1 h2 ht hi hz M2 hs hx hg WZ hfk hb.1 hb.2.1 hb.2.2.1 hb.2.2.2.1 hb.2.2.2.2
           .cases G1
          .cases G1
         .cases G1
       .cases hr
      .cases hr
     .cases hr
    .cases hr
   case len =>
    split at hr
    .rename_i x t h1 h2;split at hr
     .rename_i ht;simp only[A0Q]at hr;obtain⟨y,hy,rfl⟩:=hr;obtain rfl:r=.len true y:=by rcases Cx with h|⟨_,h⟩<;>exact h
      simp only[A9]at G1;split at G1
      .rename_i s hs;cases G1;exact(pd hf CL h1 h2 ht hy hs).does hS
      .cases G1
     .rename_i e ht;simp only[A0Q]at hr;obtain⟨y,hy,rfl⟩:=hr;obtain rfl:r=.len false y:=by rcases Cx with h|⟨_,h⟩<;>exact h
      simp only[A9]at G1;have:h'=E.h:=by split at G1<;>first|(cases G1;rfl)|cases G1
      subst this;exact(q_len hf CL h1 h2 ht hy G1).does hS
     .cases hr
    .cases hr
   case clear =>
    split at hr
    .rename_i x t h1 h2;split at hr
     .rename_i e ht;split at hr
      .rename_i z x' hz hx;cases hr;obtain rfl:r=.clr z x':=by rcases Cx with h|⟨_,h⟩<;>exact h
       exact A0O hS hf CL h1 h2 ht hz hx G1
      .cases hr
     .cases hr
    .cases hr
   case max =>
    split at hr
    .rename_i x y h1;split at hr
     .rename_i x' y' hx hy;cases hr;obtain rfl:r=.max x' y':=by rcases Cx with h|⟨_,h⟩<;>exact h
      simp only[A9]at G1;split at G1
      .rename_i k i k' j hi hj;split at G1
       .cases G1;exact(q_max hf CL h1 hx hy hi hj).does hS
       .cases G1
      .cases G1
     .cases hr
    .cases hr
 |makeMap t q =>
  cases q with
  |some q=>rw[CL]at hr;simp[u5]at hr
  |none =>
   rw[CL]at hr;simp only[u5]at hr;split at hr
   .cases hr;obtain rfl:r=.mkmap:=by rcases Cx with h|⟨_,h⟩<;>exact h
    simp only[A9]at G1;cases G1;exact ue hS CL
   .cases hr
 |lookup t x k ok =>
  rw[CL]at hr;simp only[u5]at hr;split at hr
  .rename_i kt et hu;split at hr
   .rename_i b z x' k' hk hz hx Tp;cases hr;obtain rfl:r=.mlook b ok z x' k':=by rcases Cx with h|⟨_,h⟩<;>exact h
    simp only[A9]at G1;exact uf hS hf CL hu hk hz hx Tp G1
   .cases hr
  .cases hr
 |mapUpdate t m k x =>
  rw[CL]at hr;simp only[u5]at hr;split at hr
  .rename_i kt et hu;split at hr
   .rename_i b m' k' x' hk hm Tp hx;cases hr;obtain rfl:r=.mup b m' k' x':=by rcases Cx with h|⟨_,h⟩<;>exact h
    simp only[A9]at G1;exact wS hS hf (.inl CL) hu hk hm Tp hx G1
   .cases hr
  .cases hr
 |insert t m k x =>
  rw[CL]at hr;simp only[u5]at hr;split at hr
  .rename_i kt et hu;split at hr
   .rename_i b m' k' x' hk hm Tp hx;cases hr;obtain rfl:r=.mup b m' k' x':=by rcases Cx with h|⟨_,h⟩<;>exact h
    simp only[A9]at G1;exact wS hS hf (.inr CL) hu hk hm Tp hx G1
   .cases hr
  .cases hr
 |_=>rw[CL]at hr;simp[u5]at hr
end
mutual
theorem Ph {E E':Env} (hw:E'.w=E.w) (Bf:∀b o,E.ok b o->E'.ok b o) (hf:E'.h.fams=E.h.fams) (him:E'.im=E.im):∀(x:AV) (v:Value),PS x=true->VR E x v->VR E' x v
 | .agg cs,v,hn,hx=>by
  simp only[VR,PS]at hx hn ⊢;obtain⟨us,rfl,h1,hu⟩:=hx;exact⟨us,rfl,h1,Tu hw Bf hf him cs us.toList hn hu⟩
 | .tup cs,v,hn,hx=>by
  simp only[VR,PS]at hx hn ⊢;obtain⟨us,rfl,hu⟩:=hx;exact⟨us,rfl,Tu hw Bf hf him cs us.toList hn hu⟩
 | .fn f cs,v,hn,hx=>by
  simp only[VR,PS]at hx hn ⊢;obtain⟨us,rfl,hu⟩:=hx;exact⟨us,rfl,Tu hw Bf hf him cs us.toList hn hu⟩
 | .sl k n off len,v,_,hx=>by
  simp only[VR,hf,him]at hx ⊢;exact hx
 | .ep k n i c sz,v,_,hx=>by
  simp only[VR,hf,him]at hx ⊢;exact hx
 | .ptr ..,v,hn,_=>by simp[PS]at hn
 | .mp _,v,hn,_=>by simp[PS]at hn
 | .vm ks vs,v,_,hx=>by
  simp only[VR]at hx ⊢;refine Dq (λb o h=>⟨Bf b o h,?_⟩) _ _ hx;rw[hw];exact KG.refl _ _ _
 | .vs full sz xs,v,_,hx=>by
  simp only[VR]at hx ⊢;refine Dq (λb o h=>⟨Bf b o h,?_⟩) _ _ hx;rw[hw];exact KG.refl _ _ _
 | .pv cs,v,_,hx=>by
  simp only[VR]at hx ⊢;refine Dq (λb o h=>⟨Bf b o h,?_⟩) _ _ hx;rw[hw];exact KG.refl _ _ _
 | .mbox ..,v,_,hx=>by simp[VR]at hx
 | .rbox _,v,_,hx=>by simp[VR]at hx
 | .nilm,v,_,hx=>by simpa[VR]using hx
 | .junk,v,_,hx=>by simpa[VR]using hx
 | .bool b,v,_,hx=>by simpa[VR]using hx
 | .int k n,v,_,hx=>by simpa[VR]using hx
 | .str s,v,_,hx=>by simpa[VR]using hx
 | .nilp,v,_,hx=>by simpa[VR]using hx
 | .nilf,v,_,hx=>by simpa[VR]using hx
theorem Tu {E E':Env} (hw:E'.w=E.w) (Bf:∀b o,E.ok b o->E'.ok b o) (hf:E'.h.fams=E.h.fams) (him:E'.im=E.im):∀(cs:G3) (us:List Value),VG cs=true->Be E cs us->Be E' cs us
 | [],us,_,hx=>by simpa[Be]using hx
 |c::cs,us,hn,hx=>by
  simp only[Be,VG,A0R]at hx hn ⊢;obtain⟨u,us',rfl,h1,h2⟩:=hx;exact⟨u,us',rfl,Ph hw Bf hf him c u hn.1 h1,Tu hw Bf hf him cs us' hn.2 h2⟩
end
mutual
theorem uP {E0 E E':Env} (hw:E'.w=E.w) (Bf:∀b o,E.ok b o->E'.ok b o) (hf:E'.h.fams=E.h.fams) (him:E'.im=E.im) (hnb:E'.nb=E.nb) (hbl:E'.h.boxes.length=E0.h.boxes.length):∀(x:AV) (v0 v:Value),VR E0 x v0->VR E x v->VR E' x v
 | .agg cs,v0,v,h0,hx=>by
  simp only[VR]at h0 hx ⊢;obtain⟨us0,-,-,hu0⟩:=h0;obtain⟨us,rfl,h1,hu⟩:=hx;exact⟨us,rfl,h1,Qw hw Bf hf him hnb hbl cs us0.toList us.toList hu0 hu⟩
 | .tup cs,v0,v,h0,hx=>by
  simp only[VR]at h0 hx ⊢;obtain⟨us0,-,hu0⟩:=h0;obtain⟨us,rfl,hu⟩:=hx;exact⟨us,rfl,Qw hw Bf hf him hnb hbl cs us0.toList us.toList hu0 hu⟩
 | .fn f cs,v0,v,h0,hx=>by
  simp only[VR]at h0 hx ⊢;obtain⟨us0,-,hu0⟩:=h0;obtain⟨us,rfl,hu⟩:=hx;exact⟨us,rfl,Qw hw Bf hf him hnb hbl cs us0.toList us.toList hu0 hu⟩
 | .ptr b o,v0,v,h0,hx=>by
  simp only[VR]at h0 hx ⊢;exact⟨by rw[hbl];exact h0.1,by rw[hnb];exact hx.2⟩
 | .mp b,v0,v,h0,hx=>by
  simp only[VR]at h0 hx ⊢;exact⟨by rw[hbl];exact h0.1,by rw[hnb];exact hx.2⟩
 | .sl k n off len,v0,v,_,hx=>Ph hw Bf hf him _ _ rfl hx
 | .ep k n i c sz,v0,v,_,hx=>Ph hw Bf hf him _ _ rfl hx
 | .vm ks vs,v0,v,_,hx=>Ph hw Bf hf him _ _ rfl hx
 | .vs full sz xs,v0,v,_,hx=>Ph hw Bf hf him _ _ rfl hx
 | .pv cs,v0,v,_,hx=>Ph hw Bf hf him _ _ rfl hx
 | .mbox ..,v0,v,_,hx=>by simp[VR]at hx
 | .rbox _,v0,v,_,hx=>by simp[VR]at hx
 | .nilm,v0,v,_,hx=>by simpa[VR]using hx
 | .junk,v0,v,_,hx=>by simpa[VR]using hx
 | .bool b,v0,v,_,hx=>by simpa[VR]using hx
 | .int k n,v0,v,_,hx=>by simpa[VR]using hx
 | .str s,v0,v,_,hx=>by simpa[VR]using hx
 | .nilp,v0,v,_,hx=>by simpa[VR]using hx
 | .nilf,v0,v,_,hx=>by simpa[VR]using hx
theorem Qw {E0 E E':Env} (hw:E'.w=E.w) (Bf:∀b o,E.ok b o->E'.ok b o) (hf:E'.h.fams=E.h.fams) (him:E'.im=E.im) (hnb:E'.nb=E.nb) (hbl:E'.h.boxes.length=E0.h.boxes.length):∀(cs:G3) (us0 us:List Value),Be E0 cs us0->Be E cs us->Be E' cs us
 | [],us0,us,_,hx=>by simpa[Be]using hx
 |c::cs,us0,us,h0,hx=>by
  simp only[Be]at h0 hx ⊢;obtain⟨u0,us0',rfl,k1,k2⟩:=h0;obtain⟨u,us',rfl,h1,h2⟩:=hx;exact⟨u,us',rfl,uP hw Bf hf him hnb hbl c u0 u k1 h1,Qw hw Bf hf him hnb hbl cs us0' us' k2 h2⟩
end
def Env.trim (E:Env) (bx:List (List AV)):Env:={E with h:=⟨bx,E.h.fams⟩}
theorem gf {l bx:List (List AV)} (hb:l.take bx.length=bx):bx.length<=l.length/\∀i,i<bx.length->l[i]?=bx[i]?:=by
 have h1:=congrArg List.length hb;rw[List.length_take]at h1;refine⟨by omega,λi hi=>?_⟩;rw[←hb,A0Y,if_pos hi]
theorem dB {E:Env} {bx:List (List AV)} (hb:E.h.boxes.take bx.length=bx) {b o:Nat} (h:E.ok b o):(E.trim bx).ok b o:=by
 obtain⟨h1,h2⟩:=gf hb;rcases h with h|⟨k1,k2,k3,k4⟩
 .exact .inl h
 .refine .inr ⟨k1,k2,λi hi he=>?_,k4⟩;have Cw:i<bx.length:=hi;obtain⟨cs,Lq⟩:=k3 i (by omega) he;exact⟨cs,by show bx[i]?=_;rw[←h2 i Cw];exact Lq⟩
theorem tq {E0 E:Env} (he:Ext E0 E) (hb:E.h.boxes.take E0.h.boxes.length=E0.h.boxes):Ext E0 (E.trim E0.h.boxes) :=
 ⟨λb o h=>⟨dB hb (he.cells b o h).1,(he.cells b o h).2⟩,Nat.le_refl _,he.nb,he.fams,he.im,he.base,he.ok0,he.below⟩
theorem wI {E0 E:Env} (h0:SR E0) (h:SR E) (he:Ext E0 E) (hb:E.h.boxes.take E0.h.boxes.length=E0.h.boxes):SR (E.trim E0.h.boxes):=by
 obtain⟨p1,p2⟩:=gf hb;have Bf:∀b o,E.ok b o->(E.trim E0.h.boxes).ok b o:=λb o k=>dB hb k;have Hg:∀b o,E.ok b o->(E.trim E0.h.boxes).ok b o/\KG E.w (E.trim E0.h.boxes).w b o:=λb o k=>⟨Bf b o k,KG.refl _ _ _⟩;refine⟨h.basele,λi cs hi=>?_,λk f hk=>?_,λi j hi hj=>h.inj i j ?_ ?_,h.injf,λi k hi hk=>h.sep i k ?_ hk⟩
 .have Cw:E0.h.boxes[i]?=some cs:=hi;have A7:=(A0X.1 Cw).1;have hE:E.h.boxes[i]?=some cs:=by rw[p2 i A7];exact Cw
  obtain⟨b1,b2⟩:=h.boxes i cs hE;refine⟨b1,?_⟩;rcases b2 with ⟨cur,t,h2,h3,h4⟩|⟨ks,vs,es,clk,e,h2,h3,h4⟩|⟨ys,cur,t,e,h2,h3,h4⟩
  .refine .inl ⟨cur,t,h2,?_,h4⟩;obtain⟨_,c2⟩:=h0.boxes i cs Cw;rcases c2 with ⟨cur0,t0,g2,g3,g4⟩|⟨ks,vs,es,clk,e,_⟩|⟨ys,cur0,t0,e,_⟩
   .exact Qw (E0:=E0) (E:=E) (E':=E.trim E0.h.boxes) rfl Bf rfl rfl rfl rfl cs _ _ g3 h3
   .subst e;simp only[Be,VR,false_and,and_false,exists_false]at h3
   .subst e;simp only[Be,VR,false_and,and_false,exists_false]at h3
  .exact .inr (.inl ⟨ks,vs,es,clk,e,h2,d6 Hg _ _ h3,d6 Hg _ _ h4⟩)
  .exact .inr (.inr ⟨ys,cur,t,e,h2,d6 Hg _ _ h3,h4⟩)
 .have hf:=h.fams k f hk;obtain⟨cur,t,h2,h3,h4⟩:=hf.cells;exact⟨hf.base,hf.sz,hf.lo,hf.room,hf.cap,cur,t,h2,h3,λi x hi hx=>⟨(h4 i x hi hx).1,λc y hc=>by
   obtain⟨v,v1,v2,v3⟩:=(h4 i x hi hx).2 c y hc;exact⟨v,v1,v2,Dq Hg _ _ v3⟩⟩⟩
 .have:i<E0.h.boxes.length:=hi;omega
 .have:j<E0.h.boxes.length:=hj;omega
 .have:i<E0.h.boxes.length:=hi;omega
def Qc (P:Program) (O:Orc):Prop :=
 ∀(f:FuncId) (args:List AV) (r:AV),O.pure f args=some r->Program.enterable P f=true /\
  ∀(w:World) (ok0:Nat->Nat->Prop) (vs:Array Value),(∀b o,ok0 b o->b<w.heap.size)->Dg w ok0 args vs.toList ->
   Calls P f vs w λe w'=>∃u,e=.returned u/\Bl w.heap.size w w'/\PV w' (λb o=>ok0 b o\/(w.heap.size<=b/\b<w'.heap.size)) r u
def Yi (P:Program) (O:Orc):Prop :=
 ∀(f:FuncId) (args:List AV) (h:AH) (r:AV) (h':AH),O.raw f args h=some (r,h')->Program.enterable P f=true /\
  ∀(E:Env) (vs:Array Value),SR E->E.h=h->Be E args vs.toList ->
   Calls P f vs E.w λe w'=>∃u E',e=.returned u/\w'=E'.w/\Ext E E'/\SR E'/\E'.h=h'/\VR E' r u
mutual
theorem YQ {w w':World} {ok ok':Nat->Nat->Prop}:∀{x:AV} {v:Value},x.scalar1=true->PV w ok x v->PV w' ok' x v:=by
 intro x v hs h;cases x<;>simp only[AV.scalar1]at hs<;>first|(cases hs;done)|simpa[PV]using h
end
theorem WA {w w':World} {ok ok':Nat->Nat->Prop}:∀{xs:G3} {vs:List Value},(∀x∈xs,x.scalar1=true)->Dg w ok xs vs->Dg w' ok' xs vs
 | [],vs,_,h=>by simpa[Dg]using h
 |x::xs,vs,hs,h=>by
  simp only[Dg]at h ⊢;obtain⟨u,us,rfl,h1,h2⟩:=h;exact⟨u,us,rfl,YQ (hs x (by simp)) h1,WA (λy hy=>hs y (by simp[hy])) h2⟩
theorem YP {w w':World} {ok ok':Nat->Nat->Prop} {x:AV} {v:Value} (hs:x.scalar0=true) (h:PV w ok x v):PV w' ok' x v:=by
 unfold AV.scalar0 at hs;split at hs
 .rename_i cs;simp only[PV]at h ⊢;obtain⟨us,rfl,h1,h2⟩:=h;exact⟨us,rfl,h1,WA (by simpa using hs) h2⟩
 .exact YQ hs h
theorem Ua {w w':World} {ok ok':Nat->Nat->Prop}:∀{xs:G3} {vs:List Value},(∀x∈xs,x.scalar0=true)->Dg w ok xs vs->Dg w' ok' xs vs
 | [],vs,_,h=>by simpa[Dg]using h
 |x::xs,vs,hs,h=>by
  simp only[Dg]at h ⊢;obtain⟨u,us,rfl,h1,h2⟩:=h;exact⟨u,us,rfl,YP (hs x (by simp)) h1,Ua (λy hy=>hs y (by simp[hy])) h2⟩
theorem po {w w':World} {ok ok':Nat->Nat->Prop} {x:AV} {v:Value} (hs:x.scalar=true) (h:PV w ok x v):PV w' ok' x v:=by
 unfold AV.scalar at hs;split at hs
 .rename_i vs;simp only[PV]at h ⊢;obtain⟨us,rfl,h2⟩:=h;exact⟨us,rfl,Ua (by simpa using hs) h2⟩
 .exact YP hs h
theorem Zf {h:AH} {x:AV} (ht:KO h x=true):Ej h true x=Ej h false x:=by
 cases x<;>simp only[Ej]
 case mp b=>simp[KO]at ht
 case sl k n off len =>
  unfold KO at ht;cases hf:h.fams[k]? with
  |none=>rfl
  |some f =>
   simp only[hf]at ht ⊢;simp[ht]
theorem Zg {h:AH}:∀{xs:G3},xs.all (KO h)=true->TV h true xs=TV h false xs
 | [],_=>rfl
 |x::xs,ht=>by
  simp only[A0V,A0R]at ht;simp only[TV,Zf ht.1,Zg ht.2]
theorem qu {h:AH} {x:AV} (ht:CM h x=true):KH h true x=KH h false x:=by
 unfold KH;split
 .rename_i cs;rw[Zg (by simpa[CM]using ht)]
 .rename_i hx;refine Zf ?_;unfold CM at ht;split at ht
  .exact absurd rfl (hx _)
  .exact ht
theorem Vh {h:AH}:∀{xs:G3},xs.all (CM h)=true->Bj h true xs=Bj h false xs
 | [],_=>rfl
 |x::xs,ht=>by
  simp only[A0V,A0R]at ht;simp only[Bj,qu ht.1,Vh ht.2]
section
variable {E:Env} {P:Program} {fr:Fr} {a:Act} {o:Oper} {O:Orc} {c:Ctx}
theorem iL (hP:Qc P O) (hR:Yi P O) (hS:SR E) {f:FuncId} {args:G3} {vs:Array Value} {r:AV} {h':AH} (hv:Be E args vs.toList) (h:LX O c f args E.h=some (r,h')) :
  Program.enterable P f=true/\Calls P f vs E.w λe w'=>∃u E',e=.returned u/\w'=E'.w/\Ext E E'/\SR E'/\E'.h=h'/\VR E' r u:=by
 unfold LX at h;split at h
 .obtain⟨Cv,e1,e2⟩:=eL h;obtain⟨h1,h2⟩:=hR f args E.h r Cv e1;refine⟨h1,?_⟩;rcases e2 with e2|⟨e2,e3,e4⟩
  .subst e2;exact h2 E vs hS rfl hv
  .refine(h2 E vs hS rfl hv).mono λe w' ⟨u,E',k1,k2,k3,k4,k5,k6⟩=>?_;have hb:E'.h.boxes.take E.h.boxes.length=E.h.boxes:=by rw[k5];exact e3
   refine⟨u,E'.trim E.h.boxes,k1,k2,tq k3 hb,wI hS k4 k3 hb,?_,Ph (E:=E') (E':=E'.trim E.h.boxes) rfl (λb o k=>dB hb k) rfl rfl _ _ e2 k6⟩;show (⟨E.h.boxes,E'.h.fams⟩:AH)=h';rw[k5];exact e4.symm
 .split at h
  .cases h
  .rename_i aas has;split at h
   .cases h
   .rename_i q hq;split at h
    .rename_i hc;cases h;obtain⟨h1,h2⟩:=hP f aas r hq;refine⟨h1,?_⟩;by_cases hs:r.scalar=true
     .have hpv:=MR hS (am:=true) (ok':=λb _=>b<E.w.heap.size) ⟨λb o ho=>UL hS ho,λ_ b _ _ hb=>hb⟩ hv has;refine(h2 E.w (λb _=>b<E.w.heap.size) vs (λ_ _ hb=>hb) hpv).mono λe w' ⟨u,he,hb,hu⟩=>?_;exact⟨u,{E with w:=w'},he,rfl,Bk hS hb,HG hS hb,rfl,FN _ _ (po hs hu)⟩
     .have ht:args.all (CM E.h)=true:=by simpa[hs]using hc
      rw[Vh ht]at has;have hpv:=MR hS (am:=false) (ok':=E.ok) ⟨λ_ _ h=>h,λh=>by cases h⟩ hv has;refine(h2 E.w E.ok vs (λb o hb=>UL hS hb) hpv).mono λe w' ⟨u,he,hb,hu⟩=>?_;have hx:=Bk hS hb;refine⟨u,{E with w:=w'},he,rfl,hx,HG hS hb,rfl,FN _ _ (Dq (λb o ho=>⟨?_,KG.refl _ _ _⟩) _ _ hu)⟩
      rcases ho with ho|ho
      .exact(hx.cells b o ho).1
      .refine .inr ⟨Nat.le_trans hS.basele ho.1,ho.2,λi hi=>?_,λk g hk he=>?_⟩
       .have:=(hS.nb_lt hi).2;intro e;have e':E.nb i=b:=e;omega
       .have:=(hS.im_lt (A0X.1 hk).1).2;have he':(E.im k).b=b:=he;omega
    .cases h
theorem dw {f:FuncId} (he:Program.enterable P f=true) (args:Array Value) (w:World):(callFunc f args).run P w=.ok (.enter f args) w:=by
 unfold Program.enterable at he;unfold callFunc;split at he
 .rename_i fn hfn;simp only[A0R,Bool.not_eq_true']at he;have P0:fn.name≠ "runtime.NumGoroutine":=by simpa using he.2
  have h1:fn.body≠none:=by intro h;rw[h]at he;simp at he
  simp[hfn,P0,h1]
 .cases he
theorem rv {α β:Type} {f:α->β} {x:Option α} {r:β} (h:x.map f=some r):∃y,r=f y:=by
 cases x with
 |none=>cases h
 |some y=>exact⟨y,by simpa using h.symm⟩
def XN:Op->Bool
 | .call {callee:=.value _,args:=_,argTypes:=_}=>true
 |_=>false
theorem mN {p:Op} {r:ROp} (hr:u5 P p=some r) (hp:XN p=false):r.isCall=false:=by
 unfold u5 at hr
 repeat' (split at hr)
 all_goals first
  |(cases hr;done)
  |(cases hr;rfl)
  |(obtain⟨y,rfl⟩:=rv hr;rfl)
  |(exfalso;simp[XN]at hp;done)
theorem op_wp (hP:Qc P O) (hR:Yi P O) (hS:SR E) (hf:FR E fr a.tmps) {r r0:ROp} (hr:u5 P o.op=some r0) (Cx:r=r0\/∃m,r=r0.lax m) {v:AV} {h':AH} (G1:A9 O c r fr E.h=some (v,h'))
  {K:Act->World->Prop} {Q:Exit->Act->World->Prop} (hK:∀u E',Ext E E'->SR E'->E'.h=h'->VR E' v u->K (a.put o.dst u) E'.w):o.wp P a E.w K Q:=by
 by_cases hnc:r.isCall=false
 .obtain⟨nx,u,E',h1,h2,h3,h4,h5,h6⟩:=vS (c:=c) hS hf hr Cx G1 hnc;unfold Oper.wp;rw[h1];rcases h2 with rfl|⟨rfl,rfl⟩
  .exact hK u E' h3 h4 h5 h6
  .exact hK undef E' h3 h4 h5 h6
 .have hcalls:∀(f:FuncId) (vs:Array Value) (args:List AV),Be E args vs.toList->LX O c f args E.h=some (v,h')->(execOp a.eval o).run P E.w=(callFunc f vs).run P E.w->o.wp P a E.w K Q:=by
   intro f vs args hv hc hx;obtain⟨h1,h2⟩:=iL hP hR hS hv hc;unfold Oper.wp;rw[hx,dw h1];refine Calls.mono h2 λe w' ⟨u,E',he,hw,k1,k2,k3,k4⟩=>?_;subst he;subst hw;exact hK u E' k1 k2 k3 k4
  by_cases hp:XN o.op=false
  .have h1:=mN hr hp;rcases Cx with rfl|⟨_,rfl⟩
   .exact absurd h1 hnc
   .refine absurd ?_ hnc;cases r0<;>first|rfl|exact h1|(rename_i m _ _ _;obtain⟨m,mk⟩:=m;cases m with|none=>rfl|some b=>cases b<;>rfl)|(rename_i m _ _ _ _;obtain⟨m,mk⟩:=m;cases mk<;>rfl)
  .cases CL:o.op<;>rw[CL]at hp hr<;>try (exact absurd rfl hp)
   rename_i q;obtain⟨callee,args,ats⟩:=q;cases callee with
   |invoke x m=>exact absurd rfl hp
   |builtin b=>exact absurd rfl hp
   |value x =>
    cases x<;>simp only[u5]at hr<;>try (cases hr;done)
    case tmp t =>
     simp only[A0Q]at hr;obtain⟨aas,has,rfl⟩:=hr;obtain rfl:r=.callv (.t t) aas:=by rcases Cx with h|⟨_,h⟩<;>exact h
     simp only[A9]at G1;split at G1
     .rename_i f caps hg;have G1:LX O c f (aas.map (get fr)++caps) E.h=some (v,h'):=by
       split at G1
       .cases G1
       .exact G1
      have hv:=hf.val t;have Z6:fr.getD t C5=.fn f caps:=hg;rw[Z6]at hv;simp only[VR]at hv;obtain⟨us,e1,e2⟩:=hv;refine hcalls f (args.map a.eval++us) _ ?_ G1 ?_
      .have:=TL (QB hf has) e2;simpa using this
      .simp[execOp,CL,resolve,Act.eval,e1,Deferred.ofValue,invoke]
     .cases G1
    case func f =>
     split at hr
     .simp only[A0Q]at hr;obtain⟨aas,has,rfl⟩:=hr;obtain rfl:r=.call f aas:=by rcases Cx with h|⟨_,h⟩<;>exact h
      simp only[A9]at G1;refine hcalls f (args.map a.eval) _ (QB hf has) G1 ?_;simp[execOp,CL,resolve,Act.eval,Deferred.ofValue,invoke]
     .cases hr
end
def Rm (O:Orc) (c:Ctx) (o:RO) (fr:Fr) (h:AH):Option (AV×AH) :=
 match GR fr o.guard with
 |some true=>A9 O c o.op fr h
 |some false=>some (C5,h)
 |none=>none
theorem UC (O:Orc) (c:Ctx) (o:RO) (rest:List RO) (fr:Fr) (h:AH) :
  L7 O c (o::rest) fr h=(Rm O c o fr h).bind λx=>L7 O c rest (put fr o.dst x.1) x.2:=by
 unfold Rm;simp only[L7];cases GR fr o.guard with
 |none=>rfl
 |some b =>
  cases b with
  |false=>rfl
  |true =>
   dsimp only;cases A9 O c o.op fr h with
   |none=>rfl
   |some x=>rfl
structure RORel (P:Program) (ops:List Oper) (o:Oper) (ro:RO):Prop where
 dst:ro.dst=o.dst
 guard:UW ops o.guard=some ro.guard
 op:∃r0,u5 P o.op=some r0/\(ro.op=r0\/∃m,ro.op=r0.lax m)
theorem aR {P:Program} {ops:List Oper} {o:Oper} {ro:RO} (h:aQ P ops o=some ro):RORel P ops o ro:=by
 unfold aQ at h;split at h
 .rename_i r g h1 h2;cases h;exact⟨rfl,h2,r,h1,.inl rfl⟩
 .cases h
theorem RORel.lax {P:Program} {ops:List Oper} {o:Oper} {ro:RO} (m:Option Bool×Bool) (h:aQ P ops o=some ro):RORel P ops o (ro.lax m):=by
 unfold aQ at h;split at h
 .rename_i r g h1 h2;cases h;exact⟨rfl,h2,r,h1,.inr ⟨m,rfl⟩⟩
 .cases h
section
variable {P:Program} {O:Orc} {c:Ctx}
theorem Ug {E:Env} {fr:Fr} {a:Act} (hf:FR E fr a.tmps) {ops:Array Oper} {o:Oper} {g:Option (Nat×Bool)} (hg:UW ops.toList o.guard=some g) {b:Bool} (hw:GR fr g=some b) :
  Region.wanted o (yielded ops a.tmps)=b:=by
 unfold UW at hg;unfold Region.wanted;split at hg
 .rename_i h0;cases hg;simp[GR]at hw;simp[h0,hw]
 .rename_i j want h0;split at hg
  .rename_i o' ho';split at hg
   .rename_i d hd;cases hg;have hv:=hf.val d;have hy:((ops[j]?).bind (·.dst))=some d:=by
     have:ops[j]?=some o':=by simpa using ho'
     simp[this,hd]
    simp only[h0];simp only[GR]at hw;unfold yielded;simp only[hy,Option.bind_some];split at hw
    .rename_i b' hb;cases hw;rw[hb]at hv;simp only[VR]at hv;have:a.tmps[d]?=some (.bool b'):=by
      rw[A0U]at hv;cases h1:a.tmps[d]? with
      |none=>rw[h1]at hv;simp[undef]at hv
      |some u=>rw[h1]at hv;simpa using hv
     simp only[this];cases b'<;>cases want<;>rfl
    .rename_i vs hb;cases hw;rw[hb]at hv;simp only[VR]at hv;obtain⟨us,e,_⟩:=hv;have:∀b',a.tmps[d]?≠some (.bool b'):=by
      intro b' h1;rw[A0U,h1]at e;simp at e
     cases h1:a.tmps[d]? with
     |none=>rfl
     |some u =>
      cases u<;>first|rfl|exact absurd h1 (this _)
    .cases hw
   .cases hg
  .cases hg
theorem lj (hP:Qc P O) (hR:Yi P O) {E:Env} {fr:Fr} {a:Act} (hS:SR E) (hf:FR E fr a.tmps) {ops:Array Oper} {o:Oper} {ro:RO} (hr:RORel P ops.toList o ro) {v:AV} {h':AH} (G1:Rm O c ro fr E.h=some (v,h'))
  {K:Act->World->Prop} {Q:Exit->Act->World->Prop} (hK:∀u E',Ext E E'->SR E'->E'.h=h'->VR E' v u->K (a.put o.dst u) E'.w) :
  if Region.wanted o (yielded ops a.tmps)then o.wp P a E.w K Q else K (a.put o.dst undef) E.w:=by
 unfold Rm at G1;split at G1
 .rename_i hw;rw[if_pos (Ug hf hr.guard hw)];obtain⟨r0,h1,h2⟩:=hr.op;exact op_wp hP hR hS hf h1 h2 G1 hK
 .rename_i hw;cases G1;have:=Ug hf hr.guard hw;rw[if_neg (by simp[this])];exact hK undef E (Ext.refl E) hS rfl (FO E)
 .cases G1
theorem fJ (hP:Qc P O) (hR:Yi P O) {ops:Array Oper} {Q:Exit->Act->World->Prop} :
  ∀(l:List Oper) (N8:List RO),N8.length=l.length->(∀(i:Nat) (o:Oper) (ro:RO),l[i]?=some o->N8[i]?=some ro->RORel P ops.toList o ro) ->
   ∀(E:Env) (fr:Fr) (a:Act) (C4:Fr) (h':AH),SR E->FR E fr a.tmps->L7 O c N8 fr E.h=some (C4,h') ->
    (∀a' E',Ext E E'->SR E'->E'.h=h'->FR E' C4 a'.tmps->a'.defers=a.defers->Q .normal a' E'.w)->wpList P ops Q l a E.w
 | [],N8,hl,_,E,fr,a,C4,h',hS,hf,G1,hQ=>by
  have:N8=[]:=List.eq_nil_of_length_eq_zero (by simpa using hl);subst this;simp only[L7]at G1;cases G1;exact hQ a E (Ext.refl E) hS rfl hf rfl
 |o::l,N8,hl,hrel,E,fr,a,C4,h',hS,hf,G1,hQ=>by
  cases N8 with
  |nil=>simp at hl
  |cons ro N8 =>
   rw[UC,Option.bind_eq_some_iff]at G1;obtain⟨⟨v,h1⟩,Hg,hrest⟩:=G1;have hr:=hrel 0 o ro rfl rfl;have:=lj (Q:=Q) hP hR hS hf hr Hg (K:=wpList P ops Q l) (λu E' hx hS' he hv=>by
    refine fJ hP hR l N8 (by simpa using hl) (λi o' ro' h1 h2=>hrel (i+1) o' ro' (by simpa using h1) (by simpa using h2)) E' (put fr ro.dst v) (a.put o.dst u) C4 h' hS' ?_ (by rw[he];exact hrest) λa' E'' hx' hS'' he' hf' hd=>?_
    .rw[hr.dst];exact FR.put (FR.ext hx hf) o.dst hv
    .refine hQ a' E'' (hx.trans hx') hS'' he' hf' (hd.trans ?_);cases o.dst<;>rfl)
   unfold wpList;split
   .rename_i hw;rw[if_pos hw]at this;exact .inl this
   .rename_i hw;rw[if_neg hw]at this;exact this
end
end Go.Abs
namespace Go.Abs
section
variable {O:Orc} {c:Ctx}
theorem C8 {fr C4:Fr} {x:Opd} (h:∀t∈x.slots,C4.getD t C5=fr.getD t C5):get C4 x=get fr x:=by
 cases x with
 |t n=>exact h n (by simp[Opd.slots])
 |c v=>rfl
theorem Pr {fr C4:Fr} {xs:List Opd} (h:∀t∈xs.flatMap Opd.slots,C4.getD t C5=fr.getD t C5):xs.map (get C4)=xs.map (get fr) :=
 List.map_congr_left λx hx=>C8 λt ht=>h t (List.mem_flatMap.2 ⟨x,hx,ht⟩)
theorem PF {fr C4:Fr} {n:Nat}:∀{ps:List (Nat×Nat×Opd)},(∀t∈ps.flatMap (λp=>p.2.2.slots),C4.getD t C5=fr.getD t C5)->D2 C4 n ps=D2 fr n ps
 | [],_=>rfl
 |(off,k,x)::ps,h=>by
  have hx:get C4 x=get fr x:=C8 λt ht=>h t (by simp[ht]);have hr:=PF (n:=n) (ps:=ps) λt ht=>h t (by simp only[A0W,A0S];exact .inr ht);simp only[D2,hx,hr]
theorem TP {h h':AH} (he:h'.fams=h.fams) (sz:Nat) (x:AV):AR h' sz x=AR h sz x:=by cases x<;>simp only[AR,he]
theorem Kk {fr C4:Fr} {h:AH}:∀{ps:List (Nat×Opd)} {xs:G3},(∀t∈ps.flatMap (λp=>p.2.slots),C4.getD t C5=fr.getD t C5)->A5 C4 h xs ps=A5 fr h xs ps
 | [],xs,_=>rfl
 |(i,x)::ps,xs,hh=>by
  have hx:get C4 x=get fr x:=C8 λt ht=>hh t (by simp[ht]);simp only[A5,hx];split
  .split
   .exact Kk λt ht=>hh t (by simp only[A0W,A0S];exact .inr ht)
   .rfl
  .rfl
theorem Qk {fr:Fr} (h h':AH):∀{ps:List (Nat×Opd)} {xs:G3},ps.all (λp=>OD (get fr p.2))=true->A5 fr h' xs ps=A5 fr h xs ps
 | [],xs,_=>rfl
 |(i,x)::ps,xs,hp=>by
  simp only[A0V,A0R]at hp;simp only[A5,RI h false hp.1,RI h' false hp.1];split
  .split
   .exact Qk h h' hp.2
   .rfl
  .rfl
theorem Vg {fr C4:Fr}:∀{ps:List (Nat×Opd)},(∀t∈ps.flatMap (λp=>p.2.slots),C4.getD t C5=fr.getD t C5)->ps.all (λp=>OD (get C4 p.2))=ps.all (λp=>OD (get fr p.2))
 | [],_=>rfl
 |(i,x)::ps,hh=>by
  have hx:get C4 x=get fr x:=C8 λt ht=>hh t (by simp[ht]);simp only[A0V,hx];rw[Vg (ps:=ps) λt ht=>hh t (by simp only[A0W,A0S];exact .inr ht)]
theorem Yr {h h':AH} (hb:h'.boxes=h.boxes) (x:AV):GL h' x=GL h x:=by cases x<;>simp only[GL,hb]
theorem Qz {fr C4:Fr} {x:Option Opd} (h:∀t∈UM x,C4.getD t C5=fr.getD t C5):L6 C4 x=L6 fr x:=by
 cases x with
 |none=>rfl
 |some x=>simp only[L6,C8 (x:=x) h]
theorem gS {h h':AH} (he:h'.fams=h.fams) (sz:Nat) (x:AV) (l u m:Option Int):Oc h' sz x l u m=Oc h sz x l u m:=by
 unfold Oc;rw[he]
theorem eO {h h':AH} (hb:h'.boxes=h.boxes) {b:Bool} {n:Nat} {x:AV} (hx:∀k m i q s,x≠.ep k m i q s):JT h' b n x=JT h b n x:=by
 cases x<;>simp only[JT,hb];exact absurd rfl (hx _ _ _ _ _)
theorem Qb {h h':AH} (hb:h'.boxes=h.boxes) (hf:h'.fams=h.fams):h'=h:=by cases h;cases h';simp_all
theorem TH (r:ROp):r.writesB c=true->r.looksB=true:=by cases r<;>simp[ROp.writesB,ROp.looksB]
theorem TI (r:ROp):r.writesF c=true->r.looksF=true:=by cases r<;>simp[ROp.writesF,ROp.looksF]
theorem TN {f:FuncId} {args:G3} {h h1:AH} {v:AV} (hr:c.raw f=false) (he:LX O c f args h=some (v,h1)):h1=h:=by
 unfold LX at he;rw[if_neg (by simp[hr])]at he;split at he
 .cases he
 .split at he
  .cases he
  .split at he
   .cases he;rfl
   .cases he
theorem Rh:∀{xs:G3} {h h':AH} {ys:G3},Bs h xs=some (ys,h')->h'.fams=h.fams
 | [],h,h',ys,he=>by simp only[Bs]at he;cases he;rfl
 |x::xs,h,h',ys,he=>by
  by_cases hp:∃b off,x=.ptr b off
  .obtain⟨b,off,rfl⟩:=hp;simp only[Bs]at he;split at he
   case isFalse=>cases he
   split at he
   case h_2=>cases he
   split at he
   case isFalse=>cases he
   simp only[A0Q]at he;obtain⟨⟨ys',h''⟩,hr,e⟩:=he;cases e;have q:=Rh hr;exact q
  .have hr:Bs h (x::xs)=(Bs h xs).map λp=>(x::p.1,p.2):=by
    cases x<;>first|rfl|exact absurd ⟨_,_,rfl⟩ hp
   rw[hr]at he;simp only[A0Q]at he;obtain⟨⟨ys',h''⟩,hr,e⟩:=he;cases e;exact Rh hr
theorem bw {r:ROp} {fr:Fr} {h h1:AH} {v:AV} (he:A9 O c r fr h=some (v,h1)):(r.writesB c=false->h1.boxes=h.boxes)/\(r.writesF c=false->h1.fams=h.fams):=by
 have same:h1=h->(r.writesB c=false->h1.boxes=h.boxes)/\(r.writesF c=false->h1.fams=h.fams):=λe=>by subst e;exact⟨λ_=>rfl,λ_=>rfl⟩
 cases r
 case st n a x=>exact⟨(λh=>nomatch h),(λh=>nomatch h)⟩
 case ste n a x =>
  refine⟨λ_=>?_,(λh=>nomatch h)⟩;simp only[A9,YX,Im]at he
  repeat' (split at he)
  all_goals first
   |(cases he;done)
   |(
     cases he;rename_i Hg
     repeat' (split at Hg)
     all_goals first
      |(cases Hg;done)
      |(
       simp only[A0Q]at Hg;obtain⟨y,_,rfl⟩:=Hg;rfl))
 case stb n a x =>
  refine⟨(λh=>nomatch h),λ_=>?_⟩;simp only[A9,YW]at he
  repeat' (split at he)
  all_goals first|(cases he;done)|(cases he;rfl)
 case clr z x =>
  refine⟨λ_=>?_,(λh=>nomatch h)⟩;simp only[A9,Uz]at he
  repeat' (split at he)
  all_goals first|(cases he;done)|(cases he;rfl)
 case callv x aas =>
  have key:c.rawv=false->h1=h:=by
   intro hr;simp only[A9]at he;split at he
   .rename_i f caps hg;split at he
    .cases he
    .rename_i hc;exact TN (O:=O) (c:=c) (by simpa[hr]using hc) he
   .cases he
  exact⟨λhr=>by rw[key hr],λhr=>by rw[key hr]⟩
 case clos f cs =>
  simp only[A9]at he;split at he
  .rename_i hro;refine⟨λhr=>?_,λ_=>?_⟩
   .simp only[ROp.writesB]at hr;rw[hr]at hro;cases hro
   .simp only[A0Q]at he;obtain⟨⟨ys,h2⟩,hq,he⟩:=he;cases he;exact Rh hq
  .cases he;exact⟨λ_=>rfl,λ_=>rfl⟩
 case mkmap=>simp only[A9]at he;cases he;exact⟨(λh=>nomatch h),(λ_=>rfl)⟩
 case mkv z b l q =>
  refine same ?_;simp only[A9,jO]at he
  repeat' (split at he)
  all_goals first|(cases he;done)|(cases he;rfl)
 case mlook str ok z x k =>
  refine same ?_;simp only[A9,Gb]at he
  repeat' (split at he)
  all_goals first|(cases he;done)|(cases he;rfl)
 case bstr x =>
  refine same ?_;simp only[A9,Su]at he
  repeat' (split at he)
  all_goals first|(cases he;done)|(cases he;rfl)
 case mup str x k w =>
  refine⟨(λh=>nomatch h),λ_=>?_⟩;simp only[A9,Yt]at he
  repeat' (split at he)
  all_goals first|(cases he;done)|(cases he;rfl)
 case box x=>simp only[A9]at he;split at he<;>cases he;exact⟨(λh=>nomatch h),(λ_=>rfl)⟩
 case alloc z=>simp only[A9]at he;cases he;exact⟨(λh=>nomatch h),(λ_=>rfl)⟩
 case mkslice z b l q =>
  simp only[A9]at he;split at he
  .split at he<;>cases he;exact⟨λ_=>rfl,(λh=>nomatch h)⟩
  .cases he
 case app sz b s x =>
  refine⟨λ_=>?_,λh=>nomatch h⟩;simp only[A9,K1]at he
  repeat' (split at he)
  all_goals first|(cases he;done)|(cases he;rfl)
 case len b x =>
  refine same ?_;cases b<;>simp only[A9]at he<;>split at he<;>first|(cases he;done)|(cases he;rfl)
 case call f aas =>
  refine⟨λhr=>?_,λhr=>by rw[TN (O:=O) hr he]⟩;cases hc:c.raw f with
  |false=>rw[TN (O:=O) hc he]
  |true =>
   simp only[ROp.writesB,hc,Bool.true_and,Bool.not_eq_false']at hr;simp only[A9,LX,hc,if_true,hr]at he;exact mq he
 all_goals
  refine same ?_;simp only[A9]at he
  repeat' (split at he)
  all_goals first|(cases he;done)|(cases he;rfl)
theorem gY {h h':AH} (hf:h'.fams=h.fams) {n:Nat} {x:AV} (hx:OD x=true) {k m i q s:Nat}:(Im h' n x k m i q s).map AH.fams=(Im h n x k m i q s).map AH.fams:=by
 unfold Im;rw[RI h false hx,RI h' false hx,hf];cases h.fams[k]? with
 |none=>rfl
 |some f =>
  dsimp only;split
  .cases f.xs[i]? with
   |none=>rfl
   |some y =>
    dsimp only;split
    .cases y.reform (M5 y.cells q x.cells)<;>simp
    .rfl
  .rfl
theorem aa {h h':AH} (hf:h'.fams=h.fams) {n:Nat} {p x:AV}:(YX h' n p x).map (λr=>(r.1,r.2.fams))=(YX h n p x).map (λr=>(r.1,r.2.fams)):=by
 cases p<;>try rfl
 rename_i k m i q s;simp only[YX];split
 .rename_i hx;have:=gY hf (n:=n) hx (k:=k) (m:=m) (i:=i) (q:=q) (s:=s);cases h1:Im h' n x k m i q s with
  |none =>
   cases h2:Im h n x k m i q s with
   |none=>rfl
   |some b=>rw[h1,h2]at this;cases this
  |some a =>
   cases h2:Im h n x k m i q s with
   |none=>rw[h1,h2]at this;cases this
   |some b =>
    rw[h1,h2]at this;simp only[Option.map_some,Option.some.injEq]at this ⊢;rw[this]
 .rfl
theorem aZ {h h':AH} (hb:h'.boxes=h.boxes) {n:Nat} {p x:AV}:(YW h' n p x).map (λr=>(r.1,r.2.boxes))=(YW h n p x).map (λr=>(r.1,r.2.boxes)):=by
 cases p<;>try rfl
 simp only[YW,hb]
 repeat' split
 all_goals rfl
theorem ZT {h h':AH} (hf:h'.fams=h.fams) {z x:AV}:(Uz h' z x).map (λr=>(r.1,r.2.fams))=(Uz h z x).map (λr=>(r.1,r.2.fams)):=by
 cases x<;>try rfl
 case vs=>simp only[Uz];split<;>simp[hf]
 case sl =>
  simp only[Uz,hf]
  repeat' split
  all_goals rfl
theorem iU {α β:Type} {r r':Option (α×AH)} {g:AH->β} (h:r'.map (λx=>(x.1,g x.2))=r.map (λx=>(x.1,g x.2))):r'.map A0T=r.map A0T:=by
 have:=congrArg (Option.map A0T) h;simpa[Option.map_map,Function.comp_def]using this
theorem td {h h':AH} (hf:h'.fams=h.fams) {n:Nat} {p x:AV}:(YX h' n p x).map A0T=(YX h n p x).map A0T:=iU (g:=AH.fams) (aa hf)
theorem ta {h h':AH} (hb:h'.boxes=h.boxes) {n:Nat} {p x:AV}:(YW h' n p x).map A0T=(YW h n p x).map A0T:=iU (g:=AH.boxes) (aZ hb)
theorem qd {h h':AH} (hf:h'.fams=h.fams) {z x:AV}:(Uz h' z x).map A0T=(Uz h z x).map A0T:=iU (g:=AH.fams) (ZT hf)
theorem xu {r:ROp} {fr C4:Fr} {h h':AH} (hs:∀t∈r.slots,C4.getD t C5=fr.getD t C5) (hb:r.looksB=true->h'.boxes=h.boxes) (hf:r.looksF=true->h'.fams=h.fams) (hcall:r.isCall=false) :
  ((A9 O c r fr h).isSome=true->(A9 O c r C4 h').map A0T=(A9 O c r fr h).map A0T):=by
 intro hsome;cases r
 case call=>simp[ROp.isCall]at hcall
 case callv=>simp[ROp.isCall]at hcall
 case st n a x=>obtain rfl:h'=h:=Qb (hb rfl) (hf rfl);simp only[A9,C8 (x:=a) λt ht=>hs t (by simp[ROp.slots,ht]),C8 (x:=x) λt ht=>hs t (by simp[ROp.slots,ht])]
 case ste n a x =>
  simp only[A9,C8 (x:=a) λt ht=>hs t (by simp[ROp.slots,ht]),C8 (x:=x) λt ht=>hs t (by simp[ROp.slots,ht])];exact td (hf rfl)
 case stb n a x =>
  simp only[A9,C8 (x:=a) λt ht=>hs t (by simp[ROp.slots,ht]),C8 (x:=x) λt ht=>hs t (by simp[ROp.slots,ht])];exact ta (hb rfl)
 case clr z x =>
  simp only[A9,C8 (x:=x) λt ht=>hs t (by simp[ROp.slots,ht])];exact qd (hf rfl)
 case ld b n x=>obtain rfl:h'=h:=Qb (hb rfl) (hf rfl);simp only[A9,C8 (x:=x) λt ht=>hs t (by simp[ROp.slots,ht])]
 case mov x=>simp only[A9,C8 (x:=x) λt ht=>hs t (by simp[ROp.slots,ht])];rfl
 case pick q x y=>simp only[A9,C8 (x:=q) λt ht=>hs t (by simp[ROp.slots,ht]),C8 (x:=x) λt ht=>hs t (by simp[ROp.slots,ht]),C8 (x:=y) λt ht=>hs t (by simp[ROp.slots,ht])];cases get fr q<;>rfl
 case box x=>simp only[A9,C8 (x:=x) λt ht=>hs t (by simp[ROp.slots,ht]),hb rfl];split<;>rfl
 case alloc z=>simp only[A9,hb rfl];rfl
 case mkmap=>simp only[A9,hb rfl];rfl
 case mlook str ok z x k =>
  simp only[A9,Gb,C8 (x:=x) λt ht=>hs t (by simp[ROp.slots,ht]),C8 (x:=k) λt ht=>hs t (by simp[ROp.slots,ht]),Yr (hb rfl)]
  repeat' split
  all_goals rfl
 case mup str x k w=>obtain rfl:h'=h:=Qb (hb rfl) (hf rfl);simp only[A9,C8 (x:=x) λt ht=>hs t (by simp[ROp.slots,ht]),C8 (x:=k) λt ht=>hs t (by simp[ROp.slots,ht]),C8 (x:=w) λt ht=>hs t (by simp[ROp.slots,ht])]
 case build z ps=>simp only[A9,PF (ps:=ps) λt ht=>hs t (by simpa[ROp.slots]using ht)];cases D2 fr z.cells.length ps<;>rfl
 case bslice n z ps=>obtain rfl:h'=h:=Qb (hb rfl) (hf rfl);simp only[A9,Kk (ps:=ps) λt ht=>hs t (by simpa[ROp.slots]using ht)]
 case bslicev n z ps =>
  simp only[A9,Vg (ps:=ps) λt ht=>hs t (by simpa[ROp.slots]using ht),Kk (h:=h') (ps:=ps) λt ht=>hs t (by simpa[ROp.slots]using ht)];by_cases hc:(ps.all λp=>OD (get fr p.2))=true
  .rw[if_pos hc,if_pos hc,Qk h h' hc];cases A5 fr h (List.replicate n z) ps<;>rfl
  .rw[if_neg hc,if_neg hc]
 case iaddrv sz x i =>
  simp only[A9,C8 (x:=x) λt ht=>hs t (by simp[ROp.slots,ht]),C8 (x:=i) λt ht=>hs t (by simp[ROp.slots,ht])];cases get fr x<;>first|rfl|(cases get fr i<;>first|rfl|(simp only[];split<;>first|rfl|(split<;>rfl)))
 case ldb b n x =>
  simp only[A9,C8 (x:=x) λt ht=>hs t (by simp[ROp.slots,ht])];cases hx:get fr x<;>simp only[]
  all_goals
   rw[eO (hb rfl) (by intro k m i q s h;cases h)];split<;>rfl
 case nilck x=>simp only[A9,C8 (x:=x) λt ht=>hs t (by simp[ROp.slots,ht])];cases get fr x<;>rfl
 case bin op x y=>simp only[A9,C8 (x:=x) λt ht=>hs t (by simp[ROp.slots,ht]),C8 (x:=y) λt ht=>hs t (by simp[ROp.slots,ht])];cases G5 op (get fr x) (get fr y)<;>rfl
 case beq n x y =>
  simp only[A9,C8 (x:=x) λt ht=>hs t (by simp[ROp.slots,ht]),C8 (x:=y) λt ht=>hs t (by simp[ROp.slots,ht])];cases get fr x<;>first|rfl|(cases get fr y<;>rfl)
 case nileq n x=>simp only[A9,C8 (x:=x) λt ht=>hs t (by simp[ROp.slots,ht])];cases get fr x<;>rfl
 case un op x=>simp only[A9,C8 (x:=x) λt ht=>hs t (by simp[ROp.slots,ht])];cases TR op (get fr x)<;>rfl
 case conv k x=>simp only[A9,C8 (x:=x) λt ht=>hs t (by simp[ROp.slots,ht])];cases get fr x<;>rfl
 case cstr x=>simp only[A9,C8 (x:=x) λt ht=>hs t (by simp[ROp.slots,ht])];cases get fr x<;>rfl
 case bstr x=>simp only[A9,Su,C8 (x:=x) λt ht=>hs t (by simp[ROp.slots,ht]),TP (hf rfl)];cases AR h 1 (get fr x)<;>first|rfl|(simp only[];split<;>rfl)
 case clos f cs=>obtain rfl:h'=h:=Qb (hb rfl) (hf rfl);simp only[A9,Pr (xs:=cs) λt ht=>hs t (by simpa[ROp.slots]using ht)]
 case mkslice z b l q =>
  simp only[A9,C8 (x:=l) λt ht=>hs t (by simp[ROp.slots,ht]),C8 (x:=q) λt ht=>hs t (by simp[ROp.slots,ht]),hf rfl];cases get fr l<;>first|rfl|(cases get fr q<;>first|rfl|(simp only[];split<;>rfl))
 case mkv z b l q =>
  simp only[A9,jO,C8 (x:=l) λt ht=>hs t (by simp[ROp.slots,ht]),C8 (x:=q) λt ht=>hs t (by simp[ROp.slots,ht])];cases get fr l<;>first|rfl|(cases get fr q<;>first|rfl|(simp only[];split<;>rfl))
 case slc sz x a b m =>
  simp only[A9,C8 (x:=x) λt ht=>hs t (by simp[ROp.slots,ht]),Qz (x:=a) λt ht=>hs t (by simp[ROp.slots,ht]),Qz (x:=b) λt ht=>hs t (by simp[ROp.slots,ht]),Qz (x:=m) λt ht=>hs t (by simp[ROp.slots,ht]),gS (hf rfl)];cases L6 fr a<;>first|rfl|(cases L6 fr b<;>first|rfl|(cases L6 fr m<;>first|rfl|(simp only[];split<;>rfl)))
 case faddr off x=>simp only[A9,C8 (x:=x) λt ht=>hs t (by simp[ROp.slots,ht])];cases get fr x<;>rfl
 case fld b off n x =>
  simp only[A9,C8 (x:=x) λt ht=>hs t (by simp[ROp.slots,ht])];cases get fr x<;>first|rfl|(simp only[];split<;>rfl)
 case iaddr sz x i =>
  simp only[A9,C8 (x:=x) λt ht=>hs t (by simp[ROp.slots,ht]),C8 (x:=i) λt ht=>hs t (by simp[ROp.slots,ht])];cases get fr x<;>first|rfl|(cases get fr i<;>first|rfl|(simp only[];split<;>first|rfl|(split<;>rfl)))
 case idx x i =>
  simp only[A9,C8 (x:=x) λt ht=>hs t (by simp[ROp.slots,ht]),C8 (x:=i) λt ht=>hs t (by simp[ROp.slots,ht])];cases get fr x<;>first|rfl|(cases get fr i<;>first|rfl|(simp only[];split<;>first|rfl|(split<;>rfl)))
 case ext x i =>
  simp only[A9,C8 (x:=x) λt ht=>hs t (by simp[ROp.slots,ht])];cases get fr x<;>first|rfl|(simp only[];split<;>rfl)
 case len b x=>cases b<;>simp only[A9,C8 (x:=x) λt ht=>hs t (by simp[ROp.slots,ht])]<;>cases get fr x<;>rfl
 case app sz b s x =>
  simp only[A9,K1,C8 (x:=s) λt ht=>hs t (by simp[ROp.slots,ht]),C8 (x:=x) λt ht=>hs t (by simp[ROp.slots,ht]),TP (hf rfl),hf rfl];split
  .rfl
  .split
   .split
    .rfl
    .split<;>rfl
   .split
    .split<;>rfl
    .rfl
   .rfl
 case max x y =>
  simp only[A9,C8 (x:=x) λt ht=>hs t (by simp[ROp.slots,ht]),C8 (x:=y) λt ht=>hs t (by simp[ROp.slots,ht])];cases get fr x<;>first|rfl|(cases get fr y<;>first|rfl|(simp only[];split<;>rfl))
end
end Go.Abs
namespace Go.Abs
open Go.RowKit (Below)
section
variable {O:Orc} {c:Ctx}
theorem sA {r:ROp} {fr C4:Fr} {h h' h1:AH} {v:AV} (hs:∀t∈r.slots,C4.getD t C5=fr.getD t C5) (hb:r.looksB=true->h'.boxes=h.boxes) (hf:r.looksF=true->h'.fams=h.fams)
  (he:A9 O c r fr h=some (v,h1)):∃Cv,A9 O c r C4 h'=some (v,Cv)/\(r.writesB c=true->Cv.boxes=h1.boxes)/\(r.writesF c=true->Cv.fams=h1.fams):=by
 by_cases hcall:r.isCall=false
 .have h2:=xu (O:=O) hs hb hf hcall (by rw[he];rfl);rw[he]at h2;cases h3:A9 O c r C4 h' with
  |none=>rw[h3]at h2;cases h2
  |some x =>
   obtain⟨v',Cv⟩:=x;rw[h3]at h2;have:v'=v:=by simpa using h2
   subst this;refine⟨Cv,rfl,λhw=>?_,λhw=>?_⟩
   .cases r<;>simp only[ROp.writesB]at hw<;>try (cases hw;done)
    case call=>simp[ROp.isCall]at hcall
    case callv=>simp[ROp.isCall]at hcall
    case st n a x =>
     obtain rfl:h'=h:=Qb (hb rfl) (hf rfl);simp only[A9,C8 (x:=a) λt ht=>hs t (by simp[ROp.slots,ht]),C8 (x:=x) λt ht=>hs t (by simp[ROp.slots,ht])]at h3 he;rw[h3]at he;cases he;rfl
    case stb n a x =>
     simp only[A9,C8 (x:=a) λt ht=>hs t (by simp[ROp.slots,ht]),C8 (x:=x) λt ht=>hs t (by simp[ROp.slots,ht])]at h3 he;have:=aZ (h:=h) (h':=h') (hb rfl) (n:=n) (p:=get fr a) (x:=get fr x);rw[h3,he]at this;simpa using this
    case box x =>
     simp only[A9,C8 (x:=x) λt ht=>hs t (by simp[ROp.slots,ht]),hb rfl]at h3 he;split at he
     .cases he
     .rename_i ht;rw[if_neg ht]at h3;cases he;cases h3;rfl
    case alloc z=>simp only[A9,hb rfl]at h3 he;cases he;cases h3;rfl
    case clos f cs =>
     obtain rfl:h'=h:=Qb (hb rfl) (hf rfl);simp only[A9,Pr (xs:=cs) λt ht=>hs t (by simpa[ROp.slots]using ht)]at h3 he;rw[h3]at he;cases he;rfl
    case mkmap=>simp only[A9,hb rfl]at h3 he;cases he;cases h3;rfl
    case mup str x k w =>
     obtain rfl:h'=h:=Qb (hb rfl) (hf rfl);simp only[A9,C8 (x:=x) λt ht=>hs t (by simp[ROp.slots,ht]),C8 (x:=k) λt ht=>hs t (by simp[ROp.slots,ht]),C8 (x:=w) λt ht=>hs t (by simp[ROp.slots,ht])]at h3 he;rw[h3]at he;cases he;rfl
   .cases r<;>simp only[ROp.writesF]at hw<;>try (cases hw;done)
    case call=>simp[ROp.isCall]at hcall
    case callv=>simp[ROp.isCall]at hcall
    case st n a x =>
     obtain rfl:h'=h:=Qb (hb rfl) (hf rfl);simp only[A9,C8 (x:=a) λt ht=>hs t (by simp[ROp.slots,ht]),C8 (x:=x) λt ht=>hs t (by simp[ROp.slots,ht])]at h3 he;rw[h3]at he;cases he;rfl
    case ste n a x =>
     simp only[A9,C8 (x:=a) λt ht=>hs t (by simp[ROp.slots,ht]),C8 (x:=x) λt ht=>hs t (by simp[ROp.slots,ht])]at h3 he;have:=aa (h:=h) (h':=h') (hf rfl) (n:=n) (p:=get fr a) (x:=get fr x);rw[h3,he]at this;simpa using this
    case clr z x =>
     simp only[A9,C8 (x:=x) λt ht=>hs t (by simp[ROp.slots,ht])]at h3 he;have:=ZT (h:=h) (h':=h') (hf rfl) (z:=z) (x:=get fr x);rw[h3,he]at this;simpa using this
    case mkslice z b l q =>
     simp only[A9,C8 (x:=l) λt ht=>hs t (by simp[ROp.slots,ht]),C8 (x:=q) λt ht=>hs t (by simp[ROp.slots,ht]),hf rfl]at h3 he;split at he
     .rename_i e1 e2;simp only[e1,e2]at h3;split at he
      .rename_i hc;rw[if_pos hc]at h3;cases he;cases h3;rfl
      .cases he
     .cases he
    case app sz b s x =>
     simp only[A9,K1,C8 (x:=s) λt ht=>hs t (by simp[ROp.slots,ht]),C8 (x:=x) λt ht=>hs t (by simp[ROp.slots,ht]),TP (hf rfl),hf rfl]at h3 he;cases Ul:AR h sz (get fr x)with
     |none=>rw[Ul]at he;cases he
     |some ys =>
      rw[Ul]at he h3;dsimp only at he h3;cases hg:get fr s<;>rw[hg]at he h3<;>(try dsimp only at he h3)<;>try (cases he;done)
      case vs full z xs =>
       cases full<;>(try dsimp only at he h3)
       .cases he
       .split at he
        .rename_i hc;rw[if_pos hc]at h3;cases he;cases h3;exact hf rfl
        .rename_i hc;rw[if_neg hc]at h3;split at he
         .rename_i hc2;rw[if_pos hc2]at h3;cases he;cases h3;rfl
         .cases he
      case sl k n off len =>
       cases hk:h.fams[k]? with
       |none=>rw[hk]at he;cases he
       |some f =>
        rw[hk]at he h3;dsimp only at he h3;split at he
        .rename_i hc;rw[if_pos hc]at h3;cases he;cases h3;rfl
        .cases he
 .cases r<;>simp only[ROp.isCall]at hcall<;>try (exact absurd trivial hcall)
  case callv x aas =>
   obtain rfl:h'=h:=Qb (hb rfl) (hf rfl);refine⟨h1,?_,λ_=>rfl,λ_=>rfl⟩;rw[←he];simp only[A9,C8 (x:=x) λt ht=>hs t (by simp only[ROp.slots,A0S];exact .inl ht),Pr (xs:=aas) λt ht=>hs t (by simp only[ROp.slots,A0S];exact .inr ht)]
  case call f aas =>
   have ha:aas.map (get C4)=aas.map (get fr):=Pr (xs:=aas) λt ht=>hs t (by simpa[ROp.slots]using ht);obtain rfl:h'=h:=Qb (hb rfl) (hf rfl);exact⟨h1,by rw[←he];simp only[A9,ha],λ_=>rfl,λ_=>rfl⟩
def qk (o:Oper) (acc:List Nat):Nat:=o.after.toList.foldl (λs e=>if Region.binds .any e then s ||| 2 ^ e.on ||| acc.getD e.on 0 else s) 0
theorem Vc:∀(l:List Oper) (acc:List Nat),∃ext,w6 l acc=acc++ext/\ext.length=l.length/\∀(k:Nat) (o:Oper),l[k]?=some o->ext[k]?=some (qk o (acc++ext.take k))
 | [],acc=>⟨[],by simp[w6],rfl,λk o h=>by simp at h⟩
 |o::l,acc=>by
  obtain⟨ext,h1,h2,h3⟩:=Vc l (acc++[qk o acc]);refine⟨qk o acc::ext,?_,by simp[h2],λk o' hk=>?_⟩
  .rw[w6];show w6 l (acc++[qk o acc])=_;rw[h1];simp
  .cases k with
   |zero=>simp at hk;subst hk;simp
   |succ k =>
    have:=h3 k o' (by simpa using hk);simpa using this
theorem Zc {acc:List Nat} {i:Nat}:∀(l:List Edge) (s:Nat),(l.foldl (λs e=>if Region.binds .any e then s ||| 2 ^ e.on ||| acc.getD e.on 0 else s) s).testBit i=true ->
  s.testBit i=true\/∃e∈l,Region.binds .any e=true/\(e.on=i\/(acc.getD e.on 0).testBit i=true)
 | [],s,h=>.inl h
 |e::l,s,h=>by
  simp only[List.foldl_cons]at h;rcases Zc l _ h with h1|⟨e',he',h1⟩
  .split at h1
   .rename_i hb;rw[A0b,A0b]at h1;simp only[Bool.or_eq_true]at h1;rcases h1 with (h1|h1)|h1
    .exact .inl h1
    .rw[Nat.testBit_two_pow]at h1;exact .inr ⟨e,by simp,hb,.inl (by simpa using h1)⟩
    .exact .inr ⟨e,by simp,hb,.inr h1⟩
   .exact .inl h1
  .exact .inr ⟨e',by simp[he'],h1⟩
def lx (ops:List Oper) (i j:Nat):Prop:=((w6 ops []).getD j 0).testBit i=true
theorem qi {ops:List Oper} {i j:Nat} (h:lx ops i j):∃o e,ops[j]?=some o/\e∈o.after.toList/\Region.binds .any e=true/\(e.on=i\/lx ops i e.on):=by
 obtain⟨ext,h1,h2,h3⟩:=Vc ops [];simp only[List.nil_append]at h1 h3;unfold lx at h;rw[h1]at h;cases ho:ops[j]? with
 |none =>
  have:ext[j]?=none:=by
   rw[List.getElem?_eq_none_iff]at ho ⊢;omega
  simp[A0c,this]at h
 |some o =>
  have h4:=h3 j o ho;rw[A0c,h4]at h;simp only[Option.getD_some]at h;unfold qk at h;rcases Zc _ _ h with h5|⟨e,he,hb,h5⟩
  .simp at h5
  .refine⟨o,e,rfl,he,hb,?_⟩;rcases h5 with h5|h5
   .exact .inl h5
   .right;unfold lx;rw[h1];have:(ext.take j).getD e.on 0=ext.getD e.on 0\/(ext.take j).getD e.on 0=0:=by
     simp only[A0c,A0Y];split
     .exact .inl rfl
     .exact .inr rfl
    rcases this with h6|h6
    .rw[←h6];exact h5
    .rw[h6]at h5;simp at h5
theorem dt:∀{ops:List Oper} {k:Nat},UB ops k=true->∀{j:Nat} {o:Oper} {e:Edge},ops[j]?=some o->e∈o.after.toList->Region.binds .any e=true->e.on<k+j
 | [],_,_,j,o,e,h,_,_=>by simp at h
 |o'::ops,k,h,j,o,e,ho,he,hb=>by
  simp only[UB,A0R]at h;cases j with
  |zero =>
   simp at ho;subst ho;have:=(List.all_eq_true.1 h.1) e he;simp[hb]at this;omega
  |succ j =>
   have:=dt h.2 (j:=j) (o:=o) (by simpa using ho) he hb;omega
end
end Go.Abs
