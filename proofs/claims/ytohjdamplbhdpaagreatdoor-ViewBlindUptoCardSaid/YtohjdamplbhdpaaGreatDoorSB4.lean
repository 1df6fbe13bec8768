/- A part of the proof. -/
import Derived.Test.YtohjdamplbhdpaaGreatDoorSB3
import Derived.Orders
set_option linter.all false
open Option renaming map_eq_some_iff->A0O
open Bool renaming and_eq_true->A0P
open List renaming mem_append->A0Q,all_cons->A0T,flatMap_cons->A0U,getElem?_eq_some_iff->A0V,getElem?_take->A0W,length_cons->A0X,length_nil->A0Y,getD->A0a
open Prod renaming fst->A0R
open Array renaming getD_eq_getD_getElem?->A0S
open Nat renaming testBit_or->A0Z
namespace Go.Abs
open Go.RowKit (Below)
section
variable {E:Env} {P:Program} {fr:Fr} {a:Act} {o:Oper} {O:Orc} {c:Ctx}
def ROp.isCall:ROp->Bool
 | .call .. | .callv ..=>true
 |_=>false
theorem pd {el z:AV} {cs:G4} (h:el.reform cs=some z) (hl:cs.length=el.cells.length) (hf:∀x∈cs,x.cells=[x]\/∃aas,el=.agg aas):z.cells=cs:=by
 cases el<;>simp only[AV.reform]at h
 case agg=>cases h;rfl
 all_goals
  simp only[AV.cells,A0X,A0Y]at hl;cases cs with
  |nil=>simp at hl
  |cons c r =>
   have hr:r=[]:=by simpa using hl
   subst hr;simp at h;subst h;rcases hf c (by simp)with h' | ⟨aas,h'⟩
   .exact h'
   .cases h'
theorem WE {t:TypeId} {x y:Operand} {x' y':Opd} {n k m i q sz:Nat} {h1:AH} (hS:SR E) (hf:FR E fr a.tmps) (CL:o.op=.store t x y) (hn:Program.size? P t=some n) (hx:D7 x=some x') (hy:D7 y=some y')
  (hg:get fr x'=.ep k m i q sz) (Hi:Io E.h n (get fr y') k m i q sz=some h1):Pi P a o E C5 h1:=by
 unfold Io at Hi;split at Hi
 .rename_i f hfk;split at Hi
  .rename_i hc;split at Hi
   .rename_i el u Ul hu;split at Hi
    .rename_i hl;simp only[A0O]at Hi;obtain⟨z,hz,rfl⟩:=Hi;refine qf hS hf CL hn hx hy hg hfk hc.1 hc.2.1 hc.2.2 Ul hu hl.1 hl.2 (pd hz (by simp[M5];omega) λw hw=>?_);by_cases hag:∃aas,el=.agg aas
     .exact .inr hag
     .refine .inl ?_;have hel1:el.cells=[el]:=by cases el<;>first|rfl|exact absurd ⟨_,rfl⟩ hag
      rw[hel1]at hw hl;simp only[A0X,A0Y]at hl;have hF:=hS.fams k f hfk;obtain⟨hPu,hut⟩:=Mh hS (am:=false) (ok':=E.ok) ⟨λ_ _ h=>h,λh=>by cases h⟩ (D8 hf hy) hu;obtain⟨g1,g2⟩:=Qq hPu hut;have hcell:∀{w:AV} {u:Value},PV E.w E.ok w u->u.oneCell'=true->w.cells=[w]:=by
       intro w u h1 h2;cases w<;>first|rfl|(simp only[PV]at h1;obtain⟨us,rfl,_⟩:=h1;simp[Value.oneCell']at h2)
      unfold M5 at hw;simp only[A0Q]at hw;rcases hw with (hw|hw)|hw
      .have:=List.mem_of_mem_take hw;simp at this;subst this;exact hel1
      .obtain⟨j,hj⟩:=List.getElem?_of_mem hw;obtain⟨u',k1,k2⟩:=(JL g1).2 hj;exact hcell k2 (g2 u' (List.mem_of_getElem? k1))
      .have:=List.mem_of_mem_drop hw;simp at this;subst this;exact hel1
    .cases Hi
   .cases Hi
  .cases Hi
 .cases Hi
theorem yY {n:Nat} {x y:Opd} {h h':AH} {v:AV} (he:A9 O c (.ste n x y) fr h=some (v,h')):A9 O c (.st n x y) fr h=some (v,h'):=by
 simp only[A9,Yf]at he;split at he
 .rename_i k m i q s hg;split at he
  .rename_i hfl;simp only[A9,hg,Lx,bc];rw[RD h false hfl];exact he
  .cases he
 .cases he
theorem yX {n:Nat} {x y:Opd} {h h':AH} {v:AV} (he:A9 O c (.stb n x y) fr h=some (v,h')):A9 O c (.st n x y) fr h=some (v,h'):=by
 simp only[A9,Ye]at he;split at he
 .rename_i b q hg;split at he
  .rename_i cs Lr;split at he
   .rename_i hc;cases he;simp only[A9,hg,Lx,Lr];rw[if_pos hc]
   .cases he
  .cases he
 .cases he
theorem vQ (hS:SR E) (hf:FR E fr a.tmps) {r r0:ROp} (hr:u6 P o.op=some r0) (Cy:r=r0\/∃m,r=r0.lax m) {v:AV} {h':AH} (G3:A9 O c r fr E.h=some (v,h')) (hnc:r.isCall=false):Pi P a o E v h':=by
 cases CL:o.op with
 |move x =>
  rw[CL]at hr;simp only[u6,A0O]at hr;obtain⟨y,hy,rfl⟩:=hr;obtain rfl:r=.mov y:=by rcases Cy with h|⟨_,h⟩<;>exact h
  simp only[A9]at G3;cases G3;exact(wg hf (.inl CL) hy).does hS
 |assign x =>
  rw[CL]at hr;simp only[u6,A0O]at hr;obtain⟨y,hy,rfl⟩:=hr;obtain rfl:r=.mov y:=by rcases Cy with h|⟨_,h⟩<;>exact h
  simp only[A9]at G3;cases G3;exact(wg hf (.inr CL) hy).does hS
 |pick q x y =>
  rw[CL]at hr;simp only[u6]at hr;split at hr
  .rename_i q' x' y' h1 h2 h3;cases hr;obtain rfl:r=.pick q' x' y':=by rcases Cy with h|⟨_,h⟩<;>exact h
   simp only[A9]at G3;split at G3
   .rename_i t ht;cases G3;exact(yP hf CL h1 h2 h3 ht).does hS
   .cases G3
  .cases hr
 |alloc t =>
  rw[CL]at hr;simp only[u6,A0O]at hr;obtain⟨z,hz,rfl⟩:=hr;obtain rfl:r=.alloc z:=by rcases Cy with h|⟨_,h⟩<;>exact h
  simp only[A9]at G3;cases G3;exact ub hS CL hz
 |box t x =>
  rw[CL]at hr;simp only[u6,A0O]at hr;obtain⟨y,hy,rfl⟩:=hr;obtain rfl:r=.box y:=by rcases Cy with h|⟨_,h⟩<;>exact h
  simp only[A9]at G3;split at G3
  .cases G3
  .rename_i ht;cases G3;exact A0L hS hf CL hy (by simpa using ht)
 |build t parts =>
  rw[CL]at hr;simp only[u6]at hr;split at hr
  .rename_i fs zs hu hz;split at hr
   .rename_i hs;simp only[A0O]at hr;obtain⟨ps,hp,rfl⟩:=hr;obtain rfl:r=.build (.agg zs) ps:=by rcases Cy with h|⟨_,h⟩<;>exact h
    simp only[A9,AV.cells]at G3;split at G3
    .rename_i qs hq;cases G3;exact(vq hf CL hu hz hs hp hq).does hS
    .cases G3
   .cases hr
  .cases hr
 |buildSlice t len parts =>
  rw[CL]at hr;simp only[u6]at hr;split at hr
  .rename_i e hu;split at hr
   .rename_i z n ps hz hn hp;split at hr
    .rename_i hc;cases hr;have G3:A9 O c (.bslice len z ps) fr E.h=some (v,h'):=by
      rcases Cy with rfl|⟨_,rfl⟩
      .exact G3
      .simp only[ROp.lax,A9]at G3;split at G3
       .simp only[A9];exact G3
       .cases G3
     simp only[A9]at G3;split at G3
     .rename_i xs hx;cases G3;exact qc hS hf CL hu hz hn hc.1 hc.2 hp hx
     .cases G3
    .cases hr
   .cases hr
  .cases hr
 |load t x =>
  rw[CL]at hr;simp only[u6]at hr;split at hr
  .rename_i b n y hb hn hy;cases hr;have key:∃w,JU E.h b n (get fr y)=some w/\(w,E.h)=(v,h'):=by
    rcases Cy with rfl|⟨_,rfl⟩
    .simp only[A9]at G3;split at G3
     .rename_i w hw;exact⟨w,hw,by simpa using G3⟩
     .cases G3
    .simp only[ROp.lax,A9]at G3;split at G3
     .cases G3
     .split at G3
      .rename_i w hw;exact⟨w,hw,by simpa using G3⟩
      .cases G3
   obtain⟨w,hw,he⟩:=key;cases he;exact(q_ld hS hf CL hb hn hy hw).does hS
  .cases hr
 |store t x y =>
  rw[CL]at hr;simp only[u6]at hr;split at hr
  .rename_i n x' y' hn hx hy;cases hr;have G3:A9 O c (.st n x' y') fr E.h=some (v,h'):=by
    rcases Cy with rfl|⟨m,rfl⟩
    .exact G3
    .obtain⟨m,mk⟩:=m;cases m with
     |none=>exact G3
     |some b =>
      cases b with
      |true=>exact yY G3
      |false=>exact yX G3
   simp only[A9]at G3;split at G3
   .rename_i h1 Hi;cases G3;unfold Lx at Hi;split at Hi
    .rename_i b off hg;split at Hi
     .rename_i cs Lr;split at Hi
      .rename_i hc;cases Hi;exact qe hS hf CL hn hx hy hg Lr hc.1 hc.2.1 hc.2.2.1 hc.2.2.2
      .cases Hi
     .cases Hi
    .rename_i k m i q sz hg;split at Hi
     case h_2=>cases Hi
     rename_i h2 hlay;unfold bc at hlay;split at hlay
     .cases hlay;exact WE hS hf CL hn hx hy hg Hi
     .unfold pg at hlay;split at hlay
      case h_2=>cases hlay
      rename_i k2 n2 off2 xi hgy;split at hlay
      case h_2=>cases hlay
      rename_i f2 hf2;cases hlay;have hx1:=YV hf2;obtain⟨nx,u,E',e1,e2,e3,e4,e5,e6⟩:=WE (E:=E.rstFam k2 f2) (ph hS hf2) (hf.ext hx1) CL hn hx hy hg Hi;exact⟨nx,u,E',e1,e2,hx1.trans e3,e4,e5,e6⟩
    .cases Hi
   .cases G3
  .cases hr
 |nilCheck x =>
  rw[CL]at hr;simp only[u6,A0O]at hr;obtain⟨y,hy,rfl⟩:=hr;obtain rfl:r=.nilck y:=by rcases Cy with h|⟨_,h⟩<;>exact h
  simp only[A9]at G3;have:h'=E.h:=by split at G3<;>first|(cases G3;rfl)|cases G3
  subst this;exact(vu hf CL hy G3).does hS
 |binOp op t x y t' =>
  rw[CL]at hr;simp only[u6]at hr;split at hr
  .rename_i x' y' hx hy;have gen:r0=.bin op x' y'->Pi P a o E v h':=by
    intro h;subst h;obtain rfl:r=.bin op x' y':=by rcases Cy with h|⟨_,h⟩<;>exact h
    simp only[A9]at G3;split at G3
    .rename_i w hw;cases G3;exact(q_bin hf CL hx hy hw).does hS
    .cases G3
   split at hr
   .rename_i ht;cases hr;obtain rfl:r=.beq false x' y':=by rcases Cy with h|⟨_,h⟩<;>exact h
    simp only[A9]at G3;split at G3
    .rename_i i j hi hj;cases G3;exact(wd (neg:=false) hf CL ht hx hy hi hj).does hS
    .cases G3
   .rename_i ht;cases hr;obtain rfl:r=.beq true x' y':=by rcases Cy with h|⟨_,h⟩<;>exact h
    simp only[A9]at G3;split at G3
    .rename_i i j hi hj;cases G3;exact(wd (neg:=true) hf CL ht hx hy hi hj).does hS
    .cases G3
   .rename_i ht;split at hr
    .cases hr;obtain rfl:r=.nileq false x':=by rcases Cy with h|⟨_,h⟩<;>exact h
     simp only[A9]at G3;split at G3
     .rename_i hi;cases G3;exact(lT (neg:=false) hf CL ht hx hy hi).does hS
     .cases G3
    .cases hr
   .rename_i ht;split at hr
    .cases hr;obtain rfl:r=.nileq true x':=by rcases Cy with h|⟨_,h⟩<;>exact h
     simp only[A9]at G3;split at G3
     .rename_i hi;cases G3;exact(lT (neg:=true) hf CL ht hx hy hi).does hS
     .cases G3
    .cases hr
   .cases hr;exact gen rfl
  .cases hr
 |unOp op t x =>
  rw[CL]at hr;simp only[u6,A0O]at hr;obtain⟨y,hy,rfl⟩:=hr;obtain rfl:r=.un op y:=by rcases Cy with h|⟨_,h⟩<;>exact h
  simp only[A9]at G3;split at G3
  .rename_i w hw;cases G3;exact(q_un hf CL hy hw).does hS
  .cases G3
 |convert s d x =>
  rw[CL]at hr;simp only[u6]at hr;split at hr
  .rename_i k0 k hs hd;simp only[A0O]at hr;obtain⟨y,hy,rfl⟩:=hr;obtain rfl:r=.conv k y:=by rcases Cy with h|⟨_,h⟩<;>exact h
   simp only[A9]at G3;split at G3
   .rename_i q n hq;cases G3;exact(yN hf CL hs hd hy hq).does hS
   .cases G3
  .rename_i hs hd;simp only[A0O]at hr;obtain⟨y,hy,rfl⟩:=hr;obtain rfl:r=.cstr y:=by rcases Cy with h|⟨_,h⟩<;>exact h
   simp only[A9]at G3;split at G3
   .rename_i n hq;cases G3;exact(yO hf CL hs hd hy hq).does hS
   .cases G3
  .rename_i e hs hd;split at hr
   .rename_i he;simp only[A0O]at hr;obtain⟨y,hy,rfl⟩:=hr;obtain rfl:r=.bstr y:=by rcases Cy with h|⟨_,h⟩<;>exact h
    simp only[A9]at G3;exact yL hS hf CL hs hd he hy G3
   .cases hr
  .cases hr
 |makeFunc fn first caps =>
  rw[CL]at hr;cases fn<;>simp only[u6]at hr<;>try (cases hr;done)
  split at hr
  .rename_i f h0;simp only[A0O]at hr;obtain⟨cs,hc,rfl⟩:=hr;obtain rfl:r=.clos _ cs:=by rcases Cy with h|⟨_,h⟩<;>exact h
   simp only[A9]at G3;split at G3
   .exact qd hS hf CL h0 hc G3
   .cases G3;exact(yM hf CL h0 hc).does hS
  .cases hr
 |makeSlice t l q =>
  rw[CL]at hr;simp only[u6]at hr;split at hr
  .rename_i e hu;split at hr
   .rename_i i z l' q' hi hz hl hq;split at hr
    .rename_i M3;cases hr;have hcase:r=.mkslice z i.bytes l' q'\/r=.mkv z i.bytes l' q':=by
      rcases Cy with h|⟨⟨m,mk⟩,h⟩
      .exact .inl h
      .cases mk
       .exact .inl h
       .exact .inr h
     rcases hcase with rfl|rfl
     case inr=>exact A0N hS hf CL hu hi hz M3 hl hq G3
     simp only[A9]at G3;split at G3
     .rename_i k1 x k2 y hx hy;split at G3
      .rename_i hc;cases G3;exact mR hS hf CL hu hi hz M3 hl hq hx hy hc.1 hc.2.1 hc.2.2.1 hc.2.2.2
      .cases G3
     .cases G3
    .cases hr
   .cases hr
  .cases hr
 |slice t x lo hi mx =>
  rw[CL]at hr;simp only[u6]at hr;split at hr
  .rename_i x' lo' Cx ht hx TY Zq hmx;cases hr;obtain rfl:r=.slc 0 x' lo' Cx none:=by rcases Cy with h|⟨_,h⟩<;>exact h
   have hmn:mx=none:=by
    cases mx with
    |none=>rfl
    |some m=>simp[Il]at hmx
   subst hmn;simp only[A9]at G3;split at G3
   .rename_i l u m hl hu hm;simp only[L7]at hm;cases hm;split at G3
    .rename_i w hw;cases G3;unfold Ok at hw;split at hw
     .rename_i s hs;dsimp only at hw;split at hw
      .rename_i hc;cases hw;exact(pH hf CL ht hx TY Zq hs hl hu hc.2.2.1 hc.2.2.2.1 hc.2.2.2.2).does hS
      .cases hw
     .simp at hw
     .split at hw<;>simp at hw
     .cases hw
    .cases G3
   .cases G3
  .rename_i e x' lo' Cx mx' ht hx TY Zq hmx;split at hr
   .rename_i n hn;split at hr
    .rename_i M3;cases hr;obtain rfl:r=.slc n x' lo' Cx mx':=by rcases Cy with h|⟨_,h⟩<;>exact h
     simp only[A9]at G3;split at G3
     .rename_i l u m hl hu hm;split at G3
      .rename_i w hw;cases G3;unfold Ok at hw;split at hw
       .simp[show ¬n=0 from by omega]at hw
       .rename_i full z xs hg;dsimp only at hw;simp only[M3,true_and]at hw;split at hw
        .rename_i hz;split at hw
         .split at hw
          .rename_i hc;cases hw;exact(gB hf CL ht hn hx TY Zq hmx hg hl hu hm hz hc.1 hc.2.1 (.inl ⟨rfl,hc.2.2,rfl⟩)).does hS
          .cases hw
         .rename_i q;split at hw
          .rename_i hc;cases hw;exact(gB hf CL ht hn hx TY Zq hmx hg hl hu hm hz hc.2.1 hc.2.2.1 (.inr ⟨q,rfl,hc.1,hc.2.2.2.1,hc.2.2.2.2,rfl⟩)).does hS
          .cases hw
        .cases hw
       .rename_i k m0 off len hg;dsimp only at hw;split at hw
        .rename_i f hfk;simp only[M3,true_and]at hw;split at hw
         .rename_i hz;split at hw
          .split at hw
           .rename_i hc;cases hw;exact(gA hS hf CL ht hn hx TY Zq hmx hg hl hu hm hfk hz.1 hz.2 (.inl ⟨rfl,hc.1,hc.2.1,hc.2.2,rfl⟩)).does hS
           .cases hw
          .rename_i q;split at hw
           .rename_i hc;cases hw;obtain⟨c1,c2,c3,rfl⟩:=hc;exact(gA hS hf CL ht hn hx TY Zq hmx hg hl hu hm hfk hz.1 hz.2 (.inr ⟨rfl,c1,c2,c3,rfl⟩)).does hS
           .cases hw
         .cases hw
        .cases hw
       .cases hw
      .cases G3
     .cases G3
    .cases hr
   .cases hr
  .cases hr
 |fieldAddr s x i =>
  rw[CL]at hr;simp only[u6]at hr;split at hr
  .rename_i fs x' hs hx;split at hr
   .rename_i f hi;split at hr
    .rename_i n hn;split at hr
     .rename_i M3;cases hr;obtain rfl:r=.faddr f.offset x':=by rcases Cy with h|⟨_,h⟩<;>exact h
      simp only[A9]at G3;have:h'=E.h:=by split at G3<;>first|(cases G3;rfl)|cases G3
      subst this;exact(vr hf CL hs hi hn M3 hx G3).does hS
     .cases hr
    .cases hr
   .cases hr
  .cases hr
 |field s x i =>
  rw[CL]at hr;simp only[u6]at hr;split at hr
  .rename_i fs x' hs hx;split at hr
   .rename_i f hi;split at hr
    .rename_i b n hb hn;cases hr;obtain rfl:r=.fld b f.offset n x':=by rcases Cy with h|⟨_,h⟩<;>exact h
     simp only[A9]at G3;split at G3
     .rename_i cs hg;split at G3
      .rename_i w hw;cases G3;exact(q_fld hf CL hs hi hb hn hx hg hw).does hS
      .cases G3
     .cases G3
    .cases hr
   .cases hr
  .cases hr
 |indexAddr t x i =>
  rw[CL]at hr;simp only[u6]at hr;split at hr
  .rename_i e x' i' ht hx hi;split at hr
   .rename_i n hn;split at hr
    .cases hr;obtain rfl:r=.iaddr n x' i':=by rcases Cy with h|⟨_,h⟩<;>exact h
     simp only[A9]at G3;have:h'=E.h:=by
      split at G3
      .split at G3
       .split at G3<;>first|(cases G3;rfl)|cases G3
       .cases G3
      .split at G3<;>first|(cases G3;rfl)|cases G3
      .cases G3
     subst this;exact(vt hS hf CL ht hn hx hi G3).does hS
    .cases hr
   .cases hr
  .cases hr
 |index t x i =>
  rw[CL]at hr;simp only[u6]at hr;split at hr
  .rename_i x' i' ht hx hi;cases hr;obtain rfl:r=.idx x' i':=by rcases Cy with h|⟨_,h⟩<;>exact h
   simp only[A9]at G3;split at G3
   .rename_i s q j hg hj;split at G3
    .rename_i h0;split at G3
     .rename_i b hb;cases G3;exact(q_idx hf CL ht hx hi hg hj h0 hb).does hS
     .cases G3
    .cases G3
   .cases G3
  .cases hr
 |extract x i =>
  rw[CL]at hr;simp only[u6,A0O]at hr;obtain⟨y,hy,rfl⟩:=hr;obtain rfl:r=.ext y i:=by rcases Cy with h|⟨_,h⟩<;>exact h
  simp only[A9]at G3;split at G3
  .rename_i vs hg;split at G3
   .rename_i w hw;cases G3;exact(q_ext hf CL hy hg hw).does hS
   .cases G3
  .cases G3
 |call q =>
  rw[CL]at hr;obtain⟨callee,args,ats⟩:=q;cases callee with
  |invoke x m=>simp[u6]at hr
  |value x =>
   cases x<;>simp only[u6]at hr<;>try (cases hr;done)
   .simp only[A0O]at hr;obtain⟨aas,_,rfl⟩:=hr;rcases Cy with rfl|⟨_,rfl⟩<;>simp[ROp.isCall,ROp.lax]at hnc
   .split at hr
    .simp only[A0O]at hr;obtain⟨aas,_,rfl⟩:=hr;rcases Cy with rfl|⟨_,rfl⟩<;>simp[ROp.isCall,ROp.lax]at hnc
    .cases hr
  |builtin b =>
   cases b<;>simp only[u6]at hr<;>try (cases hr;done)
   case append =>
    split at hr
    .rename_i s x t u h1 h2;split at hr
     .rename_i e ht;split at hr
      .rename_i i z s' x' hi hz hs hx;split at hr
       .rename_i hc;cases hr;obtain⟨M3,rfl⟩:=hc;obtain rfl:r=.app i.size i.bytes s' x':=by rcases Cy with h|⟨_,h⟩<;>exact h
        simp only[A9,K3]at G3;split at G3
        .cases G3
        .rename_i ys Wc;split at G3
         .rename_i z0 xs hg;split at G3
          .rename_i h0;cases G3;have e1:=D8 hf hs;have e1':=e1;rw[hg]at e1;simp only[VR,PV]at e1;obtain⟨base,len,cap,e2,_,e4,_⟩:=e1;obtain⟨ad,cx,f1,_⟩:=LZ hS M3 (D8 hf hx) Wc;refine⟨_,.slice base len cap,E,La CL h1 h2 ?_,.inl rfl,Ext.refl E,hS,rfl,by rw[hg,e2]at e1';exact e1'⟩;rw[e2,f1,h0];exact Qi t _ e i ht hi base ad len cap cx e4 E.w
          .rename_i h0;split at G3
           .rename_i hb;cases G3;exact iK hS hf CL h1 h2 ht hi hz M3 hs hx hg Wc h0 hb.1 hb.2.1 hb.2.2
           .cases G3
         .rename_i k n off len hg;split at G3
          .rename_i f hfk;split at G3
           .rename_i hb;cases G3;exact mQ hS hf CL h1 h2 ht hi hz M3 hs hx hg Wc hfk hb.1 hb.2.1 hb.2.2.1 hb.2.2.2.1 hb.2.2.2.2
           .cases G3
          .cases G3
         .cases G3
       .cases hr
      .cases hr
     .cases hr
    .cases hr
   case len =>
    split at hr
    .rename_i x t h1 h2;split at hr
     .rename_i ht;simp only[A0O]at hr;obtain⟨y,hy,rfl⟩:=hr;obtain rfl:r=.len true y:=by rcases Cy with h|⟨_,h⟩<;>exact h
      simp only[A9]at G3;split at G3
      .rename_i s hs;cases G3;exact(pG hf CL h1 h2 ht hy hs).does hS
      .cases G3
     .rename_i e ht;simp only[A0O]at hr;obtain⟨y,hy,rfl⟩:=hr;obtain rfl:r=.len false y:=by rcases Cy with h|⟨_,h⟩<;>exact h
      simp only[A9]at G3;have:h'=E.h:=by split at G3<;>first|(cases G3;rfl)|cases G3
      subst this;exact(q_len hf CL h1 h2 ht hy G3).does hS
     .cases hr
    .cases hr
   case clear =>
    split at hr
    .rename_i x t h1 h2;split at hr
     .rename_i e ht;split at hr
      .rename_i z x' hz hx;cases hr;obtain rfl:r=.clr z x':=by rcases Cy with h|⟨_,h⟩<;>exact h
       exact A0M hS hf CL h1 h2 ht hz hx G3
      .cases hr
     .cases hr
    .cases hr
   case max =>
    split at hr
    .rename_i x y h1;split at hr
     .rename_i x' y' hx hy;cases hr;obtain rfl:r=.max x' y':=by rcases Cy with h|⟨_,h⟩<;>exact h
      simp only[A9]at G3;split at G3
      .rename_i k i k' j hi hj;split at G3
       .cases G3;exact(q_max hf CL h1 hx hy hi hj).does hS
       .cases G3
      .cases G3
     .cases hr
    .cases hr
 |makeMap t q =>
  cases q with
  |some q=>rw[CL]at hr;simp[u6]at hr
  |none =>
   rw[CL]at hr;simp only[u6]at hr;split at hr
   .cases hr;obtain rfl:r=.mkmap:=by rcases Cy with h|⟨_,h⟩<;>exact h
    simp only[A9]at G3;cases G3;exact uc hS CL
   .cases hr
 |lookup t x k ok =>
  rw[CL]at hr;simp only[u6]at hr;split at hr
  .rename_i kt et hu;split at hr
   .rename_i b z x' k' hk hz hx Tn;cases hr;obtain rfl:r=.mlook b ok z x' k':=by rcases Cy with h|⟨_,h⟩<;>exact h
    simp only[A9]at G3;exact ud hS hf CL hu hk hz hx Tn G3
   .cases hr
  .cases hr
 |mapUpdate t m k x =>
  rw[CL]at hr;simp only[u6]at hr;split at hr
  .rename_i kt et hu;split at hr
   .rename_i b m' k' x' hk hm Tn hx;cases hr;obtain rfl:r=.mup b m' k' x':=by rcases Cy with h|⟨_,h⟩<;>exact h
    simp only[A9]at G3;exact wR hS hf (.inl CL) hu hk hm Tn hx G3
   .cases hr
  .cases hr
 |insert t m k x =>
  rw[CL]at hr;simp only[u6]at hr;split at hr
  .rename_i kt et hu;split at hr
   .rename_i b m' k' x' hk hm Tn hx;cases hr;obtain rfl:r=.mup b m' k' x':=by rcases Cy with h|⟨_,h⟩<;>exact h
    simp only[A9]at G3;exact wR hS hf (.inr CL) hu hk hm Tn hx G3
   .cases hr
  .cases hr
 |_=>rw[CL]at hr;simp[u6]at hr
end
mutual
theorem Pm {E E':Env} (hw:E'.w=E.w) (BF:∀b o,E.ok b o->E'.ok b o) (hf:E'.h.fams=E.h.fams) (him:E'.im=E.im):∀(x:AV) (v:Value),PZ x=true->VR E x v->VR E' x v
 | .agg cs,v,hn,hx=>by
  simp only[VR,PZ]at hx hn ⊢;obtain⟨us,rfl,h1,hu⟩:=hx;exact⟨us,rfl,h1,Tt hw BF hf him cs us.toList hn hu⟩
 | .tup cs,v,hn,hx=>by
  simp only[VR,PZ]at hx hn ⊢;obtain⟨us,rfl,hu⟩:=hx;exact⟨us,rfl,Tt hw BF hf him cs us.toList hn hu⟩
 | .fn f cs,v,hn,hx=>by
  simp only[VR,PZ]at hx hn ⊢;obtain⟨us,rfl,hu⟩:=hx;exact⟨us,rfl,Tt hw BF hf him cs us.toList hn hu⟩
 | .sl k n off len,v,_,hx=>by
  simp only[VR,hf,him]at hx ⊢;exact hx
 | .ep k n i c sz,v,_,hx=>by
  simp only[VR,hf,him]at hx ⊢;exact hx
 | .ptr ..,v,hn,_=>by simp[PZ]at hn
 | .mp _,v,hn,_=>by simp[PZ]at hn
 | .vm ks vs,v,_,hx=>by
  simp only[VR]at hx ⊢;refine Dt (λb o h=>⟨BF b o h,?_⟩) _ _ hx;rw[hw];exact KH.refl _ _ _
 | .vs full sz xs,v,_,hx=>by
  simp only[VR]at hx ⊢;refine Dt (λb o h=>⟨BF b o h,?_⟩) _ _ hx;rw[hw];exact KH.refl _ _ _
 | .pv cs,v,_,hx=>by
  simp only[VR]at hx ⊢;refine Dt (λb o h=>⟨BF b o h,?_⟩) _ _ hx;rw[hw];exact KH.refl _ _ _
 | .mbox ..,v,_,hx=>by simp[VR]at hx
 | .rbox _,v,_,hx=>by simp[VR]at hx
 | .nilm,v,_,hx=>by simpa[VR]using hx
 | .junk,v,_,hx=>by simpa[VR]using hx
 | .bool b,v,_,hx=>by simpa[VR]using hx
 | .int k n,v,_,hx=>by simpa[VR]using hx
 | .str s,v,_,hx=>by simpa[VR]using hx
 | .nilp,v,_,hx=>by simpa[VR]using hx
 | .nilf,v,_,hx=>by simpa[VR]using hx
theorem Tt {E E':Env} (hw:E'.w=E.w) (BF:∀b o,E.ok b o->E'.ok b o) (hf:E'.h.fams=E.h.fams) (him:E'.im=E.im):∀(cs:G4) (us:List Value),VH cs=true->Bh E cs us->Bh E' cs us
 | [],us,_,hx=>by simpa[Bh]using hx
 |c::cs,us,hn,hx=>by
  simp only[Bh,VH,A0P]at hx hn ⊢;obtain⟨u,us',rfl,h1,h2⟩:=hx;exact⟨u,us',rfl,Pm hw BF hf him c u hn.1 h1,Tt hw BF hf him cs us' hn.2 h2⟩
end
mutual
theorem uN {E0 E E':Env} (hw:E'.w=E.w) (BF:∀b o,E.ok b o->E'.ok b o) (hf:E'.h.fams=E.h.fams) (him:E'.im=E.im) (hnb:E'.nb=E.nb) (hbl:E'.h.boxes.length=E0.h.boxes.length):∀(x:AV) (v0 v:Value),VR E0 x v0->VR E x v->VR E' x v
 | .agg cs,v0,v,h0,hx=>by
  simp only[VR]at h0 hx ⊢;obtain⟨us0,-,-,hu0⟩:=h0;obtain⟨us,rfl,h1,hu⟩:=hx;exact⟨us,rfl,h1,Qu hw BF hf him hnb hbl cs us0.toList us.toList hu0 hu⟩
 | .tup cs,v0,v,h0,hx=>by
  simp only[VR]at h0 hx ⊢;obtain⟨us0,-,hu0⟩:=h0;obtain⟨us,rfl,hu⟩:=hx;exact⟨us,rfl,Qu hw BF hf him hnb hbl cs us0.toList us.toList hu0 hu⟩
 | .fn f cs,v0,v,h0,hx=>by
  simp only[VR]at h0 hx ⊢;obtain⟨us0,-,hu0⟩:=h0;obtain⟨us,rfl,hu⟩:=hx;exact⟨us,rfl,Qu hw BF hf him hnb hbl cs us0.toList us.toList hu0 hu⟩
 | .ptr b o,v0,v,h0,hx=>by
  simp only[VR]at h0 hx ⊢;exact⟨by rw[hbl];exact h0.1,by rw[hnb];exact hx.2⟩
 | .mp b,v0,v,h0,hx=>by
  simp only[VR]at h0 hx ⊢;exact⟨by rw[hbl];exact h0.1,by rw[hnb];exact hx.2⟩
 | .sl k n off len,v0,v,_,hx=>Pm hw BF hf him _ _ rfl hx
 | .ep k n i c sz,v0,v,_,hx=>Pm hw BF hf him _ _ rfl hx
 | .vm ks vs,v0,v,_,hx=>Pm hw BF hf him _ _ rfl hx
 | .vs full sz xs,v0,v,_,hx=>Pm hw BF hf him _ _ rfl hx
 | .pv cs,v0,v,_,hx=>Pm hw BF hf him _ _ rfl hx
 | .mbox ..,v0,v,_,hx=>by simp[VR]at hx
 | .rbox _,v0,v,_,hx=>by simp[VR]at hx
 | .nilm,v0,v,_,hx=>by simpa[VR]using hx
 | .junk,v0,v,_,hx=>by simpa[VR]using hx
 | .bool b,v0,v,_,hx=>by simpa[VR]using hx
 | .int k n,v0,v,_,hx=>by simpa[VR]using hx
 | .str s,v0,v,_,hx=>by simpa[VR]using hx
 | .nilp,v0,v,_,hx=>by simpa[VR]using hx
 | .nilf,v0,v,_,hx=>by simpa[VR]using hx
theorem Qu {E0 E E':Env} (hw:E'.w=E.w) (BF:∀b o,E.ok b o->E'.ok b o) (hf:E'.h.fams=E.h.fams) (him:E'.im=E.im) (hnb:E'.nb=E.nb) (hbl:E'.h.boxes.length=E0.h.boxes.length):∀(cs:G4) (us0 us:List Value),Bh E0 cs us0->Bh E cs us->Bh E' cs us
 | [],us0,us,_,hx=>by simpa[Bh]using hx
 |c::cs,us0,us,h0,hx=>by
  simp only[Bh]at h0 hx ⊢;obtain⟨u0,us0',rfl,k1,k2⟩:=h0;obtain⟨u,us',rfl,h1,h2⟩:=hx;exact⟨u,us',rfl,uN hw BF hf him hnb hbl c u0 u k1 h1,Qu hw BF hf him hnb hbl cs us0' us' k2 h2⟩
end
def Env.trim (E:Env) (bx:List (List AV)):Env:={E with h:=⟨bx,E.h.fams⟩}
theorem gf {l bx:List (List AV)} (hb:l.take bx.length=bx):bx.length<=l.length/\∀i,i<bx.length->l[i]?=bx[i]?:=by
 have h1:=congrArg List.length hb;rw[List.length_take]at h1;refine⟨by omega,λi hi=>?_⟩;rw[←hb,A0W,if_pos hi]
theorem dG {E:Env} {bx:List (List AV)} (hb:E.h.boxes.take bx.length=bx) {b o:Nat} (h:E.ok b o):(E.trim bx).ok b o:=by
 obtain⟨h1,h2⟩:=gf hb;rcases h with h|⟨k1,k2,k3,k4⟩
 .exact .inl h
 .refine .inr ⟨k1,k2,λi hi he=>?_,k4⟩;have Cx:i<bx.length:=hi;obtain⟨cs,Lr⟩:=k3 i (by omega) he;exact⟨cs,by show bx[i]?=_;rw[←h2 i Cx];exact Lr⟩
theorem tj {E0 E:Env} (he:Ext E0 E) (hb:E.h.boxes.take E0.h.boxes.length=E0.h.boxes):Ext E0 (E.trim E0.h.boxes) :=
 ⟨λb o h=>⟨dG hb (he.cells b o h).1,(he.cells b o h).2⟩,Nat.le_refl _,he.nb,he.fams,he.im,he.base,he.ok0,he.below⟩
theorem wH {E0 E:Env} (h0:SR E0) (h:SR E) (he:Ext E0 E) (hb:E.h.boxes.take E0.h.boxes.length=E0.h.boxes):SR (E.trim E0.h.boxes):=by
 obtain⟨p1,p2⟩:=gf hb;have BF:∀b o,E.ok b o->(E.trim E0.h.boxes).ok b o:=λb o k=>dG hb k;have Hi:∀b o,E.ok b o->(E.trim E0.h.boxes).ok b o/\KH E.w (E.trim E0.h.boxes).w b o:=λb o k=>⟨BF b o k,KH.refl _ _ _⟩;refine⟨h.basele,λi cs hi=>?_,λk f hk=>?_,λi j hi hj=>h.inj i j ?_ ?_,h.injf,λi k hi hk=>h.sep i k ?_ hk⟩
 .have Cx:E0.h.boxes[i]?=some cs:=hi;have A7:=(A0V.1 Cx).1;have hE:E.h.boxes[i]?=some cs:=by rw[p2 i A7];exact Cx
  obtain⟨b1,b2⟩:=h.boxes i cs hE;refine⟨b1,?_⟩;rcases b2 with ⟨cur,t,h2,h3,h4⟩|⟨ks,vs,es,clk,e,h2,h3,h4⟩|⟨ys,cur,t,e,h2,h3,h4⟩
  .refine .inl ⟨cur,t,h2,?_,h4⟩;obtain⟨_,c2⟩:=h0.boxes i cs Cx;rcases c2 with ⟨cur0,t0,g2,g3,g4⟩|⟨ks,vs,es,clk,e,_⟩|⟨ys,cur0,t0,e,_⟩
   .exact Qu (E0:=E0) (E:=E) (E':=E.trim E0.h.boxes) rfl BF rfl rfl rfl rfl cs _ _ g3 h3
   .subst e;simp only[Bh,VR,false_and,and_false,exists_false]at h3
   .subst e;simp only[Bh,VR,false_and,and_false,exists_false]at h3
  .exact .inr (.inl ⟨ks,vs,es,clk,e,h2,d7 Hi _ _ h3,d7 Hi _ _ h4⟩)
  .exact .inr (.inr ⟨ys,cur,t,e,h2,d7 Hi _ _ h3,h4⟩)
 .have hf:=h.fams k f hk;obtain⟨cur,t,h2,h3,h4⟩:=hf.cells;exact⟨hf.base,hf.sz,hf.lo,hf.room,hf.cap,cur,t,h2,h3,λi x hi hx=>⟨(h4 i x hi hx).1,λc y hc=>by
   obtain⟨v,v1,v2,v3⟩:=(h4 i x hi hx).2 c y hc;exact⟨v,v1,v2,Dt Hi _ _ v3⟩⟩⟩
 .have:i<E0.h.boxes.length:=hi;omega
 .have:j<E0.h.boxes.length:=hj;omega
 .have:i<E0.h.boxes.length:=hi;omega
def Qc (P:Program) (O:Orc):Prop :=
 ∀(f:FuncId) (args:List AV) (r:AV),O.pure f args=some r->Program.enterable P f=true /\
  ∀(w:World) (ok0:Nat->Nat->Prop) (vs:Array Value),(∀b o,ok0 b o->b<w.heap.size)->Dk w ok0 args vs.toList ->
   Calls P f vs w λe w'=>∃u,e=.returned u/\Bl w.heap.size w w'/\PV w' (λb o=>ok0 b o\/(w.heap.size<=b/\b<w'.heap.size)) r u
def Yp (P:Program) (O:Orc):Prop :=
 ∀(f:FuncId) (args:List AV) (h:AH) (r:AV) (h':AH),O.raw f args h=some (r,h')->Program.enterable P f=true /\
  ∀(E:Env) (vs:Array Value),SR E->E.h=h->Bh E args vs.toList ->
   Calls P f vs E.w λe w'=>∃u E',e=.returned u/\w'=E'.w/\Ext E E'/\SR E'/\E'.h=h'/\VR E' r u
mutual
theorem YY {w w':World} {ok ok':Nat->Nat->Prop}:∀{x:AV} {v:Value},x.scalar1=true->PV w ok x v->PV w' ok' x v:=by
 intro x v hs h;cases x<;>simp only[AV.scalar1]at hs<;>first|(cases hs;done)|simpa[PV]using h
end
theorem WA {w w':World} {ok ok':Nat->Nat->Prop}:∀{xs:G4} {vs:List Value},(∀x∈xs,x.scalar1=true)->Dk w ok xs vs->Dk w' ok' xs vs
 | [],vs,_,h=>by simpa[Dk]using h
 |x::xs,vs,hs,h=>by
  simp only[Dk]at h ⊢;obtain⟨u,us,rfl,h1,h2⟩:=h;exact⟨u,us,rfl,YY (hs x (by simp)) h1,WA (λy hy=>hs y (by simp[hy])) h2⟩
theorem YX {w w':World} {ok ok':Nat->Nat->Prop} {x:AV} {v:Value} (hs:x.scalar0=true) (h:PV w ok x v):PV w' ok' x v:=by
 unfold AV.scalar0 at hs;split at hs
 .rename_i cs;simp only[PV]at h ⊢;obtain⟨us,rfl,h1,h2⟩:=h;exact⟨us,rfl,h1,WA (by simpa using hs) h2⟩
 .exact YY hs h
theorem Ua {w w':World} {ok ok':Nat->Nat->Prop}:∀{xs:G4} {vs:List Value},(∀x∈xs,x.scalar0=true)->Dk w ok xs vs->Dk w' ok' xs vs
 | [],vs,_,h=>by simpa[Dk]using h
 |x::xs,vs,hs,h=>by
  simp only[Dk]at h ⊢;obtain⟨u,us,rfl,h1,h2⟩:=h;exact⟨u,us,rfl,YX (hs x (by simp)) h1,Ua (λy hy=>hs y (by simp[hy])) h2⟩
theorem pi {w w':World} {ok ok':Nat->Nat->Prop} {x:AV} {v:Value} (hs:x.scalar=true) (h:PV w ok x v):PV w' ok' x v:=by
 unfold AV.scalar at hs;split at hs
 .rename_i vs;simp only[PV]at h ⊢;obtain⟨us,rfl,h2⟩:=h;exact⟨us,rfl,Ua (by simpa using hs) h2⟩
 .exact YX hs h
theorem Zl {h:AH} {x:AV} (ht:KM h x=true):Em h true x=Em h false x:=by
 cases x<;>simp only[Em]
 case mp b=>simp[KM]at ht
 case sl k n off len =>
  unfold KM at ht;cases hf:h.fams[k]? with
  |none=>rfl
  |some f =>
   simp only[hf]at ht ⊢;simp[ht]
theorem Zm {h:AH}:∀{xs:G4},xs.all (KM h)=true->TV h true xs=TV h false xs
 | [],_=>rfl
 |x::xs,ht=>by
  simp only[A0T,A0P]at ht;simp only[TV,Zl ht.1,Zm ht.2]
theorem qr {h:AH} {x:AV} (ht:CO h x=true):KI h true x=KI h false x:=by
 unfold KI;split
 .rename_i cs;rw[Zm (by simpa[CO]using ht)]
 .rename_i hx;refine Zl ?_;unfold CO at ht;split at ht
  .exact absurd rfl (hx _)
  .exact ht
theorem Vi {h:AH}:∀{xs:G4},xs.all (CO h)=true->Bm h true xs=Bm h false xs
 | [],_=>rfl
 |x::xs,ht=>by
  simp only[A0T,A0P]at ht;simp only[Bm,qr ht.1,Vi ht.2]
section
variable {E:Env} {P:Program} {fr:Fr} {a:Act} {o:Oper} {O:Orc} {c:Ctx}
theorem iJ (hP:Qc P O) (hR:Yp P O) (hS:SR E) {f:FuncId} {args:G4} {vs:Array Value} {r:AV} {h':AH} (hv:Bh E args vs.toList) (h:LX O c f args E.h=some (r,h')) :
  Program.enterable P f=true/\Calls P f vs E.w λe w'=>∃u E',e=.returned u/\w'=E'.w/\Ext E E'/\SR E'/\E'.h=h'/\VR E' r u:=by
 unfold LX at h;split at h
 .obtain⟨Cw,e1,e2⟩:=eN h;obtain⟨h1,h2⟩:=hR f args E.h r Cw e1;refine⟨h1,?_⟩;rcases e2 with e2|⟨e2,e3,e4⟩
  .subst e2;exact h2 E vs hS rfl hv
  .refine(h2 E vs hS rfl hv).mono λe w' ⟨u,E',k1,k2,k3,k4,k5,k6⟩=>?_;have hb:E'.h.boxes.take E.h.boxes.length=E.h.boxes:=by rw[k5];exact e3
   refine⟨u,E'.trim E.h.boxes,k1,k2,tj k3 hb,wH hS k4 k3 hb,?_,Pm (E:=E') (E':=E'.trim E.h.boxes) rfl (λb o k=>dG hb k) rfl rfl _ _ e2 k6⟩;show (⟨E.h.boxes,E'.h.fams⟩:AH)=h';rw[k5];exact e4.symm
 .split at h
  .cases h
  .rename_i aas has;split at h
   .cases h
   .rename_i q hq;split at h
    .rename_i hc;cases h;obtain⟨h1,h2⟩:=hP f aas r hq;refine⟨h1,?_⟩;by_cases hs:r.scalar=true
     .have hpv:=MP hS (am:=true) (ok':=λb _=>b<E.w.heap.size) ⟨λb o ho=>UL hS ho,λ_ b _ _ hb=>hb⟩ hv has;refine(h2 E.w (λb _=>b<E.w.heap.size) vs (λ_ _ hb=>hb) hpv).mono λe w' ⟨u,he,hb,hu⟩=>?_;exact⟨u,{E with w:=w'},he,rfl,Bn hS hb,HJ hS hb,rfl,FO _ _ (pi hs hu)⟩
     .have ht:args.all (CO E.h)=true:=by simpa[hs]using hc
      rw[Vi ht]at has;have hpv:=MP hS (am:=false) (ok':=E.ok) ⟨λ_ _ h=>h,λh=>by cases h⟩ hv has;refine(h2 E.w E.ok vs (λb o hb=>UL hS hb) hpv).mono λe w' ⟨u,he,hb,hu⟩=>?_;have hx:=Bn hS hb;refine⟨u,{E with w:=w'},he,rfl,hx,HJ hS hb,rfl,FO _ _ (Dt (λb o ho=>⟨?_,KH.refl _ _ _⟩) _ _ hu)⟩
      rcases ho with ho|ho
      .exact(hx.cells b o ho).1
      .refine .inr ⟨Nat.le_trans hS.basele ho.1,ho.2,λi hi=>?_,λk g hk he=>?_⟩
       .have:=(hS.nb_lt hi).2;intro e;have e':E.nb i=b:=e;omega
       .have:=(hS.im_lt (A0V.1 hk).1).2;have he':(E.im k).b=b:=he;omega
    .cases h
theorem dy {f:FuncId} (he:Program.enterable P f=true) (args:Array Value) (w:World):(callFunc f args).run P w=.ok (.enter f args) w:=by
 unfold Program.enterable at he;unfold callFunc;split at he
 .rename_i fn hfn;simp only[A0P,Bool.not_eq_true']at he;have P6:fn.name≠ "runtime.NumGoroutine":=by simpa using he.2
  have h1:fn.body≠none:=by intro h;rw[h]at he;simp at he
  simp[hfn,P6,h1]
 .cases he
theorem ru {α β:Type} {f:α->β} {x:Option α} {r:β} (h:x.map f=some r):∃y,r=f y:=by
 cases x with
 |none=>cases h
 |some y=>exact⟨y,by simpa using h.symm⟩
def XW:Op->Bool
 | .call {callee:=.value _,args:=_,argTypes:=_}=>true
 |_=>false
theorem mI {p:Op} {r:ROp} (hr:u6 P p=some r) (hp:XW p=false):r.isCall=false:=by
 unfold u6 at hr
 repeat' (split at hr)
 all_goals first
  |(cases hr;done)
  |(cases hr;rfl)
  |(obtain⟨y,rfl⟩:=ru hr;rfl)
  |(exfalso;simp[XW]at hp;done)
theorem op_wp (hP:Qc P O) (hR:Yp P O) (hS:SR E) (hf:FR E fr a.tmps) {r r0:ROp} (hr:u6 P o.op=some r0) (Cy:r=r0\/∃m,r=r0.lax m) {v:AV} {h':AH} (G3:A9 O c r fr E.h=some (v,h'))
  {K:Act->World->Prop} {Q:Exit->Act->World->Prop} (hK:∀u E',Ext E E'->SR E'->E'.h=h'->VR E' v u->K (a.put o.dst u) E'.w):o.wp P a E.w K Q:=by
 by_cases hnc:r.isCall=false
 .obtain⟨nx,u,E',h1,h2,h3,h4,h5,h6⟩:=vQ (c:=c) hS hf hr Cy G3 hnc;unfold Oper.wp;rw[h1];rcases h2 with rfl|⟨rfl,rfl⟩
  .exact hK u E' h3 h4 h5 h6
  .exact hK undef E' h3 h4 h5 h6
 .have hcalls:∀(f:FuncId) (vs:Array Value) (args:List AV),Bh E args vs.toList->LX O c f args E.h=some (v,h')->(execOp a.eval o).run P E.w=(callFunc f vs).run P E.w->o.wp P a E.w K Q:=by
   intro f vs args hv hc hx;obtain⟨h1,h2⟩:=iJ hP hR hS hv hc;unfold Oper.wp;rw[hx,dy h1];refine Calls.mono h2 λe w' ⟨u,E',he,hw,k1,k2,k3,k4⟩=>?_;subst he;subst hw;exact hK u E' k1 k2 k3 k4
  by_cases hp:XW o.op=false
  .have h1:=mI hr hp;rcases Cy with rfl|⟨_,rfl⟩
   .exact absurd h1 hnc
   .refine absurd ?_ hnc;cases r0<;>first|rfl|exact h1|(rename_i m _ _ _;obtain⟨m,mk⟩:=m;cases m with|none=>rfl|some b=>cases b<;>rfl)|(rename_i m _ _ _ _;obtain⟨m,mk⟩:=m;cases mk<;>rfl)
  .cases CL:o.op<;>rw[CL]at hp hr<;>try (exact absurd rfl hp)
   rename_i q;obtain⟨callee,args,ats⟩:=q;cases callee with
   |invoke x m=>exact absurd rfl hp
   |builtin b=>exact absurd rfl hp
   |value x =>
    cases x<;>simp only[u6]at hr<;>try (cases hr;done)
    case tmp t =>
     simp only[A0O]at hr;obtain⟨aas,has,rfl⟩:=hr;obtain rfl:r=.callv (.t t) aas:=by rcases Cy with h|⟨_,h⟩<;>exact h
     simp only[A9]at G3;split at G3
     .rename_i f caps hg;have G3:LX O c f (aas.map (get fr)++caps) E.h=some (v,h'):=by
       split at G3
       .cases G3
       .exact G3
      have hv:=hf.val t;have Z9:fr.getD t C5=.fn f caps:=hg;rw[Z9]at hv;simp only[VR]at hv;obtain⟨us,e1,e2⟩:=hv;refine hcalls f (args.map a.eval++us) _ ?_ G3 ?_
      .have:=TJ (QD hf has) e2;simpa using this
      .simp[execOp,CL,resolve,Act.eval,e1,Deferred.ofValue,invoke]
     .cases G3
    case func f =>
     split at hr
     .simp only[A0O]at hr;obtain⟨aas,has,rfl⟩:=hr;obtain rfl:r=.call f aas:=by rcases Cy with h|⟨_,h⟩<;>exact h
      simp only[A9]at G3;refine hcalls f (args.map a.eval) _ (QD hf has) G3 ?_;simp[execOp,CL,resolve,Act.eval,Deferred.ofValue,invoke]
     .cases hr
end
def Rg (O:Orc) (c:Ctx) (o:RO) (fr:Fr) (h:AH):Option (AV×AH) :=
 match GS fr o.guard with
 |some true=>A9 O c o.op fr h
 |some false=>some (C5,h)
 |none=>none
theorem UB (O:Orc) (c:Ctx) (o:RO) (rest:List RO) (fr:Fr) (h:AH) :
  L8 O c (o::rest) fr h=(Rg O c o fr h).bind λx=>L8 O c rest (put fr o.dst x.1) x.2:=by
 unfold Rg;simp only[L8];cases GS fr o.guard with
 |none=>rfl
 |some b =>
  cases b with
  |false=>rfl
  |true =>
   dsimp only;cases A9 O c o.op fr h with
   |none=>rfl
   |some x=>rfl
structure RORel (P:Program) (ops:List Oper) (o:Oper) (ro:RO):Prop where
 dst:ro.dst=o.dst
 guard:UW ops o.guard=some ro.guard
 op:∃r0,u6 P o.op=some r0/\(ro.op=r0\/∃m,ro.op=r0.lax m)
theorem aX {P:Program} {ops:List Oper} {o:Oper} {ro:RO} (h:aW P ops o=some ro):RORel P ops o ro:=by
 unfold aW at h;split at h
 .rename_i r g h1 h2;cases h;exact⟨rfl,h2,r,h1,.inl rfl⟩
 .cases h
theorem RORel.lax {P:Program} {ops:List Oper} {o:Oper} {ro:RO} (m:Option Bool×Bool) (h:aW P ops o=some ro):RORel P ops o (ro.lax m):=by
 unfold aW at h;split at h
 .rename_i r g h1 h2;cases h;exact⟨rfl,h2,r,h1,.inr ⟨m,rfl⟩⟩
 .cases h
section
variable {P:Program} {O:Orc} {c:Ctx}
theorem Ug {E:Env} {fr:Fr} {a:Act} (hf:FR E fr a.tmps) {ops:Array Oper} {o:Oper} {g:Option (Nat×Bool)} (hg:UW ops.toList o.guard=some g) {b:Bool} (hw:GS fr g=some b) :
  Region.wanted o (yielded ops a.tmps)=b:=by
 unfold UW at hg;unfold Region.wanted;split at hg
 .rename_i h0;cases hg;simp[GS]at hw;simp[h0,hw]
 .rename_i j want h0;split at hg
  .rename_i o' ho';split at hg
   .rename_i d hd;cases hg;have hv:=hf.val d;have hy:((ops[j]?).bind (·.dst))=some d:=by
     have:ops[j]?=some o':=by simpa using ho'
     simp[this,hd]
    simp only[h0];simp only[GS]at hw;unfold yielded;simp only[hy,Option.bind_some];split at hw
    .rename_i b' hb;cases hw;rw[hb]at hv;simp only[VR]at hv;have:a.tmps[d]?=some (.bool b'):=by
      rw[A0S]at hv;cases h1:a.tmps[d]? with
      |none=>rw[h1]at hv;simp[undef]at hv
      |some u=>rw[h1]at hv;simpa using hv
     simp only[this];cases b'<;>cases want<;>rfl
    .rename_i vs hb;cases hw;rw[hb]at hv;simp only[VR]at hv;obtain⟨us,e,_⟩:=hv;have:∀b',a.tmps[d]?≠some (.bool b'):=by
      intro b' h1;rw[A0S,h1]at e;simp at e
     cases h1:a.tmps[d]? with
     |none=>rfl
     |some u =>
      cases u<;>first|rfl|exact absurd h1 (this _)
    .cases hw
   .cases hg
  .cases hg
theorem lZ (hP:Qc P O) (hR:Yp P O) {E:Env} {fr:Fr} {a:Act} (hS:SR E) (hf:FR E fr a.tmps) {ops:Array Oper} {o:Oper} {ro:RO} (hr:RORel P ops.toList o ro) {v:AV} {h':AH} (G3:Rg O c ro fr E.h=some (v,h'))
  {K:Act->World->Prop} {Q:Exit->Act->World->Prop} (hK:∀u E',Ext E E'->SR E'->E'.h=h'->VR E' v u->K (a.put o.dst u) E'.w) :
  if Region.wanted o (yielded ops a.tmps)then o.wp P a E.w K Q else K (a.put o.dst undef) E.w:=by
 unfold Rg at G3;split at G3
 .rename_i hw;rw[if_pos (Ug hf hr.guard hw)];obtain⟨r0,h1,h2⟩:=hr.op;exact op_wp hP hR hS hf h1 h2 G3 hK
 .rename_i hw;cases G3;have:=Ug hf hr.guard hw;rw[if_neg (by simp[this])];exact hK undef E (Ext.refl E) hS rfl (FP E)
 .cases G3
theorem fL (hP:Qc P O) (hR:Yp P O) {ops:Array Oper} {Q:Exit->Act->World->Prop} :
  ∀(l:List Oper) (O2:List RO),O2.length=l.length->(∀(i:Nat) (o:Oper) (ro:RO),l[i]?=some o->O2[i]?=some ro->RORel P ops.toList o ro) ->
   ∀(E:Env) (fr:Fr) (a:Act) (C3:Fr) (h':AH),SR E->FR E fr a.tmps->L8 O c O2 fr E.h=some (C3,h') ->
    (∀a' E',Ext E E'->SR E'->E'.h=h'->FR E' C3 a'.tmps->a'.defers=a.defers->Q .normal a' E'.w)->wpList P ops Q l a E.w
 | [],O2,hl,_,E,fr,a,C3,h',hS,hf,G3,hQ=>by
  have:O2=[]:=List.eq_nil_of_length_eq_zero (by simpa using hl);subst this;simp only[L8]at G3;cases G3;exact hQ a E (Ext.refl E) hS rfl hf rfl
 |o::l,O2,hl,hrel,E,fr,a,C3,h',hS,hf,G3,hQ=>by
  cases O2 with
  |nil=>simp at hl
  |cons ro O2 =>
   rw[UB,Option.bind_eq_some_iff]at G3;obtain⟨⟨v,h1⟩,Hi,hrest⟩:=G3;have hr:=hrel 0 o ro rfl rfl;have:=lZ (Q:=Q) hP hR hS hf hr Hi (K:=wpList P ops Q l) (λu E' hx hS' he hv=>by
    refine fL hP hR l O2 (by simpa using hl) (λi o' ro' h1 h2=>hrel (i+1) o' ro' (by simpa using h1) (by simpa using h2)) E' (put fr ro.dst v) (a.put o.dst u) C3 h' hS' ?_ (by rw[he];exact hrest) λa' E'' hx' hS'' he' hf' hd=>?_
    .rw[hr.dst];exact FR.put (FR.ext hx hf) o.dst hv
    .refine hQ a' E'' (hx.trans hx') hS'' he' hf' (hd.trans ?_);cases o.dst<;>rfl)
   unfold wpList;split
   .rename_i hw;rw[if_pos hw]at this;exact .inl this
   .rename_i hw;rw[if_neg hw]at this;exact this
end
end Go.Abs
namespace Go.Abs
section
variable {O:Orc} {c:Ctx}
theorem C8 {fr C3:Fr} {x:Opd} (h:∀t∈x.slots,C3.getD t C5=fr.getD t C5):get C3 x=get fr x:=by
 cases x with
 |t n=>exact h n (by simp[Opd.slots])
 |c v=>rfl
theorem Pu {fr C3:Fr} {xs:List Opd} (h:∀t∈xs.flatMap Opd.slots,C3.getD t C5=fr.getD t C5):xs.map (get C3)=xs.map (get fr) :=
 List.map_congr_left λx hx=>C8 λt ht=>h t (List.mem_flatMap.2 ⟨x,hx,ht⟩)
theorem PN {fr C3:Fr} {n:Nat}:∀{ps:List (Nat×Nat×Opd)},(∀t∈ps.flatMap (λp=>p.2.2.slots),C3.getD t C5=fr.getD t C5)->D2 C3 n ps=D2 fr n ps
 | [],_=>rfl
 |(off,k,x)::ps,h=>by
  have hx:get C3 x=get fr x:=C8 λt ht=>h t (by simp[ht]);have hr:=PN (n:=n) (ps:=ps) λt ht=>h t (by simp only[A0U,A0Q];exact .inr ht);simp only[D2,hx,hr]
theorem TO {h h':AH} (he:h'.fams=h.fams) (sz:Nat) (x:AV):AS h' sz x=AS h sz x:=by cases x<;>simp only[AS,he]
theorem Kj {fr C3:Fr} {h:AH}:∀{ps:List (Nat×Opd)} {xs:G4},(∀t∈ps.flatMap (λp=>p.2.slots),C3.getD t C5=fr.getD t C5)->A5 C3 h xs ps=A5 fr h xs ps
 | [],xs,_=>rfl
 |(i,x)::ps,xs,hh=>by
  have hx:get C3 x=get fr x:=C8 λt ht=>hh t (by simp[ht]);simp only[A5,hx];split
  .split
   .exact Kj λt ht=>hh t (by simp only[A0U,A0Q];exact .inr ht)
   .rfl
  .rfl
theorem Qj {fr:Fr} (h h':AH):∀{ps:List (Nat×Opd)} {xs:G4},ps.all (λp=>OH (get fr p.2))=true->A5 fr h' xs ps=A5 fr h xs ps
 | [],xs,_=>rfl
 |(i,x)::ps,xs,hp=>by
  simp only[A0T,A0P]at hp;simp only[A5,RD h false hp.1,RD h' false hp.1];split
  .split
   .exact Qj h h' hp.2
   .rfl
  .rfl
theorem Vh {fr C3:Fr}:∀{ps:List (Nat×Opd)},(∀t∈ps.flatMap (λp=>p.2.slots),C3.getD t C5=fr.getD t C5)->ps.all (λp=>OH (get C3 p.2))=ps.all (λp=>OH (get fr p.2))
 | [],_=>rfl
 |(i,x)::ps,hh=>by
  have hx:get C3 x=get fr x:=C8 λt ht=>hh t (by simp[ht]);simp only[A0T,hx];rw[Vh (ps:=ps) λt ht=>hh t (by simp only[A0U,A0Q];exact .inr ht)]
theorem Yy {h h':AH} (hb:h'.boxes=h.boxes) (x:AV):GM h' x=GM h x:=by cases x<;>simp only[GM,hb]
theorem Qv {fr C3:Fr} {x:Option Opd} (h:∀t∈UM x,C3.getD t C5=fr.getD t C5):L7 C3 x=L7 fr x:=by
 cases x with
 |none=>rfl
 |some x=>simp only[L7,C8 (x:=x) h]
theorem gS {h h':AH} (he:h'.fams=h.fams) (sz:Nat) (x:AV) (l u m:Option Int):Ok h' sz x l u m=Ok h sz x l u m:=by
 unfold Ok;rw[he]
theorem eQ {h h':AH} (hb:h'.boxes=h.boxes) {b:Bool} {n:Nat} {x:AV} (hx:∀k m i q s,x≠.ep k m i q s):JU h' b n x=JU h b n x:=by
 cases x<;>simp only[JU,hb];exact absurd rfl (hx _ _ _ _ _)
theorem Qb {h h':AH} (hb:h'.boxes=h.boxes) (hf:h'.fams=h.fams):h'=h:=by cases h;cases h';simp_all
theorem TE (r:ROp):r.writesB c=true->r.looksB=true:=by cases r<;>simp[ROp.writesB,ROp.looksB]
theorem TF (r:ROp):r.writesF c=true->r.looksF=true:=by cases r<;>simp[ROp.writesF,ROp.looksF]
theorem TM {f:FuncId} {args:G4} {h h1:AH} {v:AV} (hr:c.raw f=false) (he:LX O c f args h=some (v,h1)):h1=h:=by
 unfold LX at he;rw[if_neg (by simp[hr])]at he;split at he
 .cases he
 .split at he
  .cases he
  .split at he
   .cases he;rfl
   .cases he
theorem Rb:∀{xs:G4} {h h':AH} {ys:G4},CM h xs=some (ys,h')->h'.fams=h.fams
 | [],h,h',ys,he=>by simp only[CM]at he;cases he;rfl
 |x::xs,h,h',ys,he=>by
  by_cases hp:∃b off,x=.ptr b off
  .obtain⟨b,off,rfl⟩:=hp;simp only[CM]at he;split at he
   case isFalse=>cases he
   split at he
   case h_2=>cases he
   split at he
   case isFalse=>cases he
   simp only[A0O]at he;obtain⟨⟨ys',h''⟩,hr,e⟩:=he;cases e;have q:=Rb hr;exact q
  .have hr:CM h (x::xs)=(CM h xs).map λp=>(x::p.1,p.2):=by
    cases x<;>first|rfl|exact absurd ⟨_,_,rfl⟩ hp
   rw[hr]at he;simp only[A0O]at he;obtain⟨⟨ys',h''⟩,hr,e⟩:=he;cases e;exact Rb hr
theorem cC {r:ROp} {fr:Fr} {h h1:AH} {v:AV} (he:A9 O c r fr h=some (v,h1)):(r.writesB c=false->h1.boxes=h.boxes)/\(r.writesF c=false->h1.fams=h.fams):=by
 have same:h1=h->(r.writesB c=false->h1.boxes=h.boxes)/\(r.writesF c=false->h1.fams=h.fams):=λe=>by subst e;exact⟨λ_=>rfl,λ_=>rfl⟩
 cases r
 case st n a x=>exact⟨(λh=>nomatch h),(λh=>nomatch h)⟩
 case ste n a x =>
  refine⟨λ_=>?_,(λh=>nomatch h)⟩;simp only[A9,Yf,Io]at he
  repeat' (split at he)
  all_goals first
   |(cases he;done)
   |(
     cases he;rename_i Hi
     repeat' (split at Hi)
     all_goals first
      |(cases Hi;done)
      |(
       simp only[A0O]at Hi;obtain⟨y,_,rfl⟩:=Hi;rfl))
 case stb n a x =>
  refine⟨(λh=>nomatch h),λ_=>?_⟩;simp only[A9,Ye]at he
  repeat' (split at he)
  all_goals first|(cases he;done)|(cases he;rfl)
 case clr z x =>
  refine⟨λ_=>?_,(λh=>nomatch h)⟩;simp only[A9,Uz]at he
  repeat' (split at he)
  all_goals first|(cases he;done)|(cases he;rfl)
 case callv x aas =>
  have key:c.rawv=false->h1=h:=by
   intro hr;simp only[A9]at he;split at he
   .rename_i f caps hg;split at he
    .cases he
    .rename_i hc;exact TM (O:=O) (c:=c) (by simpa[hr]using hc) he
   .cases he
  exact⟨λhr=>by rw[key hr],λhr=>by rw[key hr]⟩
 case clos f cs =>
  simp only[A9]at he;split at he
  .rename_i hro;refine⟨λhr=>?_,λ_=>?_⟩
   .simp only[ROp.writesB]at hr;rw[hr]at hro;cases hro
   .simp only[A0O]at he;obtain⟨⟨ys,h2⟩,hq,he⟩:=he;cases he;exact Rb hq
  .cases he;exact⟨λ_=>rfl,λ_=>rfl⟩
 case mkmap=>simp only[A9]at he;cases he;exact⟨(λh=>nomatch h),(λ_=>rfl)⟩
 case mkv z b l q =>
  refine same ?_;simp only[A9,jN]at he
  repeat' (split at he)
  all_goals first|(cases he;done)|(cases he;rfl)
 case mlook str ok z x k =>
  refine same ?_;simp only[A9,Gb]at he
  repeat' (split at he)
  all_goals first|(cases he;done)|(cases he;rfl)
 case bstr x =>
  refine same ?_;simp only[A9,So]at he
  repeat' (split at he)
  all_goals first|(cases he;done)|(cases he;rfl)
 case mup str x k w =>
  refine⟨(λh=>nomatch h),λ_=>?_⟩;simp only[A9,ZA]at he
  repeat' (split at he)
  all_goals first|(cases he;done)|(cases he;rfl)
 case box x=>simp only[A9]at he;split at he<;>cases he;exact⟨(λh=>nomatch h),(λ_=>rfl)⟩
 case alloc z=>simp only[A9]at he;cases he;exact⟨(λh=>nomatch h),(λ_=>rfl)⟩
 case mkslice z b l q =>
  simp only[A9]at he;split at he
  .split at he<;>cases he;exact⟨λ_=>rfl,(λh=>nomatch h)⟩
  .cases he
 case app sz b s x =>
  refine⟨λ_=>?_,λh=>nomatch h⟩;simp only[A9,K3]at he
  repeat' (split at he)
  all_goals first|(cases he;done)|(cases he;rfl)
 case len b x =>
  refine same ?_;cases b<;>simp only[A9]at he<;>split at he<;>first|(cases he;done)|(cases he;rfl)
 case call f aas =>
  refine⟨λhr=>?_,λhr=>by rw[TM (O:=O) hr he]⟩;cases hc:c.raw f with
  |false=>rw[TM (O:=O) hc he]
  |true =>
   simp only[ROp.writesB,hc,Bool.true_and,Bool.not_eq_false']at hr;simp only[A9,LX,hc,if_true,hr]at he;exact md he
 all_goals
  refine same ?_;simp only[A9]at he
  repeat' (split at he)
  all_goals first|(cases he;done)|(cases he;rfl)
theorem gY {h h':AH} (hf:h'.fams=h.fams) {n:Nat} {x:AV} (hx:OH x=true) {k m i q s:Nat}:(Io h' n x k m i q s).map AH.fams=(Io h n x k m i q s).map AH.fams:=by
 unfold Io;rw[RD h false hx,RD h' false hx,hf];cases h.fams[k]? with
 |none=>rfl
 |some f =>
  dsimp only;split
  .cases f.xs[i]? with
   |none=>rfl
   |some y =>
    dsimp only;split
    .cases y.reform (M5 y.cells q x.cells)<;>simp
    .rfl
  .rfl
theorem aj {h h':AH} (hf:h'.fams=h.fams) {n:Nat} {p x:AV}:(Yf h' n p x).map (λr=>(r.1,r.2.fams))=(Yf h n p x).map (λr=>(r.1,r.2.fams)):=by
 cases p<;>try rfl
 rename_i k m i q s;simp only[Yf];split
 .rename_i hx;have:=gY hf (n:=n) hx (k:=k) (m:=m) (i:=i) (q:=q) (s:=s);cases h1:Io h' n x k m i q s with
  |none =>
   cases h2:Io h n x k m i q s with
   |none=>rfl
   |some b=>rw[h1,h2]at this;cases this
  |some a =>
   cases h2:Io h n x k m i q s with
   |none=>rw[h1,h2]at this;cases this
   |some b =>
    rw[h1,h2]at this;simp only[Option.map_some,Option.some.injEq]at this ⊢;rw[this]
 .rfl
theorem ai {h h':AH} (hb:h'.boxes=h.boxes) {n:Nat} {p x:AV}:(Ye h' n p x).map (λr=>(r.1,r.2.boxes))=(Ye h n p x).map (λr=>(r.1,r.2.boxes)):=by
 cases p<;>try rfl
 simp only[Ye,hb]
 repeat' split
 all_goals rfl
theorem ZY {h h':AH} (hf:h'.fams=h.fams) {z x:AV}:(Uz h' z x).map (λr=>(r.1,r.2.fams))=(Uz h z x).map (λr=>(r.1,r.2.fams)):=by
 cases x<;>try rfl
 case vs=>simp only[Uz];split<;>simp[hf]
 case sl =>
  simp only[Uz,hf]
  repeat' split
  all_goals rfl
theorem iS {α β:Type} {r r':Option (α×AH)} {g:AH->β} (h:r'.map (λx=>(x.1,g x.2))=r.map (λx=>(x.1,g x.2))):r'.map A0R=r.map A0R:=by
 have:=congrArg (Option.map A0R) h;simpa[Option.map_map,Function.comp_def]using this
theorem td {h h':AH} (hf:h'.fams=h.fams) {n:Nat} {p x:AV}:(Yf h' n p x).map A0R=(Yf h n p x).map A0R:=iS (g:=AH.fams) (aj hf)
theorem ta {h h':AH} (hb:h'.boxes=h.boxes) {n:Nat} {p x:AV}:(Ye h' n p x).map A0R=(Ye h n p x).map A0R:=iS (g:=AH.boxes) (ai hb)
theorem qb {h h':AH} (hf:h'.fams=h.fams) {z x:AV}:(Uz h' z x).map A0R=(Uz h z x).map A0R:=iS (g:=AH.fams) (ZY hf)
theorem xq {r:ROp} {fr C3:Fr} {h h':AH} (hs:∀t∈r.slots,C3.getD t C5=fr.getD t C5) (hb:r.looksB=true->h'.boxes=h.boxes) (hf:r.looksF=true->h'.fams=h.fams) (hcall:r.isCall=false) :
  ((A9 O c r fr h).isSome=true->(A9 O c r C3 h').map A0R=(A9 O c r fr h).map A0R):=by
 intro hsome;cases r
 case call=>simp[ROp.isCall]at hcall
 case callv=>simp[ROp.isCall]at hcall
 case st n a x=>obtain rfl:h'=h:=Qb (hb rfl) (hf rfl);simp only[A9,C8 (x:=a) λt ht=>hs t (by simp[ROp.slots,ht]),C8 (x:=x) λt ht=>hs t (by simp[ROp.slots,ht])]
 case ste n a x =>
  simp only[A9,C8 (x:=a) λt ht=>hs t (by simp[ROp.slots,ht]),C8 (x:=x) λt ht=>hs t (by simp[ROp.slots,ht])];exact td (hf rfl)
 case stb n a x =>
  simp only[A9,C8 (x:=a) λt ht=>hs t (by simp[ROp.slots,ht]),C8 (x:=x) λt ht=>hs t (by simp[ROp.slots,ht])];exact ta (hb rfl)
 case clr z x =>
  simp only[A9,C8 (x:=x) λt ht=>hs t (by simp[ROp.slots,ht])];exact qb (hf rfl)
 case ld b n x=>obtain rfl:h'=h:=Qb (hb rfl) (hf rfl);simp only[A9,C8 (x:=x) λt ht=>hs t (by simp[ROp.slots,ht])]
 case mov x=>simp only[A9,C8 (x:=x) λt ht=>hs t (by simp[ROp.slots,ht])];rfl
 case pick q x y=>simp only[A9,C8 (x:=q) λt ht=>hs t (by simp[ROp.slots,ht]),C8 (x:=x) λt ht=>hs t (by simp[ROp.slots,ht]),C8 (x:=y) λt ht=>hs t (by simp[ROp.slots,ht])];cases get fr q<;>rfl
 case box x=>simp only[A9,C8 (x:=x) λt ht=>hs t (by simp[ROp.slots,ht]),hb rfl];split<;>rfl
 case alloc z=>simp only[A9,hb rfl];rfl
 case mkmap=>simp only[A9,hb rfl];rfl
 case mlook str ok z x k =>
  simp only[A9,Gb,C8 (x:=x) λt ht=>hs t (by simp[ROp.slots,ht]),C8 (x:=k) λt ht=>hs t (by simp[ROp.slots,ht]),Yy (hb rfl)]
  repeat' split
  all_goals rfl
 case mup str x k w=>obtain rfl:h'=h:=Qb (hb rfl) (hf rfl);simp only[A9,C8 (x:=x) λt ht=>hs t (by simp[ROp.slots,ht]),C8 (x:=k) λt ht=>hs t (by simp[ROp.slots,ht]),C8 (x:=w) λt ht=>hs t (by simp[ROp.slots,ht])]
 case build z ps=>simp only[A9,PN (ps:=ps) λt ht=>hs t (by simpa[ROp.slots]using ht)];cases D2 fr z.cells.length ps<;>rfl
 case bslice n z ps=>obtain rfl:h'=h:=Qb (hb rfl) (hf rfl);simp only[A9,Kj (ps:=ps) λt ht=>hs t (by simpa[ROp.slots]using ht)]
 case bslicev n z ps =>
  simp only[A9,Vh (ps:=ps) λt ht=>hs t (by simpa[ROp.slots]using ht),Kj (h:=h') (ps:=ps) λt ht=>hs t (by simpa[ROp.slots]using ht)];by_cases hc:(ps.all λp=>OH (get fr p.2))=true
  .rw[if_pos hc,if_pos hc,Qj h h' hc];cases A5 fr h (List.replicate n z) ps<;>rfl
  .rw[if_neg hc,if_neg hc]
 case iaddrv sz x i =>
  simp only[A9,C8 (x:=x) λt ht=>hs t (by simp[ROp.slots,ht]),C8 (x:=i) λt ht=>hs t (by simp[ROp.slots,ht])];cases get fr x<;>first|rfl|(cases get fr i<;>first|rfl|(simp only[];split<;>first|rfl|(split<;>rfl)))
 case ldb b n x =>
  simp only[A9,C8 (x:=x) λt ht=>hs t (by simp[ROp.slots,ht])];cases hx:get fr x<;>simp only[]
  all_goals
   rw[eQ (hb rfl) (by intro k m i q s h;cases h)];split<;>rfl
 case nilck x=>simp only[A9,C8 (x:=x) λt ht=>hs t (by simp[ROp.slots,ht])];cases get fr x<;>rfl
 case bin op x y=>simp only[A9,C8 (x:=x) λt ht=>hs t (by simp[ROp.slots,ht]),C8 (x:=y) λt ht=>hs t (by simp[ROp.slots,ht])];cases G7 op (get fr x) (get fr y)<;>rfl
 case beq n x y =>
  simp only[A9,C8 (x:=x) λt ht=>hs t (by simp[ROp.slots,ht]),C8 (x:=y) λt ht=>hs t (by simp[ROp.slots,ht])];cases get fr x<;>first|rfl|(cases get fr y<;>rfl)
 case nileq n x=>simp only[A9,C8 (x:=x) λt ht=>hs t (by simp[ROp.slots,ht])];cases get fr x<;>rfl
 case un op x=>simp only[A9,C8 (x:=x) λt ht=>hs t (by simp[ROp.slots,ht])];cases TR op (get fr x)<;>rfl
 case conv k x=>simp only[A9,C8 (x:=x) λt ht=>hs t (by simp[ROp.slots,ht])];cases get fr x<;>rfl
 case cstr x=>simp only[A9,C8 (x:=x) λt ht=>hs t (by simp[ROp.slots,ht])];cases get fr x<;>rfl
 case bstr x=>simp only[A9,So,C8 (x:=x) λt ht=>hs t (by simp[ROp.slots,ht]),TO (hf rfl)];cases AS h 1 (get fr x)<;>first|rfl|(simp only[];split<;>rfl)
 case clos f cs=>obtain rfl:h'=h:=Qb (hb rfl) (hf rfl);simp only[A9,Pu (xs:=cs) λt ht=>hs t (by simpa[ROp.slots]using ht)]
 case mkslice z b l q =>
  simp only[A9,C8 (x:=l) λt ht=>hs t (by simp[ROp.slots,ht]),C8 (x:=q) λt ht=>hs t (by simp[ROp.slots,ht]),hf rfl];cases get fr l<;>first|rfl|(cases get fr q<;>first|rfl|(simp only[];split<;>rfl))
 case mkv z b l q =>
  simp only[A9,jN,C8 (x:=l) λt ht=>hs t (by simp[ROp.slots,ht]),C8 (x:=q) λt ht=>hs t (by simp[ROp.slots,ht])];cases get fr l<;>first|rfl|(cases get fr q<;>first|rfl|(simp only[];split<;>rfl))
 case slc sz x a b m =>
  simp only[A9,C8 (x:=x) λt ht=>hs t (by simp[ROp.slots,ht]),Qv (x:=a) λt ht=>hs t (by simp[ROp.slots,ht]),Qv (x:=b) λt ht=>hs t (by simp[ROp.slots,ht]),Qv (x:=m) λt ht=>hs t (by simp[ROp.slots,ht]),gS (hf rfl)];cases L7 fr a<;>first|rfl|(cases L7 fr b<;>first|rfl|(cases L7 fr m<;>first|rfl|(simp only[];split<;>rfl)))
 case faddr off x=>simp only[A9,C8 (x:=x) λt ht=>hs t (by simp[ROp.slots,ht])];cases get fr x<;>rfl
 case fld b off n x =>
  simp only[A9,C8 (x:=x) λt ht=>hs t (by simp[ROp.slots,ht])];cases get fr x<;>first|rfl|(simp only[];split<;>rfl)
 case iaddr sz x i =>
  simp only[A9,C8 (x:=x) λt ht=>hs t (by simp[ROp.slots,ht]),C8 (x:=i) λt ht=>hs t (by simp[ROp.slots,ht])];cases get fr x<;>first|rfl|(cases get fr i<;>first|rfl|(simp only[];split<;>first|rfl|(split<;>rfl)))
 case idx x i =>
  simp only[A9,C8 (x:=x) λt ht=>hs t (by simp[ROp.slots,ht]),C8 (x:=i) λt ht=>hs t (by simp[ROp.slots,ht])];cases get fr x<;>first|rfl|(cases get fr i<;>first|rfl|(simp only[];split<;>first|rfl|(split<;>rfl)))
 case ext x i =>
  simp only[A9,C8 (x:=x) λt ht=>hs t (by simp[ROp.slots,ht])];cases get fr x<;>first|rfl|(simp only[];split<;>rfl)
 case len b x=>cases b<;>simp only[A9,C8 (x:=x) λt ht=>hs t (by simp[ROp.slots,ht])]<;>cases get fr x<;>rfl
 case app sz b s x =>
  simp only[A9,K3,C8 (x:=s) λt ht=>hs t (by simp[ROp.slots,ht]),C8 (x:=x) λt ht=>hs t (by simp[ROp.slots,ht]),TO (hf rfl),hf rfl];split
  .rfl
  .split
   .split
    .rfl
    .split<;>rfl
   .split
    .split<;>rfl
    .rfl
   .rfl
 case max x y =>
  simp only[A9,C8 (x:=x) λt ht=>hs t (by simp[ROp.slots,ht]),C8 (x:=y) λt ht=>hs t (by simp[ROp.slots,ht])];cases get fr x<;>first|rfl|(cases get fr y<;>first|rfl|(simp only[];split<;>rfl))
end
end Go.Abs
namespace Go.Abs
open Go.RowKit (Below)
section
variable {O:Orc} {c:Ctx}
theorem sA {r:ROp} {fr C3:Fr} {h h' h1:AH} {v:AV} (hs:∀t∈r.slots,C3.getD t C5=fr.getD t C5) (hb:r.looksB=true->h'.boxes=h.boxes) (hf:r.looksF=true->h'.fams=h.fams)
  (he:A9 O c r fr h=some (v,h1)):∃Cw,A9 O c r C3 h'=some (v,Cw)/\(r.writesB c=true->Cw.boxes=h1.boxes)/\(r.writesF c=true->Cw.fams=h1.fams):=by
 by_cases hcall:r.isCall=false
 .have h2:=xq (O:=O) hs hb hf hcall (by rw[he];rfl);rw[he]at h2;cases h3:A9 O c r C3 h' with
  |none=>rw[h3]at h2;cases h2
  |some x =>
   obtain⟨v',Cw⟩:=x;rw[h3]at h2;have:v'=v:=by simpa using h2
   subst this;refine⟨Cw,rfl,λhw=>?_,λhw=>?_⟩
   .cases r<;>simp only[ROp.writesB]at hw<;>try (cases hw;done)
    case call=>simp[ROp.isCall]at hcall
    case callv=>simp[ROp.isCall]at hcall
    case st n a x =>
     obtain rfl:h'=h:=Qb (hb rfl) (hf rfl);simp only[A9,C8 (x:=a) λt ht=>hs t (by simp[ROp.slots,ht]),C8 (x:=x) λt ht=>hs t (by simp[ROp.slots,ht])]at h3 he;rw[h3]at he;cases he;rfl
    case stb n a x =>
     simp only[A9,C8 (x:=a) λt ht=>hs t (by simp[ROp.slots,ht]),C8 (x:=x) λt ht=>hs t (by simp[ROp.slots,ht])]at h3 he;have:=ai (h:=h) (h':=h') (hb rfl) (n:=n) (p:=get fr a) (x:=get fr x);rw[h3,he]at this;simpa using this
    case box x =>
     simp only[A9,C8 (x:=x) λt ht=>hs t (by simp[ROp.slots,ht]),hb rfl]at h3 he;split at he
     .cases he
     .rename_i ht;rw[if_neg ht]at h3;cases he;cases h3;rfl
    case alloc z=>simp only[A9,hb rfl]at h3 he;cases he;cases h3;rfl
    case clos f cs =>
     obtain rfl:h'=h:=Qb (hb rfl) (hf rfl);simp only[A9,Pu (xs:=cs) λt ht=>hs t (by simpa[ROp.slots]using ht)]at h3 he;rw[h3]at he;cases he;rfl
    case mkmap=>simp only[A9,hb rfl]at h3 he;cases he;cases h3;rfl
    case mup str x k w =>
     obtain rfl:h'=h:=Qb (hb rfl) (hf rfl);simp only[A9,C8 (x:=x) λt ht=>hs t (by simp[ROp.slots,ht]),C8 (x:=k) λt ht=>hs t (by simp[ROp.slots,ht]),C8 (x:=w) λt ht=>hs t (by simp[ROp.slots,ht])]at h3 he;rw[h3]at he;cases he;rfl
   .cases r<;>simp only[ROp.writesF]at hw<;>try (cases hw;done)
    case call=>simp[ROp.isCall]at hcall
    case callv=>simp[ROp.isCall]at hcall
    case st n a x =>
     obtain rfl:h'=h:=Qb (hb rfl) (hf rfl);simp only[A9,C8 (x:=a) λt ht=>hs t (by simp[ROp.slots,ht]),C8 (x:=x) λt ht=>hs t (by simp[ROp.slots,ht])]at h3 he;rw[h3]at he;cases he;rfl
    case ste n a x =>
     simp only[A9,C8 (x:=a) λt ht=>hs t (by simp[ROp.slots,ht]),C8 (x:=x) λt ht=>hs t (by simp[ROp.slots,ht])]at h3 he;have:=aj (h:=h) (h':=h') (hf rfl) (n:=n) (p:=get fr a) (x:=get fr x);rw[h3,he]at this;simpa using this
    case clr z x =>
     simp only[A9,C8 (x:=x) λt ht=>hs t (by simp[ROp.slots,ht])]at h3 he;have:=ZY (h:=h) (h':=h') (hf rfl) (z:=z) (x:=get fr x);rw[h3,he]at this;simpa using this
    case mkslice z b l q =>
     simp only[A9,C8 (x:=l) λt ht=>hs t (by simp[ROp.slots,ht]),C8 (x:=q) λt ht=>hs t (by simp[ROp.slots,ht]),hf rfl]at h3 he;split at he
     .rename_i e1 e2;simp only[e1,e2]at h3;split at he
      .rename_i hc;rw[if_pos hc]at h3;cases he;cases h3;rfl
      .cases he
     .cases he
    case app sz b s x =>
     simp only[A9,K3,C8 (x:=s) λt ht=>hs t (by simp[ROp.slots,ht]),C8 (x:=x) λt ht=>hs t (by simp[ROp.slots,ht]),TO (hf rfl),hf rfl]at h3 he;cases Ul:AS h sz (get fr x)with
     |none=>rw[Ul]at he;cases he
     |some ys =>
      rw[Ul]at he h3;dsimp only at he h3;cases hg:get fr s<;>rw[hg]at he h3<;>(try dsimp only at he h3)<;>try (cases he;done)
      case vs full z xs =>
       cases full<;>(try dsimp only at he h3)
       .cases he
       .split at he
        .rename_i hc;rw[if_pos hc]at h3;cases he;cases h3;exact hf rfl
        .rename_i hc;rw[if_neg hc]at h3;split at he
         .rename_i hc2;rw[if_pos hc2]at h3;cases he;cases h3;rfl
         .cases he
      case sl k n off len =>
       cases hk:h.fams[k]? with
       |none=>rw[hk]at he;cases he
       |some f =>
        rw[hk]at he h3;dsimp only at he h3;split at he
        .rename_i hc;rw[if_pos hc]at h3;cases he;cases h3;rfl
        .cases he
 .cases r<;>simp only[ROp.isCall]at hcall<;>try (exact absurd trivial hcall)
  case callv x aas =>
   obtain rfl:h'=h:=Qb (hb rfl) (hf rfl);refine⟨h1,?_,λ_=>rfl,λ_=>rfl⟩;rw[←he];simp only[A9,C8 (x:=x) λt ht=>hs t (by simp only[ROp.slots,A0Q];exact .inl ht),Pu (xs:=aas) λt ht=>hs t (by simp only[ROp.slots,A0Q];exact .inr ht)]
  case call f aas =>
   have ha:aas.map (get C3)=aas.map (get fr):=Pu (xs:=aas) λt ht=>hs t (by simpa[ROp.slots]using ht);obtain rfl:h'=h:=Qb (hb rfl) (hf rfl);exact⟨h1,by rw[←he];simp only[A9,ha],λ_=>rfl,λ_=>rfl⟩
def qi (o:Oper) (acc:List Nat):Nat:=o.after.toList.foldl (λs e=>if Region.binds .any e then s ||| 2 ^ e.on ||| acc.getD e.on 0 else s) 0
theorem Vd:∀(l:List Oper) (acc:List Nat),∃ext,w7 l acc=acc++ext/\ext.length=l.length/\∀(k:Nat) (o:Oper),l[k]?=some o->ext[k]?=some (qi o (acc++ext.take k))
 | [],acc=>⟨[],by simp[w7],rfl,λk o h=>by simp at h⟩
 |o::l,acc=>by
  obtain⟨ext,h1,h2,h3⟩:=Vd l (acc++[qi o acc]);refine⟨qi o acc::ext,?_,by simp[h2],λk o' hk=>?_⟩
  .rw[w7];show w7 l (acc++[qi o acc])=_;rw[h1];simp
  .cases k with
   |zero=>simp at hk;subst hk;simp
   |succ k =>
    have:=h3 k o' (by simpa using hk);simpa using this
theorem Zi {acc:List Nat} {i:Nat}:∀(l:List Edge) (s:Nat),(l.foldl (λs e=>if Region.binds .any e then s ||| 2 ^ e.on ||| acc.getD e.on 0 else s) s).testBit i=true ->
  s.testBit i=true\/∃e∈l,Region.binds .any e=true/\(e.on=i\/(acc.getD e.on 0).testBit i=true)
 | [],s,h=>.inl h
 |e::l,s,h=>by
  simp only[List.foldl_cons]at h;rcases Zi l _ h with h1|⟨e',he',h1⟩
  .split at h1
   .rename_i hb;rw[A0Z,A0Z]at h1;simp only[Bool.or_eq_true]at h1;rcases h1 with (h1|h1)|h1
    .exact .inl h1
    .rw[Nat.testBit_two_pow]at h1;exact .inr ⟨e,by simp,hb,.inl (by simpa using h1)⟩
    .exact .inr ⟨e,by simp,hb,.inr h1⟩
   .exact .inl h1
  .exact .inr ⟨e',by simp[he'],h1⟩
def lm (ops:List Oper) (i j:Nat):Prop:=((w7 ops []).getD j 0).testBit i=true
theorem qg {ops:List Oper} {i j:Nat} (h:lm ops i j):∃o e,ops[j]?=some o/\e∈o.after.toList/\Region.binds .any e=true/\(e.on=i\/lm ops i e.on):=by
 obtain⟨ext,h1,h2,h3⟩:=Vd ops [];simp only[List.nil_append]at h1 h3;unfold lm at h;rw[h1]at h;cases ho:ops[j]? with
 |none =>
  have:ext[j]?=none:=by
   rw[List.getElem?_eq_none_iff]at ho ⊢;omega
  simp[A0a,this]at h
 |some o =>
  have h4:=h3 j o ho;rw[A0a,h4]at h;simp only[Option.getD_some]at h;unfold qi at h;rcases Zi _ _ h with h5|⟨e,he,hb,h5⟩
  .simp at h5
  .refine⟨o,e,rfl,he,hb,?_⟩;rcases h5 with h5|h5
   .exact .inl h5
   .right;unfold lm;rw[h1];have:(ext.take j).getD e.on 0=ext.getD e.on 0\/(ext.take j).getD e.on 0=0:=by
     simp only[A0a,A0W];split
     .exact .inl rfl
     .exact .inr rfl
    rcases this with h6|h6
    .rw[←h6];exact h5
    .rw[h6]at h5;simp at h5
theorem dv:∀{ops:List Oper} {k:Nat},UA ops k=true->∀{j:Nat} {o:Oper} {e:Edge},ops[j]?=some o->e∈o.after.toList->Region.binds .any e=true->e.on<k+j
 | [],_,_,j,o,e,h,_,_=>by simp at h
 |o'::ops,k,h,j,o,e,ho,he,hb=>by
  simp only[UA,A0P]at h;cases j with
  |zero =>
   simp at ho;subst ho;have:=(List.all_eq_true.1 h.1) e he;simp[hb]at this;omega
  |succ j =>
   have:=dv h.2 (j:=j) (o:=o) (by simpa using ho) he hb;omega
end
end Go.Abs
