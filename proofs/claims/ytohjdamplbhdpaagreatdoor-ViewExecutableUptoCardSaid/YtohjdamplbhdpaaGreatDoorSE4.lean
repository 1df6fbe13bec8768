/- A part of the proof. -/
import Derived.Test.YtohjdamplbhdpaaGreatDoorSE3
import Derived.Orders
set_option linter.all false
open Option renaming map_eq_some_iff->A0Z
open Bool renaming and_eq_true->A0a
open List renaming mem_append->A0b,all_cons->A0e,flatMap_cons->A0f,getElem?_eq_some_iff->A0g,getElem?_take->A0h,length_cons->A0i,length_nil->A0j,getD->A0l
open Prod renaming fst->A0c
open Array renaming getD_eq_getD_getElem?->A0d
open Nat renaming testBit_or->A0k
namespace Go.Abs
open Go.RowKit (Below)
section
variable {E:Env} {P:Program} {fr:Fr} {a:Act} {o:Oper} {O:Orc} {c:Ctx}
def ROp.isCall:ROp->Bool
 | .call .. | .callv ..=>true
 |_=>false
theorem pz {el z:AV} {cs:G6} (h:el.reform cs=some z) (hl:cs.length=el.cells.length) (hf:∀x∈cs,x.cells=[x]\/∃aas,el=.agg aas):z.cells=cs:=by
 cases el<;>simp only[AV.reform]at h
 case agg=>cases h;rfl
 all_goals
  simp only[AV.cells,A0i,A0j]at hl;cases cs with
  |nil=>simp at hl
  |cons c r =>
   have hr:r=[]:=by simpa using hl
   subst hr;simp at h;subst h;rcases hf c (by simp)with h' | ⟨aas,h'⟩
   .exact h'
   .cases h'
theorem WR {t:TypeId} {x y:Operand} {x' y':Opd} {n k m i q sz:Nat} {h1:AH} (hS:SR E) (hf:FR E fr a.tmps) (CQ:o.op=.store t x y) (hn:Program.size? P t=some n) (hx:D7 x=some x') (hy:D7 y=some y')
  (hg:get fr x'=.ep k m i q sz) (Hx:JB E.h n (get fr y') k m i q sz=some h1):Pp P a o E C5 h1:=by
 unfold JB at Hx;split at Hx
 .rename_i f hfk;split at Hx
  .rename_i hc;split at Hx
   .rename_i el u Uz hu;split at Hx
    .rename_i hl;simp only[A0Z]at Hx;obtain⟨z,hz,rfl⟩:=Hx;refine qr hS hf CQ hn hx hy hg hfk hc.1 hc.2.1 hc.2.2 Uz hu hl.1 hl.2 (pz hz (by simp[K5];omega) λw hw=>?_);by_cases hag:∃aas,el=.agg aas
     .exact .inr hag
     .refine .inl ?_;have hel1:el.cells=[el]:=by cases el<;>first|rfl|exact absurd ⟨_,rfl⟩ hag
      rw[hel1]at hw hl;simp only[A0i,A0j]at hl;have hF:=hS.fams k f hfk;obtain⟨hPu,hut⟩:=Mq hS (am:=false) (ok':=E.ok) ⟨λ_ _ h=>h,λh=>by cases h⟩ (D9 hf hy) hu;obtain⟨g1,g2⟩:=Qz hPu hut;have hcell:∀{w:AV} {u:Value},PV E.w E.ok w u->u.oneCell'=true->w.cells=[w]:=by
       intro w u h1 h2;cases w<;>first|rfl|(simp only[PV]at h1;obtain⟨us,rfl,_⟩:=h1;simp[Value.oneCell']at h2)
      unfold K5 at hw;simp only[A0b]at hw;rcases hw with (hw|hw)|hw
      .have:=List.mem_of_mem_take hw;simp at this;subst this;exact hel1
      .obtain⟨j,hj⟩:=List.getElem?_of_mem hw;obtain⟨u',k1,k2⟩:=(JW g1).2 hj;exact hcell k2 (g2 u' (List.mem_of_getElem? k1))
      .have:=List.mem_of_mem_drop hw;simp at this;subst this;exact hel1
    .cases Hx
   .cases Hx
  .cases Hx
 .cases Hx
theorem yj {n:Nat} {x y:Opd} {h h':AH} {v:AV} (he:B4 O c (.ste n x y) fr h=some (v,h')):B4 O c (.st n x y) fr h=some (v,h'):=by
 simp only[B4,Ym]at he;split at he
 .rename_i k m i q s hg;split at he
  .rename_i hfl;simp only[B4,hg,MG,bq];rw[RP h false hfl];exact he
  .cases he
 .cases he
theorem yi {n:Nat} {x y:Opd} {h h':AH} {v:AV} (he:B4 O c (.stb n x y) fr h=some (v,h')):B4 O c (.st n x y) fr h=some (v,h'):=by
 simp only[B4,Yl]at he;split at he
 .rename_i b q hg;split at he
  .rename_i cs MA;split at he
   .rename_i hc;cases he;simp only[B4,hg,MG,MA];rw[if_pos hc]
   .cases he
  .cases he
 .cases he
theorem vf (hS:SR E) (hf:FR E fr a.tmps) {r r0:ROp} (hr:u9 P o.op=some r0) (DF:r=r0\/∃m,r=r0.lax m) {v:AV} {h':AH} (G5:B4 O c r fr E.h=some (v,h')) (hnc:r.isCall=false):Pp P a o E v h':=by
 cases CQ:o.op with
 |move x =>
  rw[CQ]at hr;simp only[u9,A0Z]at hr;obtain⟨y,hy,rfl⟩:=hr;obtain rfl:r=.mov y:=by rcases DF with h|⟨_,h⟩<;>exact h
  simp only[B4]at G5;cases G5;exact(wq hf (.inl CQ) hy).does hS
 |assign x =>
  rw[CQ]at hr;simp only[u9,A0Z]at hr;obtain⟨y,hy,rfl⟩:=hr;obtain rfl:r=.mov y:=by rcases DF with h|⟨_,h⟩<;>exact h
  simp only[B4]at G5;cases G5;exact(wq hf (.inr CQ) hy).does hS
 |pick q x y =>
  rw[CQ]at hr;simp only[u9]at hr;split at hr
  .rename_i q' x' y' h1 h2 h3;cases hr;obtain rfl:r=.pick q' x' y':=by rcases DF with h|⟨_,h⟩<;>exact h
   simp only[B4]at G5;split at G5
   .rename_i t ht;cases G5;exact(ya hf CQ h1 h2 h3 ht).does hS
   .cases G5
  .cases hr
 |alloc t =>
  rw[CQ]at hr;simp only[u9,A0Z]at hr;obtain⟨z,hz,rfl⟩:=hr;obtain rfl:r=.alloc z:=by rcases DF with h|⟨_,h⟩<;>exact h
  simp only[B4]at G5;cases G5;exact uo hS CQ hz
 |box t x =>
  rw[CQ]at hr;simp only[u9,A0Z]at hr;obtain⟨y,hy,rfl⟩:=hr;obtain rfl:r=.box y:=by rcases DF with h|⟨_,h⟩<;>exact h
  simp only[B4]at G5;split at G5
  .cases G5
  .rename_i ht;cases G5;exact A0W hS hf CQ hy (by simpa using ht)
 |build t parts =>
  rw[CQ]at hr;simp only[u9]at hr;split at hr
  .rename_i fs zs hu hz;split at hr
   .rename_i hs;simp only[A0Z]at hr;obtain⟨ps,hp,rfl⟩:=hr;obtain rfl:r=.build (.agg zs) ps:=by rcases DF with h|⟨_,h⟩<;>exact h
    simp only[B4,AV.cells]at G5;split at G5
    .rename_i qs hq;cases G5;exact(wC hf CQ hu hz hs hp hq).does hS
    .cases G5
   .cases hr
  .cases hr
 |buildSlice t len parts =>
  rw[CQ]at hr;simp only[u9]at hr;split at hr
  .rename_i e hu;split at hr
   .rename_i z n ps hz hn hp;split at hr
    .rename_i hc;cases hr;have G5:B4 O c (.bslice len z ps) fr E.h=some (v,h'):=by
      rcases DF with rfl|⟨_,rfl⟩
      .exact G5
      .simp only[ROp.lax,B4]at G5;split at G5
       .simp only[B4];exact G5
       .cases G5
     simp only[B4]at G5;split at G5
     .rename_i xs hx;cases G5;exact qo hS hf CQ hu hz hn hc.1 hc.2 hp hx
     .cases G5
    .cases hr
   .cases hr
  .cases hr
 |load t x =>
  rw[CQ]at hr;simp only[u9]at hr;split at hr
  .rename_i b n y hb hn hy;cases hr;have key:∃w,Jd E.h b n (get fr y)=some w/\(w,E.h)=(v,h'):=by
    rcases DF with rfl|⟨_,rfl⟩
    .simp only[B4]at G5;split at G5
     .rename_i w hw;exact⟨w,hw,by simpa using G5⟩
     .cases G5
    .simp only[ROp.lax,B4]at G5;split at G5
     .cases G5
     .split at G5
      .rename_i w hw;exact⟨w,hw,by simpa using G5⟩
      .cases G5
   obtain⟨w,hw,he⟩:=key;cases he;exact(q_ld hS hf CQ hb hn hy hw).does hS
  .cases hr
 |store t x y =>
  rw[CQ]at hr;simp only[u9]at hr;split at hr
  .rename_i n x' y' hn hx hy;cases hr;have G5:B4 O c (.st n x' y') fr E.h=some (v,h'):=by
    rcases DF with rfl|⟨m,rfl⟩
    .exact G5
    .obtain⟨m,mk⟩:=m;cases m with
     |none=>exact G5
     |some b =>
      cases b with
      |true=>exact yj G5
      |false=>exact yi G5
   simp only[B4]at G5;split at G5
   .rename_i h1 Hx;cases G5;unfold MG at Hx;split at Hx
    .rename_i b off hg;split at Hx
     .rename_i cs MA;split at Hx
      .rename_i hc;cases Hx;exact qq hS hf CQ hn hx hy hg MA hc.1 hc.2.1 hc.2.2.1 hc.2.2.2
      .cases Hx
     .cases Hx
    .rename_i k m i q sz hg;split at Hx
     case h_2=>cases Hx
     rename_i h2 hlay;unfold bq at hlay;split at hlay
     .cases hlay;exact WR hS hf CQ hn hx hy hg Hx
     .unfold qC at hlay;split at hlay
      case h_2=>cases hlay
      rename_i k2 n2 off2 len2 hgy;split at hlay
      case h_2=>cases hlay
      rename_i f2 hf2;cases hlay;have hx1:=Yb hf2;obtain⟨nx,u,E',e1,e2,e3,e4,e5,e6⟩:=WR (E:=E.rstFam k2 f2) (qD hS hf2) (hf.ext hx1) CQ hn hx hy hg Hx;exact⟨nx,u,E',e1,e2,hx1.trans e3,e4,e5,e6⟩
    .cases Hx
   .cases G5
  .cases hr
 |nilCheck x =>
  rw[CQ]at hr;simp only[u9,A0Z]at hr;obtain⟨y,hy,rfl⟩:=hr;obtain rfl:r=.nilck y:=by rcases DF with h|⟨_,h⟩<;>exact h
  simp only[B4]at G5;have:h'=E.h:=by split at G5<;>first|(cases G5;rfl)|cases G5
  subst this;exact(wG hf CQ hy G5).does hS
 |binOp op t x y t' =>
  rw[CQ]at hr;simp only[u9]at hr;split at hr
  .rename_i x' y' hx hy;have gen:r0=.bin op x' y'->Pp P a o E v h':=by
    intro h;subst h;obtain rfl:r=.bin op x' y':=by rcases DF with h|⟨_,h⟩<;>exact h
    simp only[B4]at G5;split at G5
    .rename_i w hw;cases G5;exact(q_bin hf CQ hx hy hw).does hS
    .cases G5
   split at hr
   .rename_i ht;cases hr;obtain rfl:r=.beq false x' y':=by rcases DF with h|⟨_,h⟩<;>exact h
    simp only[B4]at G5;split at G5
    .rename_i i j hi hj;cases G5;exact(wo (neg:=false) hf CQ ht hx hy hi hj).does hS
    .cases G5
   .rename_i ht;cases hr;obtain rfl:r=.beq true x' y':=by rcases DF with h|⟨_,h⟩<;>exact h
    simp only[B4]at G5;split at G5
    .rename_i i j hi hj;cases G5;exact(wo (neg:=true) hf CQ ht hx hy hi hj).does hS
    .cases G5
   .rename_i ht;split at hr
    .cases hr;obtain rfl:r=.nileq false x':=by rcases DF with h|⟨_,h⟩<;>exact h
     simp only[B4]at G5;split at G5
     .rename_i hi;cases G5;exact(lk (neg:=false) hf CQ ht hx hy hi).does hS
     .cases G5
    .cases hr
   .rename_i ht;split at hr
    .cases hr;obtain rfl:r=.nileq true x':=by rcases DF with h|⟨_,h⟩<;>exact h
     simp only[B4]at G5;split at G5
     .rename_i hi;cases G5;exact(lk (neg:=true) hf CQ ht hx hy hi).does hS
     .cases G5
    .cases hr
   .cases hr;exact gen rfl
  .cases hr
 |unOp op t x =>
  rw[CQ]at hr;simp only[u9,A0Z]at hr;obtain⟨y,hy,rfl⟩:=hr;obtain rfl:r=.un op y:=by rcases DF with h|⟨_,h⟩<;>exact h
  simp only[B4]at G5;split at G5
  .rename_i w hw;cases G5;exact(q_un hf CQ hy hw).does hS
  .cases G5
 |convert s d x =>
  rw[CQ]at hr;simp only[u9]at hr;split at hr
  .rename_i k0 k hs hd;simp only[A0Z]at hr;obtain⟨y,hy,rfl⟩:=hr;obtain rfl:r=.conv k y:=by rcases DF with h|⟨_,h⟩<;>exact h
   simp only[B4]at G5;split at G5
   .rename_i q n hq;cases G5;exact(yY hf CQ hs hd hy hq).does hS
   .cases G5
  .rename_i hs hd;simp only[A0Z]at hr;obtain⟨y,hy,rfl⟩:=hr;obtain rfl:r=.cstr y:=by rcases DF with h|⟨_,h⟩<;>exact h
   simp only[B4]at G5;split at G5
   .rename_i n hq;cases G5;exact(yZ hf CQ hs hd hy hq).does hS
   .cases G5
  .rename_i e hs hd;split at hr
   .rename_i he;simp only[A0Z]at hr;obtain⟨y,hy,rfl⟩:=hr;obtain rfl:r=.bstr y:=by rcases DF with h|⟨_,h⟩<;>exact h
    simp only[B4]at G5;exact yW hS hf CQ hs hd he hy G5
   .cases hr
  .cases hr
 |makeFunc fn first caps =>
  rw[CQ]at hr;cases fn<;>simp only[u9]at hr<;>try (cases hr;done)
  split at hr
  .rename_i f h0;simp only[A0Z]at hr;obtain⟨cs,hc,rfl⟩:=hr;obtain rfl:r=.clos _ cs:=by rcases DF with h|⟨_,h⟩<;>exact h
   simp only[B4]at G5;split at G5
   .exact qp hS hf CQ h0 hc G5
   .cases G5;exact(yX hf CQ h0 hc).does hS
  .cases hr
 |makeSlice t l q =>
  rw[CQ]at hr;simp only[u9]at hr;split at hr
  .rename_i e hu;split at hr
   .rename_i i z l' q' hi hz hl hq;split at hr
    .rename_i L8;cases hr;have hcase:r=.mkslice z i.bytes l' q'\/r=.mkv z i.bytes l' q':=by
      rcases DF with h|⟨⟨m,mk⟩,h⟩
      .exact .inl h
      .cases mk
       .exact .inl h
       .exact .inr h
     rcases hcase with rfl|rfl
     case inr=>exact A0Y hS hf CQ hu hi hz L8 hl hq G5
     simp only[B4]at G5;split at G5
     .rename_i k1 x k2 y hx hy;split at G5
      .rename_i hc;cases G5;exact mj hS hf CQ hu hi hz L8 hl hq hx hy hc.1 hc.2.1 hc.2.2.1 hc.2.2.2
      .cases G5
     .cases G5
    .cases hr
   .cases hr
  .cases hr
 |slice t x lo hi mx =>
  rw[CQ]at hr;simp only[u9]at hr;split at hr
  .rename_i x' lo' DE ht hx Tj Zx hmx;cases hr;obtain rfl:r=.slc 0 x' lo' DE none:=by rcases DF with h|⟨_,h⟩<;>exact h
   have hmn:mx=none:=by
    cases mx with
    |none=>rfl
    |some m=>simp[Iz]at hmx
   subst hmn;simp only[B4]at G5;split at G5
   .rename_i l u m hl hu hm;simp only[L7]at hm;cases hm;split at G5
    .rename_i w hw;cases G5;unfold Oo at hw;split at hw
     .rename_i s hs;dsimp only at hw;split at hw
      .rename_i hc;cases hw;exact(pq hf CQ ht hx Tj Zx hs hl hu hc.2.2.1 hc.2.2.2.1 hc.2.2.2.2).does hS
      .cases hw
     .simp at hw
     .split at hw<;>simp at hw
     .cases hw
    .cases G5
   .cases G5
  .rename_i e x' lo' DE mx' ht hx Tj Zx hmx;split at hr
   .rename_i n hn;split at hr
    .rename_i L8;cases hr;obtain rfl:r=.slc n x' lo' DE mx':=by rcases DF with h|⟨_,h⟩<;>exact h
     simp only[B4]at G5;split at G5
     .rename_i l u m hl hu hm;split at G5
      .rename_i w hw;cases G5;unfold Oo at hw;split at hw
       .simp[show ¬n=0 from by omega]at hw
       .rename_i full z xs hg;dsimp only at hw;simp only[L8,true_and]at hw;split at hw
        .rename_i hz;split at hw
         .split at hw
          .rename_i hc;cases hw;exact(gM hf CQ ht hn hx Tj Zx hmx hg hl hu hm hz hc.1 hc.2.1 (.inl ⟨rfl,hc.2.2,rfl⟩)).does hS
          .cases hw
         .rename_i q;split at hw
          .rename_i hc;cases hw;exact(gM hf CQ ht hn hx Tj Zx hmx hg hl hu hm hz hc.2.1 hc.2.2.1 (.inr ⟨q,rfl,hc.1,hc.2.2.2.1,hc.2.2.2.2,rfl⟩)).does hS
          .cases hw
        .cases hw
       .rename_i k m0 off len hg;dsimp only at hw;split at hw
        .rename_i f hfk;simp only[L8,true_and]at hw;split at hw
         .rename_i hz;split at hw
          .split at hw
           .rename_i hc;cases hw;exact(gL hS hf CQ ht hn hx Tj Zx hmx hg hl hu hm hfk hz.1 hz.2 (.inl ⟨rfl,hc.1,hc.2.1,hc.2.2,rfl⟩)).does hS
           .cases hw
          .rename_i q;split at hw
           .rename_i hc;cases hw;obtain⟨c1,c2,c3,rfl⟩:=hc;exact(gL hS hf CQ ht hn hx Tj Zx hmx hg hl hu hm hfk hz.1 hz.2 (.inr ⟨rfl,c1,c2,c3,rfl⟩)).does hS
           .cases hw
         .cases hw
        .cases hw
       .cases hw
      .cases G5
     .cases G5
    .cases hr
   .cases hr
  .cases hr
 |fieldAddr s x i =>
  rw[CQ]at hr;simp only[u9]at hr;split at hr
  .rename_i fs x' hs hx;split at hr
   .rename_i f hi;split at hr
    .rename_i n hn;split at hr
     .rename_i L8;cases hr;obtain rfl:r=.faddr f.offset x':=by rcases DF with h|⟨_,h⟩<;>exact h
      simp only[B4]at G5;have:h'=E.h:=by split at G5<;>first|(cases G5;rfl)|cases G5
      subst this;exact(wD hf CQ hs hi hn L8 hx G5).does hS
     .cases hr
    .cases hr
   .cases hr
  .cases hr
 |field s x i =>
  rw[CQ]at hr;simp only[u9]at hr;split at hr
  .rename_i fs x' hs hx;split at hr
   .rename_i f hi;split at hr
    .rename_i b n hb hn;cases hr;obtain rfl:r=.fld b f.offset n x':=by rcases DF with h|⟨_,h⟩<;>exact h
     simp only[B4]at G5;split at G5
     .rename_i cs hg;split at G5
      .rename_i w hw;cases G5;exact(q_fld hf CQ hs hi hb hn hx hg hw).does hS
      .cases G5
     .cases G5
    .cases hr
   .cases hr
  .cases hr
 |indexAddr t x i =>
  rw[CQ]at hr;simp only[u9]at hr;split at hr
  .rename_i e x' i' ht hx hi;split at hr
   .rename_i n hn;split at hr
    .cases hr;obtain rfl:r=.iaddr n x' i':=by rcases DF with h|⟨_,h⟩<;>exact h
     simp only[B4]at G5;have:h'=E.h:=by
      split at G5
      .split at G5
       .split at G5<;>first|(cases G5;rfl)|cases G5
       .cases G5
      .split at G5<;>first|(cases G5;rfl)|cases G5
      .cases G5
     subst this;exact(wE hS hf CQ ht hn hx hi G5).does hS
    .cases hr
   .cases hr
  .cases hr
 |index t x i =>
  rw[CQ]at hr;simp only[u9]at hr;split at hr
  .rename_i x' i' ht hx hi;cases hr;obtain rfl:r=.idx x' i':=by rcases DF with h|⟨_,h⟩<;>exact h
   simp only[B4]at G5;split at G5
   .rename_i s q j hg hj;split at G5
    .rename_i h0;split at G5
     .rename_i b hb;cases G5;exact(q_idx hf CQ ht hx hi hg hj h0 hb).does hS
     .cases G5
    .cases G5
   .cases G5
  .cases hr
 |extract x i =>
  rw[CQ]at hr;simp only[u9,A0Z]at hr;obtain⟨y,hy,rfl⟩:=hr;obtain rfl:r=.ext y i:=by rcases DF with h|⟨_,h⟩<;>exact h
  simp only[B4]at G5;split at G5
  .rename_i vs hg;split at G5
   .rename_i w hw;cases G5;exact(q_ext hf CQ hy hg hw).does hS
   .cases G5
  .cases G5
 |call q =>
  rw[CQ]at hr;obtain⟨callee,args,ats⟩:=q;cases callee with
  |invoke x m=>simp[u9]at hr
  |value x =>
   cases x<;>simp only[u9]at hr<;>try (cases hr;done)
   .simp only[A0Z]at hr;obtain⟨aas,_,rfl⟩:=hr;rcases DF with rfl|⟨_,rfl⟩<;>simp[ROp.isCall,ROp.lax]at hnc
   .split at hr
    .simp only[A0Z]at hr;obtain⟨aas,_,rfl⟩:=hr;rcases DF with rfl|⟨_,rfl⟩<;>simp[ROp.isCall,ROp.lax]at hnc
    .cases hr
  |builtin b =>
   cases b<;>simp only[u9]at hr<;>try (cases hr;done)
   case append =>
    split at hr
    .rename_i s x t u h1 h2;split at hr
     .rename_i e ht;split at hr
      .rename_i i z s' x' hi hz hs hx;split at hr
       .rename_i hc;cases hr;obtain⟨L8,rfl⟩:=hc;obtain rfl:r=.app i.size i.bytes s' x':=by rcases DF with h|⟨_,h⟩<;>exact h
        simp only[B4,K6]at G5;split at G5
        .cases G5
        .rename_i ys Wo;split at G5
         .rename_i z0 xs hg;split at G5
          .rename_i h0;cases G5;have e1:=D9 hf hs;have e1':=e1;rw[hg]at e1;simp only[VR,PV]at e1;obtain⟨base,len,cap,e2,_,e4,_⟩:=e1;obtain⟨ad,cx,f1,_⟩:=Lj hS L8 (D9 hf hx) Wo;refine⟨_,.slice base len cap,E,Lk CQ h1 h2 ?_,.inl rfl,Ext.refl E,hS,rfl,by rw[hg,e2]at e1';exact e1'⟩;rw[e2,f1,h0];exact Qs t _ e i ht hi base ad len cap cx e4 E.w
          .rename_i h0;split at G5
           .rename_i hb;cases G5;exact iW hS hf CQ h1 h2 ht hi hz L8 hs hx hg Wo h0 hb.1 hb.2.1 hb.2.2
           .cases G5
         .rename_i k n off len hg;split at G5
          .rename_i f hfk;split at G5
           .rename_i hb;cases G5;exact mi hS hf CQ h1 h2 ht hi hz L8 hs hx hg Wo hfk hb.1 hb.2.1 hb.2.2.1 hb.2.2.2.1 hb.2.2.2.2
           .cases G5
          .cases G5
         .cases G5
       .cases hr
      .cases hr
     .cases hr
    .cases hr
   case len =>
    split at hr
    .rename_i x t h1 h2;split at hr
     .rename_i ht;simp only[A0Z]at hr;obtain⟨y,hy,rfl⟩:=hr;obtain rfl:r=.len true y:=by rcases DF with h|⟨_,h⟩<;>exact h
      simp only[B4]at G5;split at G5
      .rename_i s hs;cases G5;exact(po hf CQ h1 h2 ht hy hs).does hS
      .cases G5
     .rename_i e ht;simp only[A0Z]at hr;obtain⟨y,hy,rfl⟩:=hr;obtain rfl:r=.len false y:=by rcases DF with h|⟨_,h⟩<;>exact h
      simp only[B4]at G5;have:h'=E.h:=by split at G5<;>first|(cases G5;rfl)|cases G5
      subst this;exact(q_len hf CQ h1 h2 ht hy G5).does hS
     .cases hr
    .cases hr
   case clear =>
    split at hr
    .rename_i x t h1 h2;split at hr
     .rename_i e ht;split at hr
      .rename_i z x' hz hx;cases hr;obtain rfl:r=.clr z x':=by rcases DF with h|⟨_,h⟩<;>exact h
       exact A0X hS hf CQ h1 h2 ht hz hx G5
      .cases hr
     .cases hr
    .cases hr
   case max =>
    split at hr
    .rename_i x y h1;split at hr
     .rename_i x' y' hx hy;cases hr;obtain rfl:r=.max x' y':=by rcases DF with h|⟨_,h⟩<;>exact h
      simp only[B4]at G5;split at G5
      .rename_i k i k' j hi hj;split at G5
       .cases G5;exact(q_max hf CQ h1 hx hy hi hj).does hS
       .cases G5
      .cases G5
     .cases hr
    .cases hr
 |makeMap t q =>
  cases q with
  |some q=>rw[CQ]at hr;simp[u9]at hr
  |none =>
   rw[CQ]at hr;simp only[u9]at hr;split at hr
   .cases hr;obtain rfl:r=.mkmap:=by rcases DF with h|⟨_,h⟩<;>exact h
    simp only[B4]at G5;cases G5;exact uq hS CQ
   .cases hr
 |lookup t x k ok =>
  rw[CQ]at hr;simp only[u9]at hr;split at hr
  .rename_i kt et hu;split at hr
   .rename_i b z x' k' hk hz hx TE;cases hr;obtain rfl:r=.mlook b ok z x' k':=by rcases DF with h|⟨_,h⟩<;>exact h
    simp only[B4]at G5;exact ur hS hf CQ hu hk hz hx TE G5
   .cases hr
  .cases hr
 |mapUpdate t m k x =>
  rw[CQ]at hr;simp only[u9]at hr;split at hr
  .rename_i kt et hu;split at hr
   .rename_i b m' k' x' hk hm TE hx;cases hr;obtain rfl:r=.mup b m' k' x':=by rcases DF with h|⟨_,h⟩<;>exact h
    simp only[B4]at G5;exact wc hS hf (.inl CQ) hu hk hm TE hx G5
   .cases hr
  .cases hr
 |insert t m k x =>
  rw[CQ]at hr;simp only[u9]at hr;split at hr
  .rename_i kt et hu;split at hr
   .rename_i b m' k' x' hk hm TE hx;cases hr;obtain rfl:r=.mup b m' k' x':=by rcases DF with h|⟨_,h⟩<;>exact h
    simp only[B4]at G5;exact wc hS hf (.inr CQ) hu hk hm TE hx G5
   .cases hr
  .cases hr
 |_=>rw[CQ]at hr;simp[u9]at hr
end
mutual
theorem Ps {E E':Env} (hw:E'.w=E.w) (BJ:∀b o,E.ok b o->E'.ok b o) (hf:E'.h.fams=E.h.fams) (him:E'.im=E.im):∀(x:AV) (v:Value),Pg x=true->VR E x v->VR E' x v
 | .agg cs,v,hn,hx=>by
  simp only[VR,Pg]at hx hn ⊢;obtain⟨us,rfl,h1,hu⟩:=hx;exact⟨us,rfl,h1,UF hw BJ hf him cs us.toList hn hu⟩
 | .tup cs,v,hn,hx=>by
  simp only[VR,Pg]at hx hn ⊢;obtain⟨us,rfl,hu⟩:=hx;exact⟨us,rfl,UF hw BJ hf him cs us.toList hn hu⟩
 | .fn f cs,v,hn,hx=>by
  simp only[VR,Pg]at hx hn ⊢;obtain⟨us,rfl,hu⟩:=hx;exact⟨us,rfl,UF hw BJ hf him cs us.toList hn hu⟩
 | .sl k n off len,v,_,hx=>by
  simp only[VR,hf,him]at hx ⊢;exact hx
 | .ep k n i c sz,v,_,hx=>by
  simp only[VR,hf,him]at hx ⊢;exact hx
 | .ptr ..,v,hn,_=>by simp[Pg]at hn
 | .mp _,v,hn,_=>by simp[Pg]at hn
 | .vm ks vs,v,_,hx=>by
  simp only[VR]at hx ⊢;refine EA (λb o h=>⟨BJ b o h,?_⟩) _ _ hx;rw[hw];exact KO.refl _ _ _
 | .vs full sz xs,v,_,hx=>by
  simp only[VR]at hx ⊢;refine EA (λb o h=>⟨BJ b o h,?_⟩) _ _ hx;rw[hw];exact KO.refl _ _ _
 | .pv cs,v,_,hx=>by
  simp only[VR]at hx ⊢;refine EA (λb o h=>⟨BJ b o h,?_⟩) _ _ hx;rw[hw];exact KO.refl _ _ _
 | .mbox ..,v,_,hx=>by simp[VR]at hx
 | .rbox _,v,_,hx=>by simp[VR]at hx
 | .nilm,v,_,hx=>by simpa[VR]using hx
 | .junk,v,_,hx=>by simpa[VR]using hx
 | .bool b,v,_,hx=>by simpa[VR]using hx
 | .int k n,v,_,hx=>by simpa[VR]using hx
 | .str s,v,_,hx=>by simpa[VR]using hx
 | .nilp,v,_,hx=>by simpa[VR]using hx
 | .nilf,v,_,hx=>by simpa[VR]using hx
theorem UF {E E':Env} (hw:E'.w=E.w) (BJ:∀b o,E.ok b o->E'.ok b o) (hf:E'.h.fams=E.h.fams) (him:E'.im=E.im):∀(cs:G6) (us:List Value),VV cs=true->Bm E cs us->Bm E' cs us
 | [],us,_,hx=>by simpa[Bm]using hx
 |c::cs,us,hn,hx=>by
  simp only[Bm,VV,A0a]at hx hn ⊢;obtain⟨u,us',rfl,h1,h2⟩:=hx;exact⟨u,us',rfl,Ps hw BJ hf him c u hn.1 h1,UF hw BJ hf him cs us' hn.2 h2⟩
end
mutual
theorem uY {E0 E E':Env} (hw:E'.w=E.w) (BJ:∀b o,E.ok b o->E'.ok b o) (hf:E'.h.fams=E.h.fams) (him:E'.im=E.im) (hnb:E'.nb=E.nb) (hbl:E'.h.boxes.length=E0.h.boxes.length):∀(x:AV) (v0 v:Value),VR E0 x v0->VR E x v->VR E' x v
 | .agg cs,v0,v,h0,hx=>by
  simp only[VR]at h0 hx ⊢;obtain⟨us0,-,-,hu0⟩:=h0;obtain⟨us,rfl,h1,hu⟩:=hx;exact⟨us,rfl,h1,RD hw BJ hf him hnb hbl cs us0.toList us.toList hu0 hu⟩
 | .tup cs,v0,v,h0,hx=>by
  simp only[VR]at h0 hx ⊢;obtain⟨us0,-,hu0⟩:=h0;obtain⟨us,rfl,hu⟩:=hx;exact⟨us,rfl,RD hw BJ hf him hnb hbl cs us0.toList us.toList hu0 hu⟩
 | .fn f cs,v0,v,h0,hx=>by
  simp only[VR]at h0 hx ⊢;obtain⟨us0,-,hu0⟩:=h0;obtain⟨us,rfl,hu⟩:=hx;exact⟨us,rfl,RD hw BJ hf him hnb hbl cs us0.toList us.toList hu0 hu⟩
 | .ptr b o,v0,v,h0,hx=>by
  simp only[VR]at h0 hx ⊢;exact⟨by rw[hbl];exact h0.1,by rw[hnb];exact hx.2⟩
 | .mp b,v0,v,h0,hx=>by
  simp only[VR]at h0 hx ⊢;exact⟨by rw[hbl];exact h0.1,by rw[hnb];exact hx.2⟩
 | .sl k n off len,v0,v,_,hx=>Ps hw BJ hf him _ _ rfl hx
 | .ep k n i c sz,v0,v,_,hx=>Ps hw BJ hf him _ _ rfl hx
 | .vm ks vs,v0,v,_,hx=>Ps hw BJ hf him _ _ rfl hx
 | .vs full sz xs,v0,v,_,hx=>Ps hw BJ hf him _ _ rfl hx
 | .pv cs,v0,v,_,hx=>Ps hw BJ hf him _ _ rfl hx
 | .mbox ..,v0,v,_,hx=>by simp[VR]at hx
 | .rbox _,v0,v,_,hx=>by simp[VR]at hx
 | .nilm,v0,v,_,hx=>by simpa[VR]using hx
 | .junk,v0,v,_,hx=>by simpa[VR]using hx
 | .bool b,v0,v,_,hx=>by simpa[VR]using hx
 | .int k n,v0,v,_,hx=>by simpa[VR]using hx
 | .str s,v0,v,_,hx=>by simpa[VR]using hx
 | .nilp,v0,v,_,hx=>by simpa[VR]using hx
 | .nilf,v0,v,_,hx=>by simpa[VR]using hx
theorem RD {E0 E E':Env} (hw:E'.w=E.w) (BJ:∀b o,E.ok b o->E'.ok b o) (hf:E'.h.fams=E.h.fams) (him:E'.im=E.im) (hnb:E'.nb=E.nb) (hbl:E'.h.boxes.length=E0.h.boxes.length):∀(cs:G6) (us0 us:List Value),Bm E0 cs us0->Bm E cs us->Bm E' cs us
 | [],us0,us,_,hx=>by simpa[Bm]using hx
 |c::cs,us0,us,h0,hx=>by
  simp only[Bm]at h0 hx ⊢;obtain⟨u0,us0',rfl,k1,k2⟩:=h0;obtain⟨u,us',rfl,h1,h2⟩:=hx;exact⟨u,us',rfl,uY hw BJ hf him hnb hbl c u0 u k1 h1,RD hw BJ hf him hnb hbl cs us0' us' k2 h2⟩
end
def Env.trim (E:Env) (bx:List (List AV)):Env:={E with h:=⟨bx,E.h.fams⟩}
theorem gx {l bx:List (List AV)} (hb:l.take bx.length=bx):bx.length<=l.length/\∀i,i<bx.length->l[i]?=bx[i]?:=by
 have h1:=congrArg List.length hb;rw[List.length_take]at h1;refine⟨by omega,λi hi=>?_⟩;rw[←hb,A0h,if_pos hi]
theorem dO {E:Env} {bx:List (List AV)} (hb:E.h.boxes.take bx.length=bx) {b o:Nat} (h:E.ok b o):(E.trim bx).ok b o:=by
 obtain⟨h1,h2⟩:=gx hb;rcases h with h|⟨k1,k2,k3,k4⟩
 .exact .inl h
 .refine .inr ⟨k1,k2,λi hi he=>?_,k4⟩;have DE:i<bx.length:=hi;obtain⟨cs,MA⟩:=k3 i (by omega) he;exact⟨cs,by show bx[i]?=_;rw[←h2 i DE];exact MA⟩
theorem uD {E0 E:Env} (he:Ext E0 E) (hb:E.h.boxes.take E0.h.boxes.length=E0.h.boxes):Ext E0 (E.trim E0.h.boxes) :=
 ⟨λb o h=>⟨dO hb (he.cells b o h).1,(he.cells b o h).2⟩,Nat.le_refl _,he.nb,he.fams,he.im,he.base,he.ok0,he.below⟩
theorem wR {E0 E:Env} (h0:SR E0) (h:SR E) (he:Ext E0 E) (hb:E.h.boxes.take E0.h.boxes.length=E0.h.boxes):SR (E.trim E0.h.boxes):=by
 obtain⟨p1,p2⟩:=gx hb;have BJ:∀b o,E.ok b o->(E.trim E0.h.boxes).ok b o:=λb o k=>dO hb k;have Hx:∀b o,E.ok b o->(E.trim E0.h.boxes).ok b o/\KO E.w (E.trim E0.h.boxes).w b o:=λb o k=>⟨BJ b o k,KO.refl _ _ _⟩;refine⟨h.basele,λi cs hi=>?_,λk f hk=>?_,λi j hi hj=>h.inj i j ?_ ?_,h.injf,λi k hi hk=>h.sep i k ?_ hk⟩
 .have DE:E0.h.boxes[i]?=some cs:=hi;have A7:=(A0g.1 DE).1;have hE:E.h.boxes[i]?=some cs:=by rw[p2 i A7];exact DE
  obtain⟨b1,b2⟩:=h.boxes i cs hE;refine⟨b1,?_⟩;rcases b2 with ⟨cur,t,h2,h3,h4⟩|⟨ks,vs,es,clk,e,h2,h3,h4⟩|⟨ys,cur,t,e,h2,h3,h4⟩
  .refine .inl ⟨cur,t,h2,?_,h4⟩;obtain⟨_,c2⟩:=h0.boxes i cs DE;rcases c2 with ⟨cur0,t0,g2,g3,g4⟩|⟨ks,vs,es,clk,e,_⟩|⟨ys,cur0,t0,e,_⟩
   .exact RD (E0:=E0) (E:=E) (E':=E.trim E0.h.boxes) rfl BJ rfl rfl rfl rfl cs _ _ g3 h3
   .subst e;simp only[Bm,VR,false_and,and_false,exists_false]at h3
   .subst e;simp only[Bm,VR,false_and,and_false,exists_false]at h3
  .exact .inr (.inl ⟨ks,vs,es,clk,e,h2,f9 Hx _ _ h3,f9 Hx _ _ h4⟩)
  .exact .inr (.inr ⟨ys,cur,t,e,h2,f9 Hx _ _ h3,h4⟩)
 .have hf:=h.fams k f hk;obtain⟨cur,t,h2,h3,h4⟩:=hf.cells;exact⟨hf.base,hf.sz,hf.lo,hf.room,hf.cap,cur,t,h2,h3,λi x hi hx=>⟨(h4 i x hi hx).1,λc y hc=>by
   obtain⟨v,v1,v2,v3⟩:=(h4 i x hi hx).2 c y hc;exact⟨v,v1,v2,EA Hx _ _ v3⟩⟩⟩
 .have:i<E0.h.boxes.length:=hi;omega
 .have:j<E0.h.boxes.length:=hj;omega
 .have:i<E0.h.boxes.length:=hi;omega
def Qm (P:Program) (O:Orc):Prop :=
 ∀(f:FuncId) (args:List AV) (r:AV),O.pure f args=some r->Program.enterable P f=true /\
  ∀(w:World) (ok0:Nat->Nat->Prop) (vs:Array Value),(∀b o,ok0 b o->b<w.heap.size)->Dq w ok0 args vs.toList ->
   Calls P f vs w λe w'=>∃u,e=.returned u/\Bl w.heap.size w w'/\PV w' (λb o=>ok0 b o\/(w.heap.size<=b/\b<w'.heap.size)) r u
def Yw (P:Program) (O:Orc):Prop :=
 ∀(f:FuncId) (args:List AV) (h:AH) (r:AV) (h':AH),O.raw f args h=some (r,h')->Program.enterable P f=true /\
  ∀(E:Env) (vs:Array Value),SR E->E.h=h->Bm E args vs.toList ->
   Calls P f vs E.w λe w'=>∃u E',e=.returned u/\w'=E'.w/\Ext E E'/\SR E'/\E'.h=h'/\VR E' r u
mutual
theorem Ye {w w':World} {ok ok':Nat->Nat->Prop}:∀{x:AV} {v:Value},x.scalar1=true->PV w ok x v->PV w' ok' x v:=by
 intro x v hs h;cases x<;>simp only[AV.scalar1]at hs<;>first|(cases hs;done)|simpa[PV]using h
end
theorem WN {w w':World} {ok ok':Nat->Nat->Prop}:∀{xs:G6} {vs:List Value},(∀x∈xs,x.scalar1=true)->Dq w ok xs vs->Dq w' ok' xs vs
 | [],vs,_,h=>by simpa[Dq]using h
 |x::xs,vs,hs,h=>by
  simp only[Dq]at h ⊢;obtain⟨u,us,rfl,h1,h2⟩:=h;exact⟨u,us,rfl,Ye (hs x (by simp)) h1,WN (λy hy=>hs y (by simp[hy])) h2⟩
theorem Yd {w w':World} {ok ok':Nat->Nat->Prop} {x:AV} {v:Value} (hs:x.scalar0=true) (h:PV w ok x v):PV w' ok' x v:=by
 unfold AV.scalar0 at hs;split at hs
 .rename_i cs;simp only[PV]at h ⊢;obtain⟨us,rfl,h1,h2⟩:=h;exact⟨us,rfl,h1,WN (by simpa using hs) h2⟩
 .exact Ye hs h
theorem Un {w w':World} {ok ok':Nat->Nat->Prop}:∀{xs:G6} {vs:List Value},(∀x∈xs,x.scalar0=true)->Dq w ok xs vs->Dq w' ok' xs vs
 | [],vs,_,h=>by simpa[Dq]using h
 |x::xs,vs,hs,h=>by
  simp only[Dq]at h ⊢;obtain⟨u,us,rfl,h1,h2⟩:=h;exact⟨u,us,rfl,Yd (hs x (by simp)) h1,Un (λy hy=>hs y (by simp[hy])) h2⟩
theorem qE {w w':World} {ok ok':Nat->Nat->Prop} {x:AV} {v:Value} (hs:x.scalar=true) (h:PV w ok x v):PV w' ok' x v:=by
 unfold AV.scalar at hs;split at hs
 .rename_i vs;simp only[PV]at h ⊢;obtain⟨us,rfl,h2⟩:=h;exact⟨us,rfl,Un (by simpa using hs) h2⟩
 .exact Yd hs h
theorem Zs {h:AH} {x:AV} (ht:KW h x=true):Ev h true x=Ev h false x:=by
 cases x<;>simp only[Ev]
 case mp b=>simp[KW]at ht
 case sl k n off len =>
  unfold KW at ht;cases hf:h.fams[k]? with
  |none=>rfl
  |some f =>
   simp only[hf]at ht ⊢;simp[ht]
theorem Zt {h:AH}:∀{xs:G6},xs.all (KW h)=true->Tf h true xs=Tf h false xs
 | [],_=>rfl
 |x::xs,ht=>by
  simp only[A0e,A0a]at ht;simp only[Tf,Zs ht.1,Zt ht.2]
theorem rH {h:AH} {x:AV} (ht:CS h x=true):KR h true x=KR h false x:=by
 unfold KR;split
 .rename_i cs;rw[Zt (by simpa[CS]using ht)]
 .rename_i hx;refine Zs ?_;unfold CS at ht;split at ht
  .exact absurd rfl (hx _)
  .exact ht
theorem Vv {h:AH}:∀{xs:G6},xs.all (CS h)=true->Bq h true xs=Bq h false xs
 | [],_=>rfl
 |x::xs,ht=>by
  simp only[A0e,A0a]at ht;simp only[Bq,rH ht.1,Vv ht.2]
section
variable {E:Env} {P:Program} {fr:Fr} {a:Act} {o:Oper} {O:Orc} {c:Ctx}
theorem iV (hP:Qm P O) (hR:Yw P O) (hS:SR E) {f:FuncId} {args:G6} {vs:Array Value} {r:AV} {h':AH} (hv:Bm E args vs.toList) (h:Lh O c f args E.h=some (r,h')) :
  Program.enterable P f=true/\Calls P f vs E.w λe w'=>∃u E',e=.returned u/\w'=E'.w/\Ext E E'/\SR E'/\E'.h=h'/\VR E' r u:=by
 unfold Lh at h;split at h
 .obtain⟨DD,e1,e2⟩:=ed h;obtain⟨h1,h2⟩:=hR f args E.h r DD e1;refine⟨h1,?_⟩;rcases e2 with e2|⟨e2,e3,e4⟩
  .subst e2;exact h2 E vs hS rfl hv
  .refine(h2 E vs hS rfl hv).mono λe w' ⟨u,E',k1,k2,k3,k4,k5,k6⟩=>?_;have hb:E'.h.boxes.take E.h.boxes.length=E.h.boxes:=by rw[k5];exact e3
   refine⟨u,E'.trim E.h.boxes,k1,k2,uD k3 hb,wR hS k4 k3 hb,?_,Ps (E:=E') (E':=E'.trim E.h.boxes) rfl (λb o k=>dO hb k) rfl rfl _ _ e2 k6⟩;show (⟨E.h.boxes,E'.h.fams⟩:AH)=h';rw[k5];exact e4.symm
 .split at h
  .cases h
  .rename_i aas has;split at h
   .cases h
   .rename_i q hq;split at h
    .rename_i hc;cases h;obtain⟨h1,h2⟩:=hP f aas r hq;refine⟨h1,?_⟩;by_cases hs:r.scalar=true
     .have hpv:=MY hS (am:=true) (ok':=λb _=>b<E.w.heap.size) ⟨λb o ho=>UX hS ho,λ_ b _ _ hb=>hb⟩ hv has;refine(h2 E.w (λb _=>b<E.w.heap.size) vs (λ_ _ hb=>hb) hpv).mono λe w' ⟨u,he,hb,hu⟩=>?_;exact⟨u,{E with w:=w'},he,rfl,Br hS hb,HV hS hb,rfl,FX _ _ (qE hs hu)⟩
     .have ht:args.all (CS E.h)=true:=by simpa[hs]using hc
      rw[Vv ht]at has;have hpv:=MY hS (am:=false) (ok':=E.ok) ⟨λ_ _ h=>h,λh=>by cases h⟩ hv has;refine(h2 E.w E.ok vs (λb o hb=>UX hS hb) hpv).mono λe w' ⟨u,he,hb,hu⟩=>?_;have hx:=Br hS hb;refine⟨u,{E with w:=w'},he,rfl,hx,HV hS hb,rfl,FX _ _ (EA (λb o ho=>⟨?_,KO.refl _ _ _⟩) _ _ hu)⟩
      rcases ho with ho|ho
      .exact(hx.cells b o ho).1
      .refine .inr ⟨Nat.le_trans hS.basele ho.1,ho.2,λi hi=>?_,λk g hk he=>?_⟩
       .have:=(hS.nb_lt hi).2;intro e;have e':E.nb i=b:=e;omega
       .have:=(hS.im_lt (A0g.1 hk).1).2;have he':(E.im k).b=b:=he;omega
    .cases h
theorem eL {f:FuncId} (he:Program.enterable P f=true) (args:Array Value) (w:World):(callFunc f args).run P w=.ok (.enter f args) w:=by
 unfold Program.enterable at he;unfold callFunc;split at he
 .rename_i fn hfn;simp only[A0a,Bool.not_eq_true']at he;have P4:fn.name≠ "runtime.NumGoroutine":=by simpa using he.2
  have h1:fn.body≠none:=by intro h;rw[h]at he;simp at he
  simp[hfn,P4,h1]
 .cases he
theorem sI {α β:Type} {f:α->β} {x:Option α} {r:β} (h:x.map f=some r):∃y,r=f y:=by
 cases x with
 |none=>cases h
 |some y=>exact⟨y,by simpa using h.symm⟩
def Xd:Op->Bool
 | .call {callee:=.value _,args:=_,argTypes:=_}=>true
 |_=>false
theorem mV {p:Op} {r:ROp} (hr:u9 P p=some r) (hp:Xd p=false):r.isCall=false:=by
 unfold u9 at hr
 repeat' (split at hr)
 all_goals first
  |(cases hr;done)
  |(cases hr;rfl)
  |(obtain⟨y,rfl⟩:=sI hr;rfl)
  |(exfalso;simp[Xd]at hp;done)
theorem op_wp (hP:Qm P O) (hR:Yw P O) (hS:SR E) (hf:FR E fr a.tmps) {r r0:ROp} (hr:u9 P o.op=some r0) (DF:r=r0\/∃m,r=r0.lax m) {v:AV} {h':AH} (G5:B4 O c r fr E.h=some (v,h'))
  {K:Act->World->Prop} {Q:Exit->Act->World->Prop} (hK:∀u E',Ext E E'->SR E'->E'.h=h'->VR E' v u->K (a.put o.dst u) E'.w):o.wp P a E.w K Q:=by
 by_cases hnc:r.isCall=false
 .obtain⟨nx,u,E',h1,h2,h3,h4,h5,h6⟩:=vf (c:=c) hS hf hr DF G5 hnc;unfold Oper.wp;rw[h1];rcases h2 with rfl|⟨rfl,rfl⟩
  .exact hK u E' h3 h4 h5 h6
  .exact hK undef E' h3 h4 h5 h6
 .have hcalls:∀(f:FuncId) (vs:Array Value) (args:List AV),Bm E args vs.toList->Lh O c f args E.h=some (v,h')->(execOp a.eval o).run P E.w=(callFunc f vs).run P E.w->o.wp P a E.w K Q:=by
   intro f vs args hv hc hx;obtain⟨h1,h2⟩:=iV hP hR hS hv hc;unfold Oper.wp;rw[hx,eL h1];refine Calls.mono h2 λe w' ⟨u,E',he,hw,k1,k2,k3,k4⟩=>?_;subst he;subst hw;exact hK u E' k1 k2 k3 k4
  by_cases hp:Xd o.op=false
  .have h1:=mV hr hp;rcases DF with rfl|⟨_,rfl⟩
   .exact absurd h1 hnc
   .refine absurd ?_ hnc;cases r0<;>first|rfl|exact h1|(rename_i m _ _ _;obtain⟨m,mk⟩:=m;cases m with|none=>rfl|some b=>cases b<;>rfl)|(rename_i m _ _ _ _;obtain⟨m,mk⟩:=m;cases mk<;>rfl)
  .cases CQ:o.op<;>rw[CQ]at hp hr<;>try (exact absurd rfl hp)
   rename_i q;obtain⟨callee,args,ats⟩:=q;cases callee with
   |invoke x m=>exact absurd rfl hp
   |builtin b=>exact absurd rfl hp
   |value x =>
    cases x<;>simp only[u9]at hr<;>try (cases hr;done)
    case tmp t =>
     simp only[A0Z]at hr;obtain⟨aas,has,rfl⟩:=hr;obtain rfl:r=.callv (.t t) aas:=by rcases DF with h|⟨_,h⟩<;>exact h
     simp only[B4]at G5;split at G5
     .rename_i f caps hg;have G5:Lh O c f (aas.map (get fr)++caps) E.h=some (v,h'):=by
       split at G5
       .cases G5
       .exact G5
      have hv:=hf.val t;have d7:fr.getD t C5=.fn f caps:=hg;rw[d7]at hv;simp only[VR]at hv;obtain⟨us,e1,e2⟩:=hv;refine hcalls f (args.map a.eval++us) _ ?_ G5 ?_
      .have:=TV (QL hf has) e2;simpa using this
      .simp[execOp,CQ,resolve,Act.eval,e1,Deferred.ofValue,invoke]
     .cases G5
    case func f =>
     split at hr
     .simp only[A0Z]at hr;obtain⟨aas,has,rfl⟩:=hr;obtain rfl:r=.call f aas:=by rcases DF with h|⟨_,h⟩<;>exact h
      simp only[B4]at G5;refine hcalls f (args.map a.eval) _ (QL hf has) G5 ?_;simp[execOp,CQ,resolve,Act.eval,Deferred.ofValue,invoke]
     .cases hr
end
def Rr (O:Orc) (c:Ctx) (o:RO) (fr:Fr) (h:AH):Option (AV×AH) :=
 match Gf fr o.guard with
 |some true=>B4 O c o.op fr h
 |some false=>some (C5,h)
 |none=>none
theorem UN (O:Orc) (c:Ctx) (o:RO) (rest:List RO) (fr:Fr) (h:AH) :
  M0 O c (o::rest) fr h=(Rr O c o fr h).bind λx=>M0 O c rest (put fr o.dst x.1) x.2:=by
 unfold Rr;simp only[M0];cases Gf fr o.guard with
 |none=>rfl
 |some b =>
  cases b with
  |false=>rfl
  |true =>
   dsimp only;cases B4 O c o.op fr h with
   |none=>rfl
   |some x=>rfl
structure RORel (P:Program) (ops:List Oper) (o:Oper) (ro:RO):Prop where
 dst:ro.dst=o.dst
 guard:Uj ops o.guard=some ro.guard
 op:∃r0,u9 P o.op=some r0/\(ro.op=r0\/∃m,ro.op=r0.lax m)
theorem ah {P:Program} {ops:List Oper} {o:Oper} {ro:RO} (h:af P ops o=some ro):RORel P ops o ro:=by
 unfold af at h;split at h
 .rename_i r g h1 h2;cases h;exact⟨rfl,h2,r,h1,.inl rfl⟩
 .cases h
theorem RORel.lax {P:Program} {ops:List Oper} {o:Oper} {ro:RO} (m:Option Bool×Bool) (h:af P ops o=some ro):RORel P ops o (ro.lax m):=by
 unfold af at h;split at h
 .rename_i r g h1 h2;cases h;exact⟨rfl,h2,r,h1,.inr ⟨m,rfl⟩⟩
 .cases h
section
variable {P:Program} {O:Orc} {c:Ctx}
theorem Uu {E:Env} {fr:Fr} {a:Act} (hf:FR E fr a.tmps) {ops:Array Oper} {o:Oper} {g:Option (Nat×Bool)} (hg:Uj ops.toList o.guard=some g) {b:Bool} (hw:Gf fr g=some b) :
  Region.wanted o (yielded ops a.tmps)=b:=by
 unfold Uj at hg;unfold Region.wanted;split at hg
 .rename_i h0;cases hg;simp[Gf]at hw;simp[h0,hw]
 .rename_i j want h0;split at hg
  .rename_i o' ho';split at hg
   .rename_i d hd;cases hg;have hv:=hf.val d;have hy:((ops[j]?).bind (·.dst))=some d:=by
     have:ops[j]?=some o':=by simpa using ho'
     simp[this,hd]
    simp only[h0];simp only[Gf]at hw;unfold yielded;simp only[hy,Option.bind_some];split at hw
    .rename_i b' hb;cases hw;rw[hb]at hv;simp only[VR]at hv;have:a.tmps[d]?=some (.bool b'):=by
      rw[A0d]at hv;cases h1:a.tmps[d]? with
      |none=>rw[h1]at hv;simp[undef]at hv
      |some u=>rw[h1]at hv;simpa using hv
     simp only[this];cases b'<;>cases want<;>rfl
    .rename_i vs hb;cases hw;rw[hb]at hv;simp only[VR]at hv;obtain⟨us,e,_⟩:=hv;have:∀b',a.tmps[d]?≠some (.bool b'):=by
      intro b' h1;rw[A0d,h1]at e;simp at e
     cases h1:a.tmps[d]? with
     |none=>rfl
     |some u =>
      cases u<;>first|rfl|exact absurd h1 (this _)
    .cases hw
   .cases hg
  .cases hg
theorem lw (hP:Qm P O) (hR:Yw P O) {E:Env} {fr:Fr} {a:Act} (hS:SR E) (hf:FR E fr a.tmps) {ops:Array Oper} {o:Oper} {ro:RO} (hr:RORel P ops.toList o ro) {v:AV} {h':AH} (G5:Rr O c ro fr E.h=some (v,h'))
  {K:Act->World->Prop} {Q:Exit->Act->World->Prop} (hK:∀u E',Ext E E'->SR E'->E'.h=h'->VR E' v u->K (a.put o.dst u) E'.w) :
  if Region.wanted o (yielded ops a.tmps)then o.wp P a E.w K Q else K (a.put o.dst undef) E.w:=by
 unfold Rr at G5;split at G5
 .rename_i hw;rw[if_pos (Uu hf hr.guard hw)];obtain⟨r0,h1,h2⟩:=hr.op;exact op_wp hP hR hS hf h1 h2 G5 hK
 .rename_i hw;cases G5;have:=Uu hf hr.guard hw;rw[if_neg (by simp[this])];exact hK undef E (Ext.refl E) hS rfl (FY E)
 .cases G5
theorem fa (hP:Qm P O) (hR:Yw P O) {ops:Array Oper} {Q:Exit->Act->World->Prop} :
  ∀(l:List Oper) (O3:List RO),O3.length=l.length->(∀(i:Nat) (o:Oper) (ro:RO),l[i]?=some o->O3[i]?=some ro->RORel P ops.toList o ro) ->
   ∀(E:Env) (fr:Fr) (a:Act) (C3:Fr) (h':AH),SR E->FR E fr a.tmps->M0 O c O3 fr E.h=some (C3,h') ->
    (∀a' E',Ext E E'->SR E'->E'.h=h'->FR E' C3 a'.tmps->a'.defers=a.defers->Q .normal a' E'.w)->wpList P ops Q l a E.w
 | [],O3,hl,_,E,fr,a,C3,h',hS,hf,G5,hQ=>by
  have:O3=[]:=List.eq_nil_of_length_eq_zero (by simpa using hl);subst this;simp only[M0]at G5;cases G5;exact hQ a E (Ext.refl E) hS rfl hf rfl
 |o::l,O3,hl,hrel,E,fr,a,C3,h',hS,hf,G5,hQ=>by
  cases O3 with
  |nil=>simp at hl
  |cons ro O3 =>
   rw[UN,Option.bind_eq_some_iff]at G5;obtain⟨⟨v,h1⟩,Hx,hrest⟩:=G5;have hr:=hrel 0 o ro rfl rfl;have:=lw (Q:=Q) hP hR hS hf hr Hx (K:=wpList P ops Q l) (λu E' hx hS' he hv=>by
    refine fa hP hR l O3 (by simpa using hl) (λi o' ro' h1 h2=>hrel (i+1) o' ro' (by simpa using h1) (by simpa using h2)) E' (put fr ro.dst v) (a.put o.dst u) C3 h' hS' ?_ (by rw[he];exact hrest) λa' E'' hx' hS'' he' hf' hd=>?_
    .rw[hr.dst];exact FR.put (FR.ext hx hf) o.dst hv
    .refine hQ a' E'' (hx.trans hx') hS'' he' hf' (hd.trans ?_);cases o.dst<;>rfl)
   unfold wpList;split
   .rename_i hw;rw[if_pos hw]at this;exact .inl this
   .rename_i hw;rw[if_neg hw]at this;exact this
end
end Go.Abs
namespace Go.Abs
section
variable {O:Orc} {c:Ctx}
theorem D0 {fr C3:Fr} {x:Opd} (h:∀t∈x.slots,C3.getD t C5=fr.getD t C5):get C3 x=get fr x:=by
 cases x with
 |t n=>exact h n (by simp[Opd.slots])
 |c v=>rfl
theorem QB {fr C3:Fr} {xs:List Opd} (h:∀t∈xs.flatMap Opd.slots,C3.getD t C5=fr.getD t C5):xs.map (get C3)=xs.map (get fr) :=
 List.map_congr_left λx hx=>D0 λt ht=>h t (List.mem_flatMap.2 ⟨x,hx,ht⟩)
theorem PT {fr C3:Fr} {n:Nat}:∀{ps:List (Nat×Nat×Opd)},(∀t∈ps.flatMap (λp=>p.2.2.slots),C3.getD t C5=fr.getD t C5)->C8 C3 n ps=C8 fr n ps
 | [],_=>rfl
 |(off,k,x)::ps,h=>by
  have hx:get C3 x=get fr x:=D0 λt ht=>h t (by simp[ht]);have hr:=PT (n:=n) (ps:=ps) λt ht=>h t (by simp only[A0f,A0b];exact .inr ht);simp only[C8,hx,hr]
theorem TZ {h h':AH} (he:h'.fams=h.fams) (sz:Nat) (x:AV):AY h' sz x=AY h sz x:=by cases x<;>simp only[AY,he]
theorem Kv {fr C3:Fr} {h:AH}:∀{ps:List (Nat×Opd)} {xs:G6},(∀t∈ps.flatMap (λp=>p.2.slots),C3.getD t C5=fr.getD t C5)->A5 C3 h xs ps=A5 fr h xs ps
 | [],xs,_=>rfl
 |(i,x)::ps,xs,hh=>by
  have hx:get C3 x=get fr x:=D0 λt ht=>hh t (by simp[ht]);simp only[A5,hx];split
  .split
   .exact Kv λt ht=>hh t (by simp only[A0f,A0b];exact .inr ht)
   .rfl
  .rfl
theorem Qt {fr:Fr} (h h':AH):∀{ps:List (Nat×Opd)} {xs:G6},ps.all (λp=>OO (get fr p.2))=true->A5 fr h' xs ps=A5 fr h xs ps
 | [],xs,_=>rfl
 |(i,x)::ps,xs,hp=>by
  simp only[A0e,A0a]at hp;simp only[A5,RP h false hp.1,RP h' false hp.1];split
  .split
   .exact Qt h h' hp.2
   .rfl
  .rfl
theorem Vu {fr C3:Fr}:∀{ps:List (Nat×Opd)},(∀t∈ps.flatMap (λp=>p.2.slots),C3.getD t C5=fr.getD t C5)->ps.all (λp=>OO (get C3 p.2))=ps.all (λp=>OO (get fr p.2))
 | [],_=>rfl
 |(i,x)::ps,hh=>by
  have hx:get C3 x=get fr x:=D0 λt ht=>hh t (by simp[ht]);simp only[A0e,hx];rw[Vu (ps:=ps) λt ht=>hh t (by simp only[A0f,A0b];exact .inr ht)]
theorem ZF {h h':AH} (hb:h'.boxes=h.boxes) (x:AV):GZ h' x=GZ h x:=by cases x<;>simp only[GZ,hb]
theorem RF {fr C3:Fr} {x:Option Opd} (h:∀t∈UY x,C3.getD t C5=fr.getD t C5):L7 C3 x=L7 fr x:=by
 cases x with
 |none=>rfl
 |some x=>simp only[L7,D0 (x:=x) h]
theorem gf {h h':AH} (he:h'.fams=h.fams) (sz:Nat) (x:AV) (l u m:Option Int):Oo h' sz x l u m=Oo h sz x l u m:=by
 unfold Oo;rw[he]
theorem eg {h h':AH} (hb:h'.boxes=h.boxes) {b:Bool} {n:Nat} {x:AV} (hx:∀k m i q s,x≠.ep k m i q s):Jd h' b n x=Jd h b n x:=by
 cases x<;>simp only[Jd,hb];exact absurd rfl (hx _ _ _ _ _)
theorem Ql {h h':AH} (hb:h'.boxes=h.boxes) (hf:h'.fams=h.fams):h'=h:=by cases h;cases h';simp_all
theorem TR (r:ROp):r.writesB c=true->r.looksB=true:=by cases r<;>simp[ROp.writesB,ROp.looksB]
theorem TS (r:ROp):r.writesF c=true->r.looksF=true:=by cases r<;>simp[ROp.writesF,ROp.looksF]
theorem TX {f:FuncId} {args:G6} {h h1:AH} {v:AV} (hr:c.raw f=false) (he:Lh O c f args h=some (v,h1)):h1=h:=by
 unfold Lh at he;rw[if_neg (by simp[hr])]at he;split at he
 .cases he
 .split at he
  .cases he
  .split at he
   .cases he;rfl
   .cases he
theorem Rm:∀{xs:G6} {h h':AH} {ys:G6},CR h xs=some (ys,h')->h'.fams=h.fams
 | [],h,h',ys,he=>by simp only[CR]at he;cases he;rfl
 |x::xs,h,h',ys,he=>by
  by_cases hp:∃b off,x=.ptr b off
  .obtain⟨b,off,rfl⟩:=hp;simp only[CR]at he;split at he
   case isFalse=>cases he
   split at he
   case h_2=>cases he
   split at he
   case isFalse=>cases he
   simp only[A0Z]at he;obtain⟨⟨ys',h''⟩,hr,e⟩:=he;cases e;have q:=Rm hr;exact q
  .have hr:CR h (x::xs)=(CR h xs).map λp=>(x::p.1,p.2):=by
    cases x<;>first|rfl|exact absurd ⟨_,_,rfl⟩ hp
   rw[hr]at he;simp only[A0Z]at he;obtain⟨⟨ys',h''⟩,hr,e⟩:=he;cases e;exact Rm hr
theorem cN {r:ROp} {fr:Fr} {h h1:AH} {v:AV} (he:B4 O c r fr h=some (v,h1)):(r.writesB c=false->h1.boxes=h.boxes)/\(r.writesF c=false->h1.fams=h.fams):=by
 have same:h1=h->(r.writesB c=false->h1.boxes=h.boxes)/\(r.writesF c=false->h1.fams=h.fams):=λe=>by subst e;exact⟨λ_=>rfl,λ_=>rfl⟩
 cases r
 case st n a x=>exact⟨(λh=>nomatch h),(λh=>nomatch h)⟩
 case ste n a x =>
  refine⟨λ_=>?_,(λh=>nomatch h)⟩;simp only[B4,Ym,JB]at he
  repeat' (split at he)
  all_goals first
   |(cases he;done)
   |(
     cases he;rename_i Hx
     repeat' (split at Hx)
     all_goals first
      |(cases Hx;done)
      |(
       simp only[A0Z]at Hx;obtain⟨y,_,rfl⟩:=Hx;rfl))
 case stb n a x =>
  refine⟨(λh=>nomatch h),λ_=>?_⟩;simp only[B4,Yl]at he
  repeat' (split at he)
  all_goals first|(cases he;done)|(cases he;rfl)
 case clr z x =>
  refine⟨λ_=>?_,(λh=>nomatch h)⟩;simp only[B4,VM]at he
  repeat' (split at he)
  all_goals first|(cases he;done)|(cases he;rfl)
 case callv x aas =>
  have key:c.rawv=false->h1=h:=by
   intro hr;simp only[B4]at he;split at he
   .rename_i f caps hg;split at he
    .cases he
    .rename_i hc;exact TX (O:=O) (c:=c) (by simpa[hr]using hc) he
   .cases he
  exact⟨λhr=>by rw[key hr],λhr=>by rw[key hr]⟩
 case clos f cs =>
  simp only[B4]at he;split at he
  .rename_i hro;refine⟨λhr=>?_,λ_=>?_⟩
   .simp only[ROp.writesB]at hr;rw[hr]at hro;cases hro
   .simp only[A0Z]at he;obtain⟨⟨ys,h2⟩,hq,he⟩:=he;cases he;exact Rm hq
  .cases he;exact⟨λ_=>rfl,λ_=>rfl⟩
 case mkmap=>simp only[B4]at he;cases he;exact⟨(λh=>nomatch h),(λ_=>rfl)⟩
 case mkv z b l q =>
  refine same ?_;simp only[B4,jX]at he
  repeat' (split at he)
  all_goals first|(cases he;done)|(cases he;rfl)
 case mlook str ok z x k =>
  refine same ?_;simp only[B4,Gq]at he
  repeat' (split at he)
  all_goals first|(cases he;done)|(cases he;rfl)
 case bstr x =>
  refine same ?_;simp only[B4,TD]at he
  repeat' (split at he)
  all_goals first|(cases he;done)|(cases he;rfl)
 case mup str x k w =>
  refine⟨(λh=>nomatch h),λ_=>?_⟩;simp only[B4,ZH]at he
  repeat' (split at he)
  all_goals first|(cases he;done)|(cases he;rfl)
 case box x=>simp only[B4]at he;split at he<;>cases he;exact⟨(λh=>nomatch h),(λ_=>rfl)⟩
 case alloc z=>simp only[B4]at he;cases he;exact⟨(λh=>nomatch h),(λ_=>rfl)⟩
 case mkslice z b l q =>
  simp only[B4]at he;split at he
  .split at he<;>cases he;exact⟨λ_=>rfl,(λh=>nomatch h)⟩
  .cases he
 case app sz b s x =>
  refine⟨λ_=>?_,λh=>nomatch h⟩;simp only[B4,K6]at he
  repeat' (split at he)
  all_goals first|(cases he;done)|(cases he;rfl)
 case len b x =>
  refine same ?_;cases b<;>simp only[B4]at he<;>split at he<;>first|(cases he;done)|(cases he;rfl)
 case call f aas =>
  refine⟨λhr=>?_,λhr=>by rw[TX (O:=O) hr he]⟩;cases hc:c.raw f with
  |false=>rw[TX (O:=O) hc he]
  |true =>
   simp only[ROp.writesB,hc,Bool.true_and,Bool.not_eq_false']at hr;simp only[B4,Lh,hc,if_true,hr]at he;exact nC he
 all_goals
  refine same ?_;simp only[B4]at he
  repeat' (split at he)
  all_goals first|(cases he;done)|(cases he;rfl)
theorem gn {h h':AH} (hf:h'.fams=h.fams) {n:Nat} {x:AV} (hx:OO x=true) {k m i q s:Nat}:(JB h' n x k m i q s).map AH.fams=(JB h n x k m i q s).map AH.fams:=by
 unfold JB;rw[RP h false hx,RP h' false hx,hf];cases h.fams[k]? with
 |none=>rfl
 |some f =>
  dsimp only;split
  .cases f.xs[i]? with
   |none=>rfl
   |some y =>
    dsimp only;split
    .cases y.reform (K5 y.cells q x.cells)<;>simp
    .rfl
  .rfl
theorem au {h h':AH} (hf:h'.fams=h.fams) {n:Nat} {p x:AV}:(Ym h' n p x).map (λr=>(r.1,r.2.fams))=(Ym h n p x).map (λr=>(r.1,r.2.fams)):=by
 cases p<;>try rfl
 rename_i k m i q s;simp only[Ym];split
 .rename_i hx;have:=gn hf (n:=n) hx (k:=k) (m:=m) (i:=i) (q:=q) (s:=s);cases h1:JB h' n x k m i q s with
  |none =>
   cases h2:JB h n x k m i q s with
   |none=>rfl
   |some b=>rw[h1,h2]at this;cases this
  |some a =>
   cases h2:JB h n x k m i q s with
   |none=>rw[h1,h2]at this;cases this
   |some b =>
    rw[h1,h2]at this;simp only[Option.map_some,Option.some.injEq]at this ⊢;rw[this]
 .rfl
theorem ar {h h':AH} (hb:h'.boxes=h.boxes) {n:Nat} {p x:AV}:(Yl h' n p x).map (λr=>(r.1,r.2.boxes))=(Yl h n p x).map (λr=>(r.1,r.2.boxes)):=by
 cases p<;>try rfl
 simp only[Yl,hb]
 repeat' split
 all_goals rfl
theorem Zf {h h':AH} (hf:h'.fams=h.fams) {z x:AV}:(VM h' z x).map (λr=>(r.1,r.2.fams))=(VM h z x).map (λr=>(r.1,r.2.fams)):=by
 cases x<;>try rfl
 case vs=>simp only[VM];split<;>simp[hf]
 case sl =>
  simp only[VM,hf]
  repeat' split
  all_goals rfl
theorem ie {α β:Type} {r r':Option (α×AH)} {g:AH->β} (h:r'.map (λx=>(x.1,g x.2))=r.map (λx=>(x.1,g x.2))):r'.map A0c=r.map A0c:=by
 have:=congrArg (Option.map A0c) h;simpa[Option.map_map,Function.comp_def]using this
theorem tz {h h':AH} (hf:h'.fams=h.fams) {n:Nat} {p x:AV}:(Ym h' n p x).map A0c=(Ym h n p x).map A0c:=ie (g:=AH.fams) (au hf)
theorem tu {h h':AH} (hb:h'.boxes=h.boxes) {n:Nat} {p x:AV}:(Yl h' n p x).map A0c=(Yl h n p x).map A0c:=ie (g:=AH.boxes) (ar hb)
theorem qn {h h':AH} (hf:h'.fams=h.fams) {z x:AV}:(VM h' z x).map A0c=(VM h z x).map A0c:=ie (g:=AH.fams) (Zf hf)
theorem yE {r:ROp} {fr C3:Fr} {h h':AH} (hs:∀t∈r.slots,C3.getD t C5=fr.getD t C5) (hb:r.looksB=true->h'.boxes=h.boxes) (hf:r.looksF=true->h'.fams=h.fams) (hcall:r.isCall=false) :
  ((B4 O c r fr h).isSome=true->(B4 O c r C3 h').map A0c=(B4 O c r fr h).map A0c):=by
 intro hsome;cases r
 case call=>simp[ROp.isCall]at hcall
 case callv=>simp[ROp.isCall]at hcall
 case st n a x=>obtain rfl:h'=h:=Ql (hb rfl) (hf rfl);simp only[B4,D0 (x:=a) λt ht=>hs t (by simp[ROp.slots,ht]),D0 (x:=x) λt ht=>hs t (by simp[ROp.slots,ht])]
 case ste n a x =>
  simp only[B4,D0 (x:=a) λt ht=>hs t (by simp[ROp.slots,ht]),D0 (x:=x) λt ht=>hs t (by simp[ROp.slots,ht])];exact tz (hf rfl)
 case stb n a x =>
  simp only[B4,D0 (x:=a) λt ht=>hs t (by simp[ROp.slots,ht]),D0 (x:=x) λt ht=>hs t (by simp[ROp.slots,ht])];exact tu (hb rfl)
 case clr z x =>
  simp only[B4,D0 (x:=x) λt ht=>hs t (by simp[ROp.slots,ht])];exact qn (hf rfl)
 case ld b n x=>obtain rfl:h'=h:=Ql (hb rfl) (hf rfl);simp only[B4,D0 (x:=x) λt ht=>hs t (by simp[ROp.slots,ht])]
 case mov x=>simp only[B4,D0 (x:=x) λt ht=>hs t (by simp[ROp.slots,ht])];rfl
 case pick q x y=>simp only[B4,D0 (x:=q) λt ht=>hs t (by simp[ROp.slots,ht]),D0 (x:=x) λt ht=>hs t (by simp[ROp.slots,ht]),D0 (x:=y) λt ht=>hs t (by simp[ROp.slots,ht])];cases get fr q<;>rfl
 case box x=>simp only[B4,D0 (x:=x) λt ht=>hs t (by simp[ROp.slots,ht]),hb rfl];split<;>rfl
 case alloc z=>simp only[B4,hb rfl];rfl
 case mkmap=>simp only[B4,hb rfl];rfl
 case mlook str ok z x k =>
  simp only[B4,Gq,D0 (x:=x) λt ht=>hs t (by simp[ROp.slots,ht]),D0 (x:=k) λt ht=>hs t (by simp[ROp.slots,ht]),ZF (hb rfl)]
  repeat' split
  all_goals rfl
 case mup str x k w=>obtain rfl:h'=h:=Ql (hb rfl) (hf rfl);simp only[B4,D0 (x:=x) λt ht=>hs t (by simp[ROp.slots,ht]),D0 (x:=k) λt ht=>hs t (by simp[ROp.slots,ht]),D0 (x:=w) λt ht=>hs t (by simp[ROp.slots,ht])]
 case build z ps=>simp only[B4,PT (ps:=ps) λt ht=>hs t (by simpa[ROp.slots]using ht)];cases C8 fr z.cells.length ps<;>rfl
 case bslice n z ps=>obtain rfl:h'=h:=Ql (hb rfl) (hf rfl);simp only[B4,Kv (ps:=ps) λt ht=>hs t (by simpa[ROp.slots]using ht)]
 case bslicev n z ps =>
  simp only[B4,Vu (ps:=ps) λt ht=>hs t (by simpa[ROp.slots]using ht),Kv (h:=h') (ps:=ps) λt ht=>hs t (by simpa[ROp.slots]using ht)];by_cases hc:(ps.all λp=>OO (get fr p.2))=true
  .rw[if_pos hc,if_pos hc,Qt h h' hc];cases A5 fr h (List.replicate n z) ps<;>rfl
  .rw[if_neg hc,if_neg hc]
 case iaddrv sz x i =>
  simp only[B4,D0 (x:=x) λt ht=>hs t (by simp[ROp.slots,ht]),D0 (x:=i) λt ht=>hs t (by simp[ROp.slots,ht])];cases get fr x<;>first|rfl|(cases get fr i<;>first|rfl|(simp only[];split<;>first|rfl|(split<;>rfl)))
 case ldb b n x =>
  simp only[B4,D0 (x:=x) λt ht=>hs t (by simp[ROp.slots,ht])];cases hx:get fr x<;>simp only[]
  all_goals
   rw[eg (hb rfl) (by intro k m i q s h;cases h)];split<;>rfl
 case nilck x=>simp only[B4,D0 (x:=x) λt ht=>hs t (by simp[ROp.slots,ht])];cases get fr x<;>rfl
 case bin op x y=>simp only[B4,D0 (x:=x) λt ht=>hs t (by simp[ROp.slots,ht]),D0 (x:=y) λt ht=>hs t (by simp[ROp.slots,ht])];cases G8 op (get fr x) (get fr y)<;>rfl
 case beq n x y =>
  simp only[B4,D0 (x:=x) λt ht=>hs t (by simp[ROp.slots,ht]),D0 (x:=y) λt ht=>hs t (by simp[ROp.slots,ht])];cases get fr x<;>first|rfl|(cases get fr y<;>rfl)
 case nileq n x=>simp only[B4,D0 (x:=x) λt ht=>hs t (by simp[ROp.slots,ht])];cases get fr x<;>rfl
 case un op x=>simp only[B4,D0 (x:=x) λt ht=>hs t (by simp[ROp.slots,ht])];cases Tb op (get fr x)<;>rfl
 case conv k x=>simp only[B4,D0 (x:=x) λt ht=>hs t (by simp[ROp.slots,ht])];cases get fr x<;>rfl
 case cstr x=>simp only[B4,D0 (x:=x) λt ht=>hs t (by simp[ROp.slots,ht])];cases get fr x<;>rfl
 case bstr x=>simp only[B4,TD,D0 (x:=x) λt ht=>hs t (by simp[ROp.slots,ht]),TZ (hf rfl)];cases AY h 1 (get fr x)<;>first|rfl|(simp only[];split<;>rfl)
 case clos f cs=>obtain rfl:h'=h:=Ql (hb rfl) (hf rfl);simp only[B4,QB (xs:=cs) λt ht=>hs t (by simpa[ROp.slots]using ht)]
 case mkslice z b l q =>
  simp only[B4,D0 (x:=l) λt ht=>hs t (by simp[ROp.slots,ht]),D0 (x:=q) λt ht=>hs t (by simp[ROp.slots,ht]),hf rfl];cases get fr l<;>first|rfl|(cases get fr q<;>first|rfl|(simp only[];split<;>rfl))
 case mkv z b l q =>
  simp only[B4,jX,D0 (x:=l) λt ht=>hs t (by simp[ROp.slots,ht]),D0 (x:=q) λt ht=>hs t (by simp[ROp.slots,ht])];cases get fr l<;>first|rfl|(cases get fr q<;>first|rfl|(simp only[];split<;>rfl))
 case slc sz x a b m =>
  simp only[B4,D0 (x:=x) λt ht=>hs t (by simp[ROp.slots,ht]),RF (x:=a) λt ht=>hs t (by simp[ROp.slots,ht]),RF (x:=b) λt ht=>hs t (by simp[ROp.slots,ht]),RF (x:=m) λt ht=>hs t (by simp[ROp.slots,ht]),gf (hf rfl)];cases L7 fr a<;>first|rfl|(cases L7 fr b<;>first|rfl|(cases L7 fr m<;>first|rfl|(simp only[];split<;>rfl)))
 case faddr off x=>simp only[B4,D0 (x:=x) λt ht=>hs t (by simp[ROp.slots,ht])];cases get fr x<;>rfl
 case fld b off n x =>
  simp only[B4,D0 (x:=x) λt ht=>hs t (by simp[ROp.slots,ht])];cases get fr x<;>first|rfl|(simp only[];split<;>rfl)
 case iaddr sz x i =>
  simp only[B4,D0 (x:=x) λt ht=>hs t (by simp[ROp.slots,ht]),D0 (x:=i) λt ht=>hs t (by simp[ROp.slots,ht])];cases get fr x<;>first|rfl|(cases get fr i<;>first|rfl|(simp only[];split<;>first|rfl|(split<;>rfl)))
 case idx x i =>
  simp only[B4,D0 (x:=x) λt ht=>hs t (by simp[ROp.slots,ht]),D0 (x:=i) λt ht=>hs t (by simp[ROp.slots,ht])];cases get fr x<;>first|rfl|(cases get fr i<;>first|rfl|(simp only[];split<;>first|rfl|(split<;>rfl)))
 case ext x i =>
  simp only[B4,D0 (x:=x) λt ht=>hs t (by simp[ROp.slots,ht])];cases get fr x<;>first|rfl|(simp only[];split<;>rfl)
 case len b x=>cases b<;>simp only[B4,D0 (x:=x) λt ht=>hs t (by simp[ROp.slots,ht])]<;>cases get fr x<;>rfl
 case app sz b s x =>
  simp only[B4,K6,D0 (x:=s) λt ht=>hs t (by simp[ROp.slots,ht]),D0 (x:=x) λt ht=>hs t (by simp[ROp.slots,ht]),TZ (hf rfl),hf rfl];split
  .rfl
  .split
   .split
    .rfl
    .split<;>rfl
   .split
    .split<;>rfl
    .rfl
   .rfl
 case max x y =>
  simp only[B4,D0 (x:=x) λt ht=>hs t (by simp[ROp.slots,ht]),D0 (x:=y) λt ht=>hs t (by simp[ROp.slots,ht])];cases get fr x<;>first|rfl|(cases get fr y<;>first|rfl|(simp only[];split<;>rfl))
end
end Go.Abs
namespace Go.Abs
open Go.RowKit (Below)
section
variable {O:Orc} {c:Ctx}
theorem sN {r:ROp} {fr C3:Fr} {h h' h1:AH} {v:AV} (hs:∀t∈r.slots,C3.getD t C5=fr.getD t C5) (hb:r.looksB=true->h'.boxes=h.boxes) (hf:r.looksF=true->h'.fams=h.fams)
  (he:B4 O c r fr h=some (v,h1)):∃DD,B4 O c r C3 h'=some (v,DD)/\(r.writesB c=true->DD.boxes=h1.boxes)/\(r.writesF c=true->DD.fams=h1.fams):=by
 by_cases hcall:r.isCall=false
 .have h2:=yE (O:=O) hs hb hf hcall (by rw[he];rfl);rw[he]at h2;cases h3:B4 O c r C3 h' with
  |none=>rw[h3]at h2;cases h2
  |some x =>
   obtain⟨v',DD⟩:=x;rw[h3]at h2;have:v'=v:=by simpa using h2
   subst this;refine⟨DD,rfl,λhw=>?_,λhw=>?_⟩
   .cases r<;>simp only[ROp.writesB]at hw<;>try (cases hw;done)
    case call=>simp[ROp.isCall]at hcall
    case callv=>simp[ROp.isCall]at hcall
    case st n a x =>
     obtain rfl:h'=h:=Ql (hb rfl) (hf rfl);simp only[B4,D0 (x:=a) λt ht=>hs t (by simp[ROp.slots,ht]),D0 (x:=x) λt ht=>hs t (by simp[ROp.slots,ht])]at h3 he;rw[h3]at he;cases he;rfl
    case stb n a x =>
     simp only[B4,D0 (x:=a) λt ht=>hs t (by simp[ROp.slots,ht]),D0 (x:=x) λt ht=>hs t (by simp[ROp.slots,ht])]at h3 he;have:=ar (h:=h) (h':=h') (hb rfl) (n:=n) (p:=get fr a) (x:=get fr x);rw[h3,he]at this;simpa using this
    case box x =>
     simp only[B4,D0 (x:=x) λt ht=>hs t (by simp[ROp.slots,ht]),hb rfl]at h3 he;split at he
     .cases he
     .rename_i ht;rw[if_neg ht]at h3;cases he;cases h3;rfl
    case alloc z=>simp only[B4,hb rfl]at h3 he;cases he;cases h3;rfl
    case clos f cs =>
     obtain rfl:h'=h:=Ql (hb rfl) (hf rfl);simp only[B4,QB (xs:=cs) λt ht=>hs t (by simpa[ROp.slots]using ht)]at h3 he;rw[h3]at he;cases he;rfl
    case mkmap=>simp only[B4,hb rfl]at h3 he;cases he;cases h3;rfl
    case mup str x k w =>
     obtain rfl:h'=h:=Ql (hb rfl) (hf rfl);simp only[B4,D0 (x:=x) λt ht=>hs t (by simp[ROp.slots,ht]),D0 (x:=k) λt ht=>hs t (by simp[ROp.slots,ht]),D0 (x:=w) λt ht=>hs t (by simp[ROp.slots,ht])]at h3 he;rw[h3]at he;cases he;rfl
   .cases r<;>simp only[ROp.writesF]at hw<;>try (cases hw;done)
    case call=>simp[ROp.isCall]at hcall
    case callv=>simp[ROp.isCall]at hcall
    case st n a x =>
     obtain rfl:h'=h:=Ql (hb rfl) (hf rfl);simp only[B4,D0 (x:=a) λt ht=>hs t (by simp[ROp.slots,ht]),D0 (x:=x) λt ht=>hs t (by simp[ROp.slots,ht])]at h3 he;rw[h3]at he;cases he;rfl
    case ste n a x =>
     simp only[B4,D0 (x:=a) λt ht=>hs t (by simp[ROp.slots,ht]),D0 (x:=x) λt ht=>hs t (by simp[ROp.slots,ht])]at h3 he;have:=au (h:=h) (h':=h') (hf rfl) (n:=n) (p:=get fr a) (x:=get fr x);rw[h3,he]at this;simpa using this
    case clr z x =>
     simp only[B4,D0 (x:=x) λt ht=>hs t (by simp[ROp.slots,ht])]at h3 he;have:=Zf (h:=h) (h':=h') (hf rfl) (z:=z) (x:=get fr x);rw[h3,he]at this;simpa using this
    case mkslice z b l q =>
     simp only[B4,D0 (x:=l) λt ht=>hs t (by simp[ROp.slots,ht]),D0 (x:=q) λt ht=>hs t (by simp[ROp.slots,ht]),hf rfl]at h3 he;split at he
     .rename_i e1 e2;simp only[e1,e2]at h3;split at he
      .rename_i hc;rw[if_pos hc]at h3;cases he;cases h3;rfl
      .cases he
     .cases he
    case app sz b s x =>
     simp only[B4,K6,D0 (x:=s) λt ht=>hs t (by simp[ROp.slots,ht]),D0 (x:=x) λt ht=>hs t (by simp[ROp.slots,ht]),TZ (hf rfl),hf rfl]at h3 he;cases Uz:AY h sz (get fr x)with
     |none=>rw[Uz]at he;cases he
     |some ys =>
      rw[Uz]at he h3;dsimp only at he h3;cases hg:get fr s<;>rw[hg]at he h3<;>(try dsimp only at he h3)<;>try (cases he;done)
      case vs full z xs =>
       cases full<;>(try dsimp only at he h3)
       .cases he
       .split at he
        .rename_i hc;rw[if_pos hc]at h3;cases he;cases h3;exact hf rfl
        .rename_i hc;rw[if_neg hc]at h3;split at he
         .rename_i hc2;rw[if_pos hc2]at h3;cases he;cases h3;rfl
         .cases he
      case sl k n off len =>
       cases hk:h.fams[k]? with
       |none=>rw[hk]at he;cases he
       |some f =>
        rw[hk]at he h3;dsimp only at he h3;split at he
        .rename_i hc;rw[if_pos hc]at h3;cases he;cases h3;rfl
        .cases he
 .cases r<;>simp only[ROp.isCall]at hcall<;>try (exact absurd trivial hcall)
  case callv x aas =>
   obtain rfl:h'=h:=Ql (hb rfl) (hf rfl);refine⟨h1,?_,λ_=>rfl,λ_=>rfl⟩;rw[←he];simp only[B4,D0 (x:=x) λt ht=>hs t (by simp only[ROp.slots,A0b];exact .inl ht),QB (xs:=aas) λt ht=>hs t (by simp only[ROp.slots,A0b];exact .inr ht)]
  case call f aas =>
   have ha:aas.map (get C3)=aas.map (get fr):=QB (xs:=aas) λt ht=>hs t (by simpa[ROp.slots]using ht);obtain rfl:h'=h:=Ql (hb rfl) (hf rfl);exact⟨h1,by rw[←he];simp only[B4,ha],λ_=>rfl,λ_=>rfl⟩
def qv (o:Oper) (acc:List Nat):Nat:=o.after.toList.foldl (λs e=>if Region.binds .any e then s ||| 2 ^ e.on ||| acc.getD e.on 0 else s) 0
theorem Vq:∀(l:List Oper) (acc:List Nat),∃ext,w9 l acc=acc++ext/\ext.length=l.length/\∀(k:Nat) (o:Oper),l[k]?=some o->ext[k]?=some (qv o (acc++ext.take k))
 | [],acc=>⟨[],by simp[w9],rfl,λk o h=>by simp at h⟩
 |o::l,acc=>by
  obtain⟨ext,h1,h2,h3⟩:=Vq l (acc++[qv o acc]);refine⟨qv o acc::ext,?_,by simp[h2],λk o' hk=>?_⟩
  .rw[w9];show w9 l (acc++[qv o acc])=_;rw[h1];simp
  .cases k with
   |zero=>simp at hk;subst hk;simp
   |succ k =>
    have:=h3 k o' (by simpa using hk);simpa using this
theorem Zp {acc:List Nat} {i:Nat}:∀(l:List Edge) (s:Nat),(l.foldl (λs e=>if Region.binds .any e then s ||| 2 ^ e.on ||| acc.getD e.on 0 else s) s).testBit i=true ->
  s.testBit i=true\/∃e∈l,Region.binds .any e=true/\(e.on=i\/(acc.getD e.on 0).testBit i=true)
 | [],s,h=>.inl h
 |e::l,s,h=>by
  simp only[List.foldl_cons]at h;rcases Zp l _ h with h1|⟨e',he',h1⟩
  .split at h1
   .rename_i hb;rw[A0k,A0k]at h1;simp only[Bool.or_eq_true]at h1;rcases h1 with (h1|h1)|h1
    .exact .inl h1
    .rw[Nat.testBit_two_pow]at h1;exact .inr ⟨e,by simp,hb,.inl (by simpa using h1)⟩
    .exact .inr ⟨e,by simp,hb,.inr h1⟩
   .exact .inl h1
  .exact .inr ⟨e',by simp[he'],h1⟩
def mE (ops:List Oper) (i j:Nat):Prop:=((w9 ops []).getD j 0).testBit i=true
theorem qt {ops:List Oper} {i j:Nat} (h:mE ops i j):∃o e,ops[j]?=some o/\e∈o.after.toList/\Region.binds .any e=true/\(e.on=i\/mE ops i e.on):=by
 obtain⟨ext,h1,h2,h3⟩:=Vq ops [];simp only[List.nil_append]at h1 h3;unfold mE at h;rw[h1]at h;cases ho:ops[j]? with
 |none =>
  have:ext[j]?=none:=by
   rw[List.getElem?_eq_none_iff]at ho ⊢;omega
  simp[A0l,this]at h
 |some o =>
  have h4:=h3 j o ho;rw[A0l,h4]at h;simp only[Option.getD_some]at h;unfold qv at h;rcases Zp _ _ h with h5|⟨e,he,hb,h5⟩
  .simp at h5
  .refine⟨o,e,rfl,he,hb,?_⟩;rcases h5 with h5|h5
   .exact .inl h5
   .right;unfold mE;rw[h1];have:(ext.take j).getD e.on 0=ext.getD e.on 0\/(ext.take j).getD e.on 0=0:=by
     simp only[A0l,A0h];split
     .exact .inl rfl
     .exact .inr rfl
    rcases this with h6|h6
    .rw[←h6];exact h5
    .rw[h6]at h5;simp at h5
theorem eI:∀{ops:List Oper} {k:Nat},UM ops k=true->∀{j:Nat} {o:Oper} {e:Edge},ops[j]?=some o->e∈o.after.toList->Region.binds .any e=true->e.on<k+j
 | [],_,_,j,o,e,h,_,_=>by simp at h
 |o'::ops,k,h,j,o,e,ho,he,hb=>by
  simp only[UM,A0a]at h;cases j with
  |zero =>
   simp at ho;subst ho;have:=(List.all_eq_true.1 h.1) e he;simp[hb]at this;omega
  |succ j =>
   have:=eI h.2 (j:=j) (o:=o) (by simpa using ho) he hb;omega
end
end Go.Abs
