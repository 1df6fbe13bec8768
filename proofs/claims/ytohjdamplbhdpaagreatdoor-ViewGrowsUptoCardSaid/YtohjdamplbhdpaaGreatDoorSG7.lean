/- A part of the proof. -/
import Derived.Test.YtohjdamplbhdpaaGreatDoorSG6
set_option linter.all false
open Option renaming map_eq_some_iff->xk
open Bool renaming and_eq_true->xl
open List renaming getElem?_eq_some_iff->xm,length_cons->xn,length_nil->xo,all_cons->xp
namespace Go.Abs
open Go.RowKit (Below)
section
variable {E:Env} {P:Program} {fr:Fr} {a:Act} {o:Oper} {O:Orc} {c:Ctx}
def ROp.isCall:ROp->Bool
 | .call .. | .callv ..=>true
 |_=>false
theorem eZ {el z:AV} {cs:E6} (h:el.reform cs=some z) (hl:cs.length=el.cells.length) (hf:∀x∈cs,x.cells=[x]\/∃aas,el=.agg aas):z.cells=cs:=by
 cases el<;>simp only[AV.reform]at h
 case agg=>cases h;rfl
 all_goals
  simp only[AV.cells,xn,xo]at hl;cases cs with
  |nil=>simp at hl
  |cons c r =>
   have hr:r=[]:=by simpa using hl
   subst hr;simp at h;subst h;rcases hf c (by simp)with h' | ⟨aas,h'⟩
   .exact h'
   .cases h'
theorem Qm {t:TypeId} {x y:Operand} {x' y':Opd} {n k m i q sz:Nat} {h1:AH} (hS:SR E) (hf:FR E fr a.tmps) (Ad:o.op=.store t x y) (hn:Program.size? P t=some n) (hx:C5 x=some x') (hy:C5 y=some y')
  (hg:get fr x'=.ep k m i q sz) (DH:Ew E.h n (get fr y') k m i q sz=some h1):JZ P a o E A9 h1:=by
 unfold Ew at DH;split at DH
 .rename_i f hfk;split at DH
  .rename_i hc;split at DH
   .rename_i el u Pj hu;split at DH
    .rename_i hl;simp only[xk]at DH;obtain⟨z,hz,rfl⟩:=DH;refine fl hS hf Ad hn hx hy hg hfk hc.1 hc.2.1 hc.2.2 Pj hu hl.1 hl.2 (eZ hz (by simp[I9];omega) λw hw=>?_);by_cases hag:∃aas,el=.agg aas
     .exact .inr hag
     .refine .inl ?_;have hel1:el.cells=[el]:=by cases el<;>first|rfl|exact absurd ⟨_,rfl⟩ hag
      rw[hel1]at hw hl;simp only[xn,xo]at hl;have hF:=hS.fams k f hfk;obtain⟨hPu,hut⟩:=IC hS (am:=false) (ok':=E.ok) ⟨λ_ _ h=>h,λh=>by cases h⟩ (C6 hf hy) hu;obtain⟨g1,g2⟩:=Lv hPu hut;have hcell:∀{w:AV} {u:Value},PV E.w E.ok w u->u.oneCell'=true->w.cells=[w]:=by
       intro w u h1 h2;cases w<;>first|rfl|(simp only[PV]at h1;obtain⟨us,rfl,_⟩:=h1;simp[Value.oneCell']at h2)
      unfold I9 at hw;simp only[List.mem_append]at hw;rcases hw with (hw|hw)|hw
      .have:=List.mem_of_mem_take hw;simp at this;subst this;exact hel1
      .obtain⟨j,hj⟩:=List.getElem?_of_mem hw;obtain⟨u',k1,k2⟩:=(Ei g1).2 hj;exact hcell k2 (g2 u' (List.mem_of_getElem? k1))
      .have:=List.mem_of_mem_drop hw;simp at this;subst this;exact hel1
    .cases DH
   .cases DH
  .cases DH
 .cases DH
theorem ob {n:Nat} {x y:Opd} {h h':AH} {v:AV} (he:A2 O c (.ste n x y) fr h=some (v,h')):A2 O c (.st n x y) fr h=some (v,h'):=by
 simp only[A2,Sx]at he;split at he
 .rename_i k m i q s hg;split at he
  .rename_i hfl;simp only[A2,hg,HX,VW];rw[MN h false hfl];exact he
  .cases he
 .cases he
theorem oa {n:Nat} {x y:Opd} {h h':AH} {v:AV} (he:A2 O c (.stb n x y) fr h=some (v,h')):A2 O c (.st n x y) fr h=some (v,h'):=by
 simp only[A2,Sw]at he;split at he
 .rename_i b q hg;split at he
  .rename_i cs HM;split at he
   .rename_i hc;cases he;simp only[A2,hg,HX,HM];rw[if_pos hc]
   .cases he
  .cases he
 .cases he
theorem bP (hS:SR E) (hf:FR E fr a.tmps) {r r0:ROp} (hr:V0 P o.op=some r0) (j9:r=r0\/∃m,r=r0.lax m) {v:AV} {h':AH} (E1:A2 O c r fr E.h=some (v,h')) (hnc:r.isCall=false):JZ P a o E v h':=by
 cases Ad:o.op with
 |move x =>
  rw[Ad]at hr;simp only[V0,xk]at hr;obtain⟨y,hy,rfl⟩:=hr;obtain rfl:r=.mov y:=by rcases j9 with h|⟨_,h⟩<;>exact h
  simp only[A2]at E1;cases E1;exact(lw hf (.inl Ad) hy).does hS
 |assign x =>
  rw[Ad]at hr;simp only[V0,xk]at hr;obtain⟨y,hy,rfl⟩:=hr;obtain rfl:r=.mov y:=by rcases j9 with h|⟨_,h⟩<;>exact h
  simp only[A2]at E1;cases E1;exact(lw hf (.inr Ad) hy).does hS
 |pick q x y =>
  rw[Ad]at hr;simp only[V0]at hr;split at hr
  .rename_i q' x' y' h1 h2 h3;cases hr;obtain rfl:r=.pick q' x' y':=by rcases j9 with h|⟨_,h⟩<;>exact h
   simp only[A2]at E1;split at E1
   .rename_i t ht;cases E1;exact(nj hf Ad h1 h2 h3 ht).does hS
   .cases E1
  .cases hr
 |alloc t =>
  rw[Ad]at hr;simp only[V0,xk]at hr;obtain⟨z,hz,rfl⟩:=hr;obtain rfl:r=.alloc z:=by rcases j9 with h|⟨_,h⟩<;>exact h
  simp only[A2]at E1;cases E1;exact jo hS Ad hz
 |box t x =>
  rw[Ad]at hr;simp only[V0,xk]at hr;obtain⟨y,hy,rfl⟩:=hr;obtain rfl:r=.box y:=by rcases j9 with h|⟨_,h⟩<;>exact h
  simp only[A2]at E1;split at E1
  .cases E1
  .rename_i ht;cases E1;exact rH hS hf Ad hy (by simpa using ht)
 |build t parts =>
  rw[Ad]at hr;simp only[V0]at hr;split at hr
  .rename_i fs zs hu hz;split at hr
   .rename_i hs;simp only[xk]at hr;obtain⟨ps,hp,rfl⟩:=hr;obtain rfl:r=.build (.agg zs) ps:=by rcases j9 with h|⟨_,h⟩<;>exact h
    simp only[A2,AV.cells]at E1;split at E1
    .rename_i qs hq;cases E1;exact(lD hf Ad hu hz hs hp hq).does hS
    .cases E1
   .cases hr
  .cases hr
 |buildSlice t len parts =>
  rw[Ad]at hr;simp only[V0]at hr;split at hr
  .rename_i e hu;split at hr
   .rename_i z n ps hz hn hp;split at hr
    .rename_i hc;cases hr;have E1:A2 O c (.bslice len z ps) fr E.h=some (v,h'):=by
      rcases j9 with rfl|⟨_,rfl⟩
      .exact E1
      .simp only[ROp.lax,A2]at E1;split at E1
       .simp only[A2];exact E1
       .cases E1
     simp only[A2]at E1;split at E1
     .rename_i xs hx;cases E1;exact fi hS hf Ad hu hz hn hc.1 hc.2 hp hx
     .cases E1
    .cases hr
   .cases hr
  .cases hr
 |load t x =>
  rw[Ad]at hr;simp only[V0]at hr;split at hr
  .rename_i b n y hb hn hy;cases hr;have key:∃w,DS E.h b n (get fr y)=some w/\(w,E.h)=(v,h'):=by
    rcases j9 with rfl|⟨_,rfl⟩
    .simp only[A2]at E1;split at E1
     .rename_i w hw;exact⟨w,hw,by simpa using E1⟩
     .cases E1
    .simp only[ROp.lax,A2]at E1;split at E1
     .cases E1
     .split at E1
      .rename_i w hw;exact⟨w,hw,by simpa using E1⟩
      .cases E1
   obtain⟨w,hw,he⟩:=key;cases he;exact(wd hS hf Ad hb hn hy hw).does hS
  .cases hr
 |store t x y =>
  rw[Ad]at hr;simp only[V0]at hr;split at hr
  .rename_i n x' y' hn hx hy;cases hr;have E1:A2 O c (.st n x' y') fr E.h=some (v,h'):=by
    rcases j9 with rfl|⟨m,rfl⟩
    .exact E1
    .obtain⟨m,mk⟩:=m;cases m with
     |none=>exact E1
     |some b =>
      cases b with
      |true=>exact ob E1
      |false=>exact oa E1
   simp only[A2]at E1;split at E1
   .rename_i h1 DH;cases E1;unfold HX at DH;split at DH
    .rename_i b off hg;split at DH
     .rename_i cs HM;split at DH
      .rename_i hc;cases DH;exact fk hS hf Ad hn hx hy hg HM hc.1 hc.2.1 hc.2.2.1 hc.2.2.2
      .cases DH
     .cases DH
    .rename_i k m i q sz hg;split at DH
     case h_2=>cases DH
     rename_i h2 hlay;unfold VW at hlay;split at hlay
     .cases hlay;exact Qm hS hf Ad hn hx hy hg DH
     .unfold ef at hlay;split at hlay
      case h_2=>cases hlay
      rename_i k2 n2 off2 nH hgy;split at hlay
      case h_2=>cases hlay
      rename_i f2 hf2;cases hlay;have hx1:=Sf hf2;obtain⟨nx,u,E',e1,e2,e3,e4,e5,e6⟩:=Qm (E:=E.rstFam k2 f2) (eg hS hf2) (hf.ext hx1) Ad hn hx hy hg DH;exact⟨nx,u,E',e1,e2,hx1.trans e3,e4,e5,e6⟩
    .cases DH
   .cases E1
  .cases hr
 |nilCheck x =>
  rw[Ad]at hr;simp only[V0,xk]at hr;obtain⟨y,hy,rfl⟩:=hr;obtain rfl:r=.nilck y:=by rcases j9 with h|⟨_,h⟩<;>exact h
  simp only[A2]at E1;have:h'=E.h:=by split at E1<;>first|(cases E1;rfl)|cases E1
  subst this;exact(lG hf Ad hy E1).does hS
 |binOp op t x y t' =>
  rw[Ad]at hr;simp only[V0]at hr;split at hr
  .rename_i x' y' hx hy;have gen:r0=.bin op x' y'->JZ P a o E v h':=by
    intro h;subst h;obtain rfl:r=.bin op x' y':=by rcases j9 with h|⟨_,h⟩<;>exact h
    simp only[A2]at E1;split at E1
    .rename_i w hw;cases E1;exact(tD hf Ad hx hy hw).does hS
    .cases E1
   split at hr
   .rename_i ht;cases hr;obtain rfl:r=.beq false x' y':=by rcases j9 with h|⟨_,h⟩<;>exact h
    simp only[A2]at E1;split at E1
    .rename_i i j hi hj;cases E1;exact(lu (neg:=false) hf Ad ht hx hy hi hj).does hS
    .cases E1
   .rename_i ht;cases hr;obtain rfl:r=.beq true x' y':=by rcases j9 with h|⟨_,h⟩<;>exact h
    simp only[A2]at E1;split at E1
    .rename_i i j hi hj;cases E1;exact(lu (neg:=true) hf Ad ht hx hy hi hj).does hS
    .cases E1
   .rename_i ht;split at hr
    .cases hr;obtain rfl:r=.nileq false x':=by rcases j9 with h|⟨_,h⟩<;>exact h
     simp only[A2]at E1;split at E1
     .rename_i hi;cases E1;exact(be (neg:=false) hf Ad ht hx hy hi).does hS
     .cases E1
    .cases hr
   .rename_i ht;split at hr
    .cases hr;obtain rfl:r=.nileq true x':=by rcases j9 with h|⟨_,h⟩<;>exact h
     simp only[A2]at E1;split at E1
     .rename_i hi;cases E1;exact(be (neg:=true) hf Ad ht hx hy hi).does hS
     .cases E1
    .cases hr
   .cases hr;exact gen rfl
  .cases hr
 |unOp op t x =>
  rw[Ad]at hr;simp only[V0,xk]at hr;obtain⟨y,hy,rfl⟩:=hr;obtain rfl:r=.un op y:=by rcases j9 with h|⟨_,h⟩<;>exact h
  simp only[A2]at E1;split at E1
  .rename_i w hw;cases E1;exact(wg hf Ad hy hw).does hS
  .cases E1
 |convert s d x =>
  rw[Ad]at hr;simp only[V0]at hr;split at hr
  .rename_i k0 k hs hd;simp only[xk]at hr;obtain⟨y,hy,rfl⟩:=hr;obtain rfl:r=.conv k y:=by rcases j9 with h|⟨_,h⟩<;>exact h
   simp only[A2]at E1;split at E1
   .rename_i q n hq;cases E1;exact(nh hf Ad hs hd hy hq).does hS
   .cases E1
  .rename_i hs hd;simp only[xk]at hr;obtain⟨y,hy,rfl⟩:=hr;obtain rfl:r=.cstr y:=by rcases j9 with h|⟨_,h⟩<;>exact h
   simp only[A2]at E1;split at E1
   .rename_i n hq;cases E1;exact(ni hf Ad hs hd hy hq).does hS
   .cases E1
  .rename_i e hs hd;split at hr
   .rename_i he;simp only[xk]at hr;obtain⟨y,hy,rfl⟩:=hr;obtain rfl:r=.bstr y:=by rcases j9 with h|⟨_,h⟩<;>exact h
    simp only[A2]at E1;exact nf hS hf Ad hs hd he hy E1
   .cases hr
  .cases hr
 |makeFunc fn first caps =>
  rw[Ad]at hr;cases fn<;>simp only[V0]at hr<;>try (cases hr;done)
  split at hr
  .rename_i f h0;simp only[xk]at hr;obtain⟨cs,hc,rfl⟩:=hr;obtain rfl:r=.clos _ cs:=by rcases j9 with h|⟨_,h⟩<;>exact h
   simp only[A2]at E1;split at E1
   .exact fj hS hf Ad h0 hc E1
   .cases E1;exact(ng hf Ad h0 hc).does hS
  .cases hr
 |makeSlice t l q =>
  rw[Ad]at hr;simp only[V0]at hr;split at hr
  .rename_i e hu;split at hr
   .rename_i i z l' q' hi hz hl hq;split at hr
    .rename_i N7;cases hr;have hcase:r=.mkslice z i.bytes l' q'\/r=.mkv z i.bytes l' q':=by
      rcases j9 with h|⟨⟨m,mk⟩,h⟩
      .exact .inl h
      .cases mk
       .exact .inl h
       .exact .inr h
     rcases hcase with rfl|rfl
     case inr=>exact rK hS hf Ad hu hi hz N7 hl hq E1
     simp only[A2]at E1;split at E1
     .rename_i k1 x k2 y hx hy;split at E1
      .rename_i hc;cases E1;exact cn hS hf Ad hu hi hz N7 hl hq hx hy hc.1 hc.2.1 hc.2.2.1 hc.2.2.2
      .cases E1
     .cases E1
    .cases hr
   .cases hr
  .cases hr
 |slice t x lo hi mx =>
  rw[Ad]at hr;simp only[V0]at hr;split at hr
  .rename_i x' lo' BV ht hx OE UO hmx;cases hr;obtain rfl:r=.slc 0 x' lo' BV none:=by rcases j9 with h|⟨_,h⟩<;>exact h
   have hmn:mx=none:=by
    cases mx with
    |none=>rfl
    |some m=>simp[Ev]at hmx
   subst hmn;simp only[A2]at E1;split at E1
   .rename_i l u m hl hu hm;simp only[O8]at hm;cases hm;split at E1
    .rename_i w hw;cases E1;unfold Jn at hw;split at hw
     .rename_i s hs;dsimp only at hw;split at hw
      .rename_i hc;cases hw;exact(eS hf Ad ht hx OE UO hs hl hu hc.2.2.1 hc.2.2.2.1 hc.2.2.2.2).does hS
      .cases hw
     .simp at hw
     .split at hw<;>simp at hw
     .cases hw
    .cases E1
   .cases E1
  .rename_i e x' lo' BV mx' ht hx OE UO hmx;split at hr
   .rename_i n hn;split at hr
    .rename_i N7;cases hr;obtain rfl:r=.slc n x' lo' BV mx':=by rcases j9 with h|⟨_,h⟩<;>exact h
     simp only[A2]at E1;split at E1
     .rename_i l u m hl hu hm;split at E1
      .rename_i w hw;cases E1;unfold Jn at hw;split at hw
       .simp[show ¬n=0 from by omega]at hw
       .rename_i full z xs hg;dsimp only at hw;simp only[N7,true_and]at hw;split at hw
        .rename_i hz;split at hw
         .split at hw
          .rename_i hc;cases hw;exact(YJ hf Ad ht hn hx OE UO hmx hg hl hu hm hz hc.1 hc.2.1 (.inl ⟨rfl,hc.2.2,rfl⟩)).does hS
          .cases hw
         .rename_i q;split at hw
          .rename_i hc;cases hw;exact(YJ hf Ad ht hn hx OE UO hmx hg hl hu hm hz hc.2.1 hc.2.2.1 (.inr ⟨q,rfl,hc.1,hc.2.2.2.1,hc.2.2.2.2,rfl⟩)).does hS
          .cases hw
        .cases hw
       .rename_i k m0 off len hg;dsimp only at hw;split at hw
        .rename_i f hfk;simp only[N7,true_and]at hw;split at hw
         .rename_i hz;split at hw
          .split at hw
           .rename_i hc;cases hw;exact(YI hS hf Ad ht hn hx OE UO hmx hg hl hu hm hfk hz.1 hz.2 (.inl ⟨rfl,hc.1,hc.2.1,hc.2.2,rfl⟩)).does hS
           .cases hw
          .rename_i q;split at hw
           .rename_i hc;cases hw;obtain⟨c1,c2,c3,rfl⟩:=hc;exact(YI hS hf Ad ht hn hx OE UO hmx hg hl hu hm hfk hz.1 hz.2 (.inr ⟨rfl,c1,c2,c3,rfl⟩)).does hS
           .cases hw
         .cases hw
        .cases hw
       .cases hw
      .cases E1
     .cases E1
    .cases hr
   .cases hr
  .cases hr
 |fieldAddr s x i =>
  rw[Ad]at hr;simp only[V0]at hr;split at hr
  .rename_i fs x' hs hx;split at hr
   .rename_i f hi;split at hr
    .rename_i n hn;split at hr
     .rename_i N7;cases hr;obtain rfl:r=.faddr f.offset x':=by rcases j9 with h|⟨_,h⟩<;>exact h
      simp only[A2]at E1;have:h'=E.h:=by split at E1<;>first|(cases E1;rfl)|cases E1
      subst this;exact(lE hf Ad hs hi hn N7 hx E1).does hS
     .cases hr
    .cases hr
   .cases hr
  .cases hr
 |field s x i =>
  rw[Ad]at hr;simp only[V0]at hr;split at hr
  .rename_i fs x' hs hx;split at hr
   .rename_i f hi;split at hr
    .rename_i b n hb hn;cases hr;obtain rfl:r=.fld b f.offset n x':=by rcases j9 with h|⟨_,h⟩<;>exact h
     simp only[A2]at E1;split at E1
     .rename_i cs hg;split at E1
      .rename_i w hw;cases E1;exact(tF hf Ad hs hi hb hn hx hg hw).does hS
      .cases E1
     .cases E1
    .cases hr
   .cases hr
  .cases hr
 |indexAddr t x i =>
  rw[Ad]at hr;simp only[V0]at hr;split at hr
  .rename_i e x' i' ht hx hi;split at hr
   .rename_i n hn;split at hr
    .cases hr;obtain rfl:r=.iaddr n x' i':=by rcases j9 with h|⟨_,h⟩<;>exact h
     simp only[A2]at E1;have:h'=E.h:=by
      split at E1
      .split at E1
       .split at E1<;>first|(cases E1;rfl)|cases E1
       .cases E1
      .split at E1<;>first|(cases E1;rfl)|cases E1
      .split at E1<;>first|(cases E1;rfl)|cases E1
      .cases E1
     subst this;exact(lF hS hf Ad ht hn hx hi E1).does hS
    .cases hr
   .cases hr
  .cases hr
 |index t x i =>
  rw[Ad]at hr;simp only[V0]at hr;split at hr
  .rename_i x' i' ht hx hi;cases hr;obtain rfl:r=.idx x' i':=by rcases j9 with h|⟨_,h⟩<;>exact h
   simp only[A2]at E1;split at E1
   .rename_i s q j hg hj;split at E1
    .rename_i h0;split at E1
     .rename_i b hb;cases E1;exact(tG hf Ad ht hx hi hg hj h0 hb).does hS
     .cases E1
    .cases E1
   .cases E1
  .cases hr
 |extract x i =>
  rw[Ad]at hr;simp only[V0,xk]at hr;obtain⟨y,hy,rfl⟩:=hr;obtain rfl:r=.ext y i:=by rcases j9 with h|⟨_,h⟩<;>exact h
  simp only[A2]at E1;split at E1
  .rename_i vs hg;split at E1
   .rename_i w hw;cases E1;exact(tE hf Ad hy hg hw).does hS
   .cases E1
  .cases E1
 |call q =>
  rw[Ad]at hr;obtain⟨callee,args,ats⟩:=q;cases callee with
  |invoke x m=>simp[V0]at hr
  |value x =>
   cases x<;>simp only[V0]at hr<;>try (cases hr;done)
   .simp only[xk]at hr;obtain⟨aas,_,rfl⟩:=hr;rcases j9 with rfl|⟨_,rfl⟩<;>simp[ROp.isCall,ROp.lax]at hnc
   .split at hr
    .simp only[xk]at hr;obtain⟨aas,_,rfl⟩:=hr;rcases j9 with rfl|⟨_,rfl⟩<;>simp[ROp.isCall,ROp.lax]at hnc
    .cases hr
  |builtin b =>
   cases b<;>simp only[V0]at hr<;>try (cases hr;done)
   case append =>
    split at hr
    .rename_i s x t u h1 h2;split at hr
     .rename_i e ht;split at hr
      .rename_i i z s' x' hi hz hs hx;split at hr
       .rename_i hc;cases hr;obtain⟨N7,rfl⟩:=hc;obtain rfl:r=.app i.size i.bytes s' x':=by rcases j9 with h|⟨_,h⟩<;>exact h
        simp only[A2,L5]at E1;split at E1
        .cases E1
        .rename_i ys OQ;split at E1
         .rename_i z0 xs hg;split at E1
          .rename_i h0;cases E1;have e1:=C6 hf hs;have e1':=e1;rw[hg]at e1;simp only[VR,PV]at e1;obtain⟨base,len,cap,e2,_,e4,_⟩:=e1;obtain⟨ad,cx,f1,_⟩:=HI hS N7 (C6 hf hx) OQ;refine⟨_,.slice base len cap,E,HJ Ad h1 h2 ?_,.inl rfl,Ext.refl E,hS,rfl,by rw[hg,e2]at e1';exact e1'⟩;rw[e2,f1,h0];exact Lj t _ e i ht hi base ad len cap cx e4 E.w
          .rename_i h0;split at E1
           .rename_i hb;cases E1;exact ZG hS hf Ad h1 h2 ht hi hz N7 hs hx hg OQ h0 hb.1 hb.2.1 hb.2.2
           .cases E1
         .rename_i k n off len hg;split at E1
          .rename_i f hfk;split at E1
           .rename_i hb;cases E1;exact cl hS hf Ad h1 h2 ht hi hz N7 hs hx hg OQ hfk hb.1 hb.2.1 hb.2.2.1 hb.2.2.2.1 hb.2.2.2.2
           .cases E1
          .cases E1
         .cases E1
       .cases hr
      .cases hr
     .cases hr
    .cases hr
   case len =>
    split at hr
    .rename_i x t h1 h2;split at hr
     .rename_i ht;simp only[xk]at hr;obtain⟨y,hy,rfl⟩:=hr;obtain rfl:r=.len true y:=by rcases j9 with h|⟨_,h⟩<;>exact h
      simp only[A2]at E1;split at E1
      .rename_i s hs;cases E1;exact(eR hf Ad h1 h2 ht hy hs).does hS
      .cases E1
     .rename_i e ht;simp only[xk]at hr;obtain⟨y,hy,rfl⟩:=hr;obtain rfl:r=.len false y:=by rcases j9 with h|⟨_,h⟩<;>exact h
      simp only[A2]at E1;have:h'=E.h:=by split at E1<;>first|(cases E1;rfl)|cases E1
      subst this;exact(tH hf Ad h1 h2 ht hy E1).does hS
     .cases hr
    .cases hr
   case clear =>
    split at hr
    .rename_i x t h1 h2;split at hr
     .rename_i e ht;split at hr
      .rename_i z x' hz hx;cases hr;obtain rfl:r=.clr z x':=by rcases j9 with h|⟨_,h⟩<;>exact h
       exact rI hS hf Ad h1 h2 ht hz hx E1
      .cases hr
     .cases hr
    .cases hr
   case max =>
    split at hr
    .rename_i x y h1;split at hr
     .rename_i x' y' hx hy;cases hr;obtain rfl:r=.max x' y':=by rcases j9 with h|⟨_,h⟩<;>exact h
      simp only[A2]at E1;split at E1
      .rename_i k i k' j hi hj;split at E1
       .cases E1;exact(tI hf Ad h1 hx hy hi hj).does hS
       .cases E1
      .cases E1
     .cases hr
    .cases hr
 |makeMap t q =>
  cases q with
  |some q=>rw[Ad]at hr;simp[V0]at hr
  |none =>
   rw[Ad]at hr;simp only[V0]at hr;split at hr
   .cases hr;obtain rfl:r=.mkmap:=by rcases j9 with h|⟨_,h⟩<;>exact h
    simp only[A2]at E1;cases E1;exact jp hS Ad
   .cases hr
 |lookup t x k ok =>
  rw[Ad]at hr;simp only[V0]at hr;split at hr
  .rename_i kt et hu;split at hr
   .rename_i b z x' k' hk hz hx MR;cases hr;obtain rfl:r=.mlook b ok z x' k':=by rcases j9 with h|⟨_,h⟩<;>exact h
    simp only[A2]at E1;exact jq hS hf Ad hu hk hz hx MR E1
   .cases hr
  .cases hr
 |mapUpdate t m k x =>
  rw[Ad]at hr;simp only[V0]at hr;split at hr
  .rename_i kt et hu;split at hr
   .rename_i b m' k' x' hk hm MR hx;cases hr;obtain rfl:r=.mup b m' k' x':=by rcases j9 with h|⟨_,h⟩<;>exact h
    simp only[A2]at E1;exact le hS hf (.inl Ad) hu hk hm MR hx E1
   .cases hr
  .cases hr
 |insert t m k x =>
  rw[Ad]at hr;simp only[V0]at hr;split at hr
  .rename_i kt et hu;split at hr
   .rename_i b m' k' x' hk hm MR hx;cases hr;obtain rfl:r=.mup b m' k' x':=by rcases j9 with h|⟨_,h⟩<;>exact h
    simp only[A2]at E1;exact le hS hf (.inr Ad) hu hk hm MR hx E1
   .cases hr
  .cases hr
 |_=>rw[Ad]at hr;simp[V0]at hr
theorem fd {p:Op} {r:ROp} (hr:V0 P p=some r) (hp:∀t l q,p≠.makeSlice t l q):r.bxd=r:=by
 unfold V0 at hr
 repeat' (split at hr)
 all_goals first
  |(cases hr;done)
  |(exfalso;exact hp _ _ _ rfl)
  |(cases hr;rfl)
  |(simp only[xk]at hr;obtain⟨y,_,rfl⟩:=hr;rfl)
theorem iB (hS:SR E) (hf:FR E fr a.tmps) {r r0:ROp} (hr:V0 P o.op=some r0) (j9:(r=r0\/∃m,r=r0.lax m)\/(r=r0.bxd\/∃m,r=r0.bxd.lax m)) {v:AV} {h':AH} (E1:A2 O c r fr E.h=some (v,h')) (hnc:r.isCall=false):JZ P a o E v h':=by
 rcases j9 with j9|j9
 .exact bP hS hf hr j9 E1 hnc
 .by_cases hp:∃t l q,o.op=.makeSlice t l q
  .obtain⟨t,l,q,Ad⟩:=hp;rw[Ad]at hr;simp only[V0]at hr;split at hr
   .rename_i e hu;split at hr
    .rename_i i z l' q' hi hz hl hq;split at hr
     .rename_i N7;cases hr;obtain rfl:r=.mkb z i.bytes l' q':=by rcases j9 with h|⟨_,h⟩<;>exact h
      simp only[A2]at E1;exact rJ hS hf Ad hu hi hz N7 hl hq E1
     .cases hr
    .cases hr
   .cases hr
  .rw[fd hr λt l q e=>hp ⟨t,l,q,e⟩]at j9;exact bP hS hf hr j9 E1 hnc
end
mutual
theorem Kf {E E':Env} (hw:E'.w=E.w) (AK:∀b o,E.ok b o->E'.ok b o) (hf:E'.h.fams=E.h.fams) (him:E'.im=E.im):∀(x:AV) (v:Value),KO x=true->VR E x v->VR E' x v
 | .agg cs,v,hn,hx=>by
  simp only[VR,KO]at hx hn ⊢;obtain⟨us,rfl,h1,hu⟩:=hx;exact⟨us,rfl,h1,Ob hw AK hf him cs us.toList hn hu⟩
 | .tup cs,v,hn,hx=>by
  simp only[VR,KO]at hx hn ⊢;obtain⟨us,rfl,hu⟩:=hx;exact⟨us,rfl,Ob hw AK hf him cs us.toList hn hu⟩
 | .fn f cs,v,hn,hx=>by
  simp only[VR,KO]at hx hn ⊢;obtain⟨us,rfl,hu⟩:=hx;exact⟨us,rfl,Ob hw AK hf him cs us.toList hn hu⟩
 | .sl k n off len,v,_,hx=>by
  simp only[VR,hf,him]at hx ⊢;exact hx
 | .ep k n i c sz,v,_,hx=>by
  simp only[VR,hf,him]at hx ⊢;exact hx
 | .ptr ..,v,hn,_=>by simp[KO]at hn
 | .mp _,v,hn,_=>by simp[KO]at hn
 | .bsl ..,v,hn,_=>by simp[KO]at hn
 | .vm ks vs,v,_,hx=>by
  simp only[VR]at hx ⊢;refine Bi (λb o h=>⟨AK b o h,?_⟩) _ _ hx;rw[hw];exact GJ.refl _ _ _
 | .vs full sz xs,v,_,hx=>by
  simp only[VR]at hx ⊢;refine Bi (λb o h=>⟨AK b o h,?_⟩) _ _ hx;rw[hw];exact GJ.refl _ _ _
 | .pv cs,v,_,hx=>by
  simp only[VR]at hx ⊢;refine Bi (λb o h=>⟨AK b o h,?_⟩) _ _ hx;rw[hw];exact GJ.refl _ _ _
 | .mbox ..,v,_,hx=>by simp[VR]at hx
 | .rbox _,v,_,hx=>by simp[VR]at hx
 | .nilm,v,_,hx=>by simpa[VR]using hx
 | .junk,v,_,hx=>by simpa[VR]using hx
 | .bool b,v,_,hx=>by simpa[VR]using hx
 | .int k n,v,_,hx=>by simpa[VR]using hx
 | .str s,v,_,hx=>by simpa[VR]using hx
 | .nilp,v,_,hx=>by simpa[VR]using hx
 | .nilf,v,_,hx=>by simpa[VR]using hx
theorem Ob {E E':Env} (hw:E'.w=E.w) (AK:∀b o,E.ok b o->E'.ok b o) (hf:E'.h.fams=E.h.fams) (him:E'.im=E.im):∀(cs:E6) (us:List Value),Pr cs=true->x6 E cs us->x6 E' cs us
 | [],us,_,hx=>by simpa[x6]using hx
 |c::cs,us,hn,hx=>by
  simp only[x6,Pr,xl]at hx hn ⊢;obtain⟨u,us',rfl,h1,h2⟩:=hx;exact⟨u,us',rfl,Kf hw AK hf him c u hn.1 h1,Ob hw AK hf him cs us' hn.2 h2⟩
end
mutual
theorem jd {E0 E E':Env} (hw:E'.w=E.w) (AK:∀b o,E.ok b o->E'.ok b o) (hf:E'.h.fams=E.h.fams) (him:E'.im=E.im) (hnb:E'.nb=E.nb) (hbl:E'.h.boxes.length=E0.h.boxes.length):∀(x:AV) (v0 v:Value),VR E0 x v0->VR E x v->VR E' x v
 | .agg cs,v0,v,h0,hx=>by
  simp only[VR]at h0 hx ⊢;obtain⟨us0,-,-,hu0⟩:=h0;obtain⟨us,rfl,h1,hu⟩:=hx;exact⟨us,rfl,h1,Lz hw AK hf him hnb hbl cs us0.toList us.toList hu0 hu⟩
 | .tup cs,v0,v,h0,hx=>by
  simp only[VR]at h0 hx ⊢;obtain⟨us0,-,hu0⟩:=h0;obtain⟨us,rfl,hu⟩:=hx;exact⟨us,rfl,Lz hw AK hf him hnb hbl cs us0.toList us.toList hu0 hu⟩
 | .fn f cs,v0,v,h0,hx=>by
  simp only[VR]at h0 hx ⊢;obtain⟨us0,-,hu0⟩:=h0;obtain⟨us,rfl,hu⟩:=hx;exact⟨us,rfl,Lz hw AK hf him hnb hbl cs us0.toList us.toList hu0 hu⟩
 | .ptr b o,v0,v,h0,hx=>by
  simp only[VR]at h0 hx ⊢;exact⟨by rw[hbl];exact h0.1,by rw[hnb];exact hx.2⟩
 | .mp b,v0,v,h0,hx=>by
  simp only[VR]at h0 hx ⊢;exact⟨by rw[hbl];exact h0.1,by rw[hnb];exact hx.2⟩
 | .bsl b sz off len,v0,v,h0,hx=>by
  simp only[VR]at h0 hx ⊢;exact⟨by rw[hbl];exact h0.1,by rw[hnb];exact hx.2⟩
 | .sl k n off len,v0,v,_,hx=>Kf hw AK hf him _ _ rfl hx
 | .ep k n i c sz,v0,v,_,hx=>Kf hw AK hf him _ _ rfl hx
 | .vm ks vs,v0,v,_,hx=>Kf hw AK hf him _ _ rfl hx
 | .vs full sz xs,v0,v,_,hx=>Kf hw AK hf him _ _ rfl hx
 | .pv cs,v0,v,_,hx=>Kf hw AK hf him _ _ rfl hx
 | .mbox ..,v0,v,_,hx=>by simp[VR]at hx
 | .rbox _,v0,v,_,hx=>by simp[VR]at hx
 | .nilm,v0,v,_,hx=>by simpa[VR]using hx
 | .junk,v0,v,_,hx=>by simpa[VR]using hx
 | .bool b,v0,v,_,hx=>by simpa[VR]using hx
 | .int k n,v0,v,_,hx=>by simpa[VR]using hx
 | .str s,v0,v,_,hx=>by simpa[VR]using hx
 | .nilp,v0,v,_,hx=>by simpa[VR]using hx
 | .nilf,v0,v,_,hx=>by simpa[VR]using hx
theorem Lz {E0 E E':Env} (hw:E'.w=E.w) (AK:∀b o,E.ok b o->E'.ok b o) (hf:E'.h.fams=E.h.fams) (him:E'.im=E.im) (hnb:E'.nb=E.nb) (hbl:E'.h.boxes.length=E0.h.boxes.length):∀(cs:E6) (us0 us:List Value),x6 E0 cs us0->x6 E cs us->x6 E' cs us
 | [],us0,us,_,hx=>by simpa[x6]using hx
 |c::cs,us0,us,h0,hx=>by
  simp only[x6]at h0 hx ⊢;obtain⟨u0,us0',rfl,k1,k2⟩:=h0;obtain⟨u,us',rfl,h1,h2⟩:=hx;exact⟨u,us',rfl,jd hw AK hf him hnb hbl c u0 u k1 h1,Lz hw AK hf him hnb hbl cs us0' us' k2 h2⟩
end
def Env.trim (E:Env) (bx:List (List AV)):Env:={E with h:=⟨bx,E.h.fams⟩}
theorem Yl {l bx:List (List AV)} (hb:l.take bx.length=bx):bx.length<=l.length/\∀i,i<bx.length->l[i]?=bx[i]?:=by
 have h1:=congrArg List.length hb;rw[List.length_take]at h1;refine⟨by omega,λi hi=>?_⟩;rw[←hb,List.getElem?_take,if_pos hi]
theorem WG {E:Env} {bx:List (List AV)} (hb:E.h.boxes.take bx.length=bx) {b o:Nat} (h:E.ok b o):(E.trim bx).ok b o:=by
 obtain⟨h1,h2⟩:=Yl hb;rcases h with h|⟨k1,k2,k3,k4⟩
 .exact .inl h
 .refine .inr ⟨k1,k2,λi hi he=>?_,k4⟩;have BV:i<bx.length:=hi;obtain⟨cs,HM⟩:=k3 i (by omega) he;exact⟨cs,by show bx[i]?=_;rw[←h2 i BV];exact HM⟩
theorem jJ {E0 E:Env} (he:Ext E0 E) (hb:E.h.boxes.take E0.h.boxes.length=E0.h.boxes):Ext E0 (E.trim E0.h.boxes) :=
 ⟨λb o h=>⟨WG hb (he.cells b o h).1,(he.cells b o h).2⟩,Nat.le_refl _,he.nb,he.fams,he.im,he.base,he.ok0,he.below⟩
theorem lT {E0 E:Env} (h0:SR E0) (h:SR E) (he:Ext E0 E) (hb:E.h.boxes.take E0.h.boxes.length=E0.h.boxes):SR (E.trim E0.h.boxes):=by
 obtain⟨p1,p2⟩:=Yl hb;have AK:∀b o,E.ok b o->(E.trim E0.h.boxes).ok b o:=λb o k=>WG hb k;have DH:∀b o,E.ok b o->(E.trim E0.h.boxes).ok b o/\GJ E.w (E.trim E0.h.boxes).w b o:=λb o k=>⟨AK b o k,GJ.refl _ _ _⟩;refine⟨h.basele,λi cs hi=>?_,λk f hk=>?_,λi j hi hj=>h.inj i j ?_ ?_,h.injf,λi k hi hk=>h.sep i k ?_ hk⟩
 .have BV:E0.h.boxes[i]?=some cs:=hi;have A6:=(xm.1 BV).1;have hE:E.h.boxes[i]?=some cs:=by rw[p2 i A6];exact BV
  obtain⟨b1,b2⟩:=h.boxes i cs hE;refine⟨b1,?_⟩;rcases b2 with ⟨cur,t,h2,h3,h4⟩|⟨ks,vs,es,clk,e,h2,h3,h4⟩|⟨ys,cur,t,e,h2,h3,h4⟩
  .refine .inl ⟨cur,t,h2,?_,h4⟩;obtain⟨_,c2⟩:=h0.boxes i cs BV;rcases c2 with ⟨cur0,t0,g2,g3,g4⟩|⟨ks,vs,es,clk,e,_⟩|⟨ys,cur0,t0,e,_⟩
   .exact Lz (E0:=E0) (E:=E) (E':=E.trim E0.h.boxes) rfl AK rfl rfl rfl rfl cs _ _ g3 h3
   .subst e;simp only[x6,VR,false_and,and_false,exists_false]at h3
   .subst e;simp only[x6,VR,false_and,and_false,exists_false]at h3
  .exact .inr (.inl ⟨ks,vs,es,clk,e,h2,W0 DH _ _ h3,W0 DH _ _ h4⟩)
  .exact .inr (.inr ⟨ys,cur,t,e,h2,W0 DH _ _ h3,h4⟩)
 .have hf:=h.fams k f hk;obtain⟨cur,t,h2,h3,h4⟩:=hf.cells;exact⟨hf.base,hf.sz,hf.lo,hf.room,hf.cap,cur,t,h2,h3,λi x hi hx=>⟨(h4 i x hi hx).1,λc y hc=>by
   obtain⟨v,v1,v2,v3⟩:=(h4 i x hi hx).2 c y hc;exact⟨v,v1,v2,Bi DH _ _ v3⟩⟩⟩
 .have:i<E0.h.boxes.length:=hi;omega
 .have:j<E0.h.boxes.length:=hj;omega
 .have:i<E0.h.boxes.length:=hi;omega
def Ld (P:Program) (O:Orc):Prop :=
 ∀(f:FuncId) (args:List AV) (r:AV),O.pure f args=some r->Program.enterable P f=true /\
  ∀(w:World) (ok0:Nat->Nat->Prop) (vs:Array Value),(∀b o,ok0 b o->b<w.heap.size)->BT w ok0 args vs.toList ->
   Calls P f vs w λe w'=>∃u,e=.returned u/\Bl w.heap.size w w'/\PV w' (λb o=>ok0 b o\/(w.heap.size<=b/\b<w'.heap.size)) r u
def TI (P:Program) (O:Orc):Prop :=
 ∀(f:FuncId) (args:List AV) (h:AH) (r:AV) (h':AH),O.raw f args h=some (r,h')->Program.enterable P f=true /\
  ∀(E:Env) (vs:Array Value),SR E->E.h=h->x6 E args vs.toList ->
   Calls P f vs E.w λe w'=>∃u E',e=.returned u/\w'=E'.w/\Ext E E'/\SR E'/\E'.h=h'/\VR E' r u
mutual
theorem Si {w w':World} {ok ok':Nat->Nat->Prop}:∀{x:AV} {v:Value},x.scalar1=true->PV w ok x v->PV w' ok' x v:=by
 intro x v hs h;cases x<;>simp only[AV.scalar1]at hs<;>first|(cases hs;done)|simpa[PV]using h
end
theorem Qi {w w':World} {ok ok':Nat->Nat->Prop}:∀{xs:E6} {vs:List Value},(∀x∈xs,x.scalar1=true)->BT w ok xs vs->BT w' ok' xs vs
 | [],vs,_,h=>by simpa[BT]using h
 |x::xs,vs,hs,h=>by
  simp only[BT]at h ⊢;obtain⟨u,us,rfl,h1,h2⟩:=h;exact⟨u,us,rfl,Si (hs x (by simp)) h1,Qi (λy hy=>hs y (by simp[hy])) h2⟩
theorem Sh {w w':World} {ok ok':Nat->Nat->Prop} {x:AV} {v:Value} (hs:x.scalar0=true) (h:PV w ok x v):PV w' ok' x v:=by
 unfold AV.scalar0 at hs;split at hs
 .rename_i cs;simp only[PV]at h ⊢;obtain⟨us,rfl,h1,h2⟩:=h;exact⟨us,rfl,h1,Qi (by simpa using hs) h2⟩
 .exact Si hs h
theorem PN {w w':World} {ok ok':Nat->Nat->Prop}:∀{xs:E6} {vs:List Value},(∀x∈xs,x.scalar0=true)->BT w ok xs vs->BT w' ok' xs vs
 | [],vs,_,h=>by simpa[BT]using h
 |x::xs,vs,hs,h=>by
  simp only[BT]at h ⊢;obtain⟨u,us,rfl,h1,h2⟩:=h;exact⟨u,us,rfl,Sh (hs x (by simp)) h1,PN (λy hy=>hs y (by simp[hy])) h2⟩
theorem eh {w w':World} {ok ok':Nat->Nat->Prop} {x:AV} {v:Value} (hs:x.scalar=true) (h:PV w ok x v):PV w' ok' x v:=by
 unfold AV.scalar at hs;split at hs
 .rename_i vs;simp only[PV]at h ⊢;obtain⟨us,rfl,h2⟩:=h;exact⟨us,rfl,PN (by simpa using hs) h2⟩
 .exact Sh hs h
theorem UJ {h:AH} {x:AV} (ht:GQ h x=true):y8 h true x=y8 h false x:=by
 cases x<;>simp only[y8]
 case mp b=>simp[GQ]at ht
 case bsl=>simp[GQ]at ht
 case sl k n off len =>
  unfold GQ at ht;cases hf:h.fams[k]? with
  |none=>rfl
  |some f =>
   simp only[hf]at ht ⊢;simp[ht]
theorem UK {h:AH}:∀{xs:E6},xs.all (GQ h)=true->Ja h true xs=Ja h false xs
 | [],_=>rfl
 |x::xs,ht=>by
  simp only[xp,xl]at ht;simp only[Ja,UJ ht.1,UK ht.2]
theorem gE {h:AH} {x:AV} (ht:tame h x=true):frz h true x=frz h false x:=by
 unfold frz;split
 .rename_i cs;rw[UK (by simpa[tame]using ht)]
 .rename_i hx;refine UJ ?_;unfold tame at ht;split at ht
  .exact absurd rfl (hx _)
  .exact ht
theorem QV {h:AH}:∀{xs:E6},xs.all (tame h)=true->f8 h true xs=f8 h false xs
 | [],_=>rfl
 |x::xs,ht=>by
  simp only[xp,xl]at ht;simp only[f8,gE ht.1,QV ht.2]
section
variable {E:Env} {P:Program} {fr:Fr} {a:Act} {o:Oper} {O:Orc} {c:Ctx}
theorem ZF (hP:Ld P O) (hR:TI P O) (hS:SR E) {f:FuncId} {args:E6} {vs:Array Value} {r:AV} {h':AH} (hv:x6 E args vs.toList) (h:GM O c f args E.h=some (r,h')) :
  Program.enterable P f=true/\Calls P f vs E.w λe w'=>∃u E',e=.returned u/\w'=E'.w/\Ext E E'/\SR E'/\E'.h=h'/\VR E' r u:=by
 unfold GM at h;split at h
 .obtain⟨Jb,e1,e2⟩:=XN h;obtain⟨h1,h2⟩:=hR f args E.h r Jb e1;refine⟨h1,?_⟩;rcases e2 with e2|⟨e2,e3,e4⟩
  .subst e2;exact h2 E vs hS rfl hv
  .refine(h2 E vs hS rfl hv).mono λe w' ⟨u,E',k1,k2,k3,k4,k5,k6⟩=>?_;have hb:E'.h.boxes.take E.h.boxes.length=E.h.boxes:=by rw[k5];exact e3
   refine⟨u,E'.trim E.h.boxes,k1,k2,jJ k3 hb,lT hS k4 k3 hb,?_,Kf (E:=E') (E':=E'.trim E.h.boxes) rfl (λb o k=>WG hb k) rfl rfl _ _ e2 k6⟩;show (⟨E.h.boxes,E'.h.fams⟩:AH)=h';rw[k5];exact e4.symm
 .split at h
  .cases h
  .rename_i aas has;split at h
   .cases h
   .rename_i q hq;split at h
    .rename_i hc;cases h;obtain⟨h1,h2⟩:=hP f aas r hq;refine⟨h1,?_⟩;by_cases hs:r.scalar=true
     .have hpv:=Hn hS (am:=true) (ok':=λb _=>b<E.w.heap.size) ⟨λb o ho=>PA hS ho,λ_ b _ _ hb=>hb⟩ hv has;refine(h2 E.w (λb _=>b<E.w.heap.size) vs (λ_ _ hb=>hb) hpv).mono λe w' ⟨u,he,hb,hu⟩=>?_;exact⟨u,{E with w:=w'},he,rfl,AJ hS hb,Do hS hb,rfl,Bk _ _ (eh hs hu)⟩
     .have ht:args.all (tame E.h)=true:=by simpa[hs]using hc
      rw[QV ht]at has;have hpv:=Hn hS (am:=false) (ok':=E.ok) ⟨λ_ _ h=>h,λh=>by cases h⟩ hv has;refine(h2 E.w E.ok vs (λb o hb=>PA hS hb) hpv).mono λe w' ⟨u,he,hb,hu⟩=>?_;have hx:=AJ hS hb;refine⟨u,{E with w:=w'},he,rfl,hx,Do hS hb,rfl,Bk _ _ (Bi (λb o ho=>⟨?_,GJ.refl _ _ _⟩) _ _ hu)⟩
      rcases ho with ho|ho
      .exact(hx.cells b o ho).1
      .refine .inr ⟨Nat.le_trans hS.basele ho.1,ho.2,λi hi=>?_,λk g hk he=>?_⟩
       .have:=(hS.nb_lt hi).2;intro e;have e':E.nb i=b:=e;omega
       .have:=(hS.im_lt (xm.1 hk).1).2;have he':(E.im k).b=b:=he;omega
    .cases h
theorem Ws {f:FuncId} (he:Program.enterable P f=true) (args:Array Value) (w:World):(callFunc f args).run P w=.ok (.enter f args) w:=by
 unfold Program.enterable at he;unfold callFunc;split at he
 .rename_i fn hfn;simp only[xl,Bool.not_eq_true']at he;have M5:fn.name≠ "runtime.NumGoroutine":=by simpa using he.2
  have h1:fn.body≠none:=by intro h;rw[h]at he;simp at he
  simp[hfn,M5,h1]
 .cases he
theorem gu {α β:Type} {f:α->β} {x:Option α} {r:β} (h:x.map f=some r):∃y,r=f y:=by
 cases x with
 |none=>cases h
 |some y=>exact⟨y,by simpa using h.symm⟩
def Rr:Op->Bool
 | .call {callee:=.value _,args:=_,argTypes:=_}=>true
 |_=>false
theorem cZ {p:Op} {r:ROp} (hr:V0 P p=some r) (hp:Rr p=false):r.isCall=false:=by
 unfold V0 at hr
 repeat' (split at hr)
 all_goals first
  |(cases hr;done)
  |(cases hr;rfl)
  |(obtain⟨y,rfl⟩:=gu hr;rfl)
  |(exfalso;simp[Rr]at hp;done)
theorem sr (hP:Ld P O) (hR:TI P O) (hS:SR E) (hf:FR E fr a.tmps) {r r0:ROp} (hr:V0 P o.op=some r0) (j9:(r=r0\/∃m,r=r0.lax m)\/(r=r0.bxd\/∃m,r=r0.bxd.lax m)) {v:AV} {h':AH} (E1:A2 O c r fr E.h=some (v,h'))
  {K:Act->World->Prop} {Q:Exit->Act->World->Prop} (hK:∀u E',Ext E E'->SR E'->E'.h=h'->VR E' v u->K (a.put o.dst u) E'.w):o.wp P a E.w K Q:=by
 by_cases hnc:r.isCall=false
 .obtain⟨nx,u,E',h1,h2,h3,h4,h5,h6⟩:=iB (c:=c) hS hf hr j9 E1 hnc;unfold Oper.wp;rw[h1];rcases h2 with rfl|⟨rfl,rfl⟩
  .exact hK u E' h3 h4 h5 h6
  .exact hK undef E' h3 h4 h5 h6
 .have hcalls:∀(f:FuncId) (vs:Array Value) (args:List AV),x6 E args vs.toList->GM O c f args E.h=some (v,h')->(execOp a.eval o).run P E.w=(callFunc f vs).run P E.w->o.wp P a E.w K Q:=by
   intro f vs args hv hc hx;obtain⟨h1,h2⟩:=ZF hP hR hS hv hc;unfold Oper.wp;rw[hx,Ws h1];refine Calls.mono h2 λe w' ⟨u,E',he,hw,k1,k2,k3,k4⟩=>?_;subst he;subst hw;exact hK u E' k1 k2 k3 k4
  by_cases hp:Rr o.op=false
  .have h1:=cZ hr hp;rcases j9 with (rfl|⟨_,rfl⟩)|(rfl|⟨_,rfl⟩)
   .exact absurd h1 hnc
   rotate_left
   .refine absurd ?_ hnc;cases r0<;>first|rfl|exact h1
   .refine absurd ?_ hnc;cases r0<;>first|rfl|exact h1|(rename_i m _ _ _;obtain⟨m,mk⟩:=m;cases m with|none=>rfl|some b=>cases b<;>rfl)
   .refine absurd ?_ hnc;cases r0<;>first|rfl|exact h1|(rename_i m _ _ _;obtain⟨m,mk⟩:=m;cases m with|none=>rfl|some b=>cases b<;>rfl)|(rename_i m _ _ _ _;obtain⟨m,mk⟩:=m;cases mk<;>rfl)
  .cases Ad:o.op<;>rw[Ad]at hp hr<;>try (exact absurd rfl hp)
   rename_i q;obtain⟨callee,args,ats⟩:=q;cases callee with
   |invoke x m=>exact absurd rfl hp
   |builtin b=>exact absurd rfl hp
   |value x =>
    cases x<;>simp only[V0]at hr<;>try (cases hr;done)
    case tmp t =>
     simp only[xk]at hr;obtain⟨aas,has,rfl⟩:=hr;obtain rfl:r=.callv (.t t) aas:=by rcases j9 with (h|⟨_,h⟩)|(h|⟨_,h⟩)<;>exact h
     simp only[A2]at E1;split at E1
     .rename_i f caps hg;have E1:GM O c f (aas.map (get fr)++caps) E.h=some (v,h'):=by
       split at E1
       .cases E1
       .exact E1
      have hv:=hf.val t;have DG:fr.getD t A9=.fn f caps:=hg;rw[DG]at hv;simp only[VR]at hv;obtain⟨us,e1,e2⟩:=hv;refine hcalls f (args.map a.eval++us) _ ?_ E1 ?_
      .have:=Nq (LG hf has) e2;simpa using this
      .simp[execOp,Ad,resolve,Act.eval,e1,Deferred.ofValue,invoke]
     .cases E1
    case func f =>
     split at hr
     .simp only[xk]at hr;obtain⟨aas,has,rfl⟩:=hr;obtain rfl:r=.call f aas:=by rcases j9 with (h|⟨_,h⟩)|(h|⟨_,h⟩)<;>exact h
      simp only[A2]at E1;refine hcalls f (args.map a.eval) _ (LG hf has) E1 ?_;simp[execOp,Ad,resolve,Act.eval,Deferred.ofValue,invoke]
     .cases hr
end
end Go.Abs
