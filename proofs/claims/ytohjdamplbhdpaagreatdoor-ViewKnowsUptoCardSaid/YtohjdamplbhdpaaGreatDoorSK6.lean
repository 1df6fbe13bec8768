/- A part of the proof. -/
import Derived.Test.YtohjdamplbhdpaaGreatDoorSK5
set_option linter.all false
open Option renaming map_eq_some_iff->A0A
open Bool renaming and_eq_true->A0B
open Array renaming getD_eq_getD_getElem?->A0C
open List renaming getElem?_eq_some_iff->A0D,length_cons->A0E,length_nil->A0F,all_cons->A0G
namespace Go.Abs
open Go.RowKit (Below)
section
variable {E:Env} {P:Program} {fr:Fr} {a:Act} {o:Oper} {O:Orc} {c:Ctx}
def ROp.isCall:ROp->Bool
 | .call .. | .callv ..=>true
 |_=>false
theorem jN {el z:AV} {cs:G1} (h:el.reform cs=some z) (hl:cs.length=el.cells.length) (hf:∀x∈cs,x.cells=[x]\/∃aas,el=.agg aas):z.cells=cs:=by
 cases el<;>simp only[AV.reform]at h
 case agg=>cases h;rfl
 all_goals
  simp only[AV.cells,A0E,A0F]at hl;cases cs with
  |nil=>simp at hl
  |cons c r =>
   have hr:r=[]:=by simpa using hl
   subst hr;simp at h;subst h;rcases hf c (by simp)with h' | ⟨aas,h'⟩
   .exact h'
   .cases h'
theorem TQ {t:TypeId} {x y:Operand} {x' y':Opd} {n k m i q sz:Nat} {h1:AH} (hS:SR E) (hf:FR E fr a.tmps) (BV:o.op=.store t x y) (hn:Program.size? P t=some n) (hx:D3 x=some x') (hy:D3 y=some y')
  (hg:get fr x'=.ep k m i q sz) (Gx:HO E.h n (get fr y') k m i q sz=some h1):NS P a o E C3 h1:=by
 unfold HO at Gx;split at Gx
 .rename_i f hfk;split at Gx
  .rename_i hc;split at Gx
   .rename_i el u Rw hu;split at Gx
    .rename_i hl;simp only[A0A]at Gx;obtain⟨z,hz,rfl⟩:=Gx;refine kK hS hf BV hn hx hy hg hfk hc.1 hc.2.1 hc.2.2 Rw hu hl.1 hl.2 (jN hz (by simp[L9];omega) λw hw=>?_);by_cases hag:∃aas,el=.agg aas
     .exact .inr hag
     .refine .inl ?_;have hel1:el.cells=[el]:=by cases el<;>first|rfl|exact absurd ⟨_,rfl⟩ hag
      rw[hel1]at hw hl;simp only[A0E,A0F]at hl;have hF:=hS.fams k f hfk;obtain⟨hPu,hut⟩:=Ks hS (am:=false) (ok':=E.ok) ⟨λ_ _ h=>h,λh=>by cases h⟩ (D4 hf hy) hu;obtain⟨g1,g2⟩:=Od hPu hut;have hcell:∀{w:AV} {u:Value},PV E.w E.ok w u->u.oneCell'=true->w.cells=[w]:=by
       intro w u h1 h2;cases w<;>first|rfl|(simp only[PV]at h1;obtain⟨us,rfl,_⟩:=h1;simp[Value.oneCell']at h2)
      unfold L9 at hw;simp only[List.mem_append]at hw;rcases hw with (hw|hw)|hw
      .have:=List.mem_of_mem_take hw;simp at this;subst this;exact hel1
      .obtain⟨j,hj⟩:=List.getElem?_of_mem hw;obtain⟨u',k1,k2⟩:=(Hk g1).2 hj;exact hcell k2 (g2 u' (List.mem_of_getElem? k1))
      .have:=List.mem_of_mem_drop hw;simp at this;subst this;exact hel1
    .cases Gx
   .cases Gx
  .cases Gx
 .cases Gx
theorem sZ {n:Nat} {x y:Opd} {h h':AH} {v:AV} (he:A8 O c (.ste n x y) fr h=some (v,h')):A8 O c (.st n x y) fr h=some (v,h'):=by
 simp only[A8,VV]at he;split at he
 .rename_i k m i q s hg;split at he
  .rename_i hfl;simp only[A8,hg,KJ,Xu];rw[Ot h false hfl];exact he
  .cases he
 .cases he
theorem sY {n:Nat} {x y:Opd} {h h':AH} {v:AV} (he:A8 O c (.stb n x y) fr h=some (v,h')):A8 O c (.st n x y) fr h=some (v,h'):=by
 simp only[A8,VU]at he;split at he
 .rename_i b q hg;split at he
  .rename_i cs KE;split at he
   .rename_i hc;cases he;simp only[A8,hg,KJ,KE];rw[if_pos hc]
   .cases he
  .cases he
 .cases he
theorem ol (hS:SR E) (hf:FR E fr a.tmps) {r r0:ROp} (hr:j0 P o.op=some r0) (CB:r=r0\/∃m,r=r0.lax m) {v:AV} {h':AH} (E9:A8 O c r fr E.h=some (v,h')) (hnc:r.isCall=false):NS P a o E v h':=by
 cases BV:o.op with
 |move x =>
  rw[BV]at hr;simp only[j0,A0A]at hr;obtain⟨y,hy,rfl⟩:=hr;obtain rfl:r=.mov y:=by rcases CB with h|⟨_,h⟩<;>exact h
  simp only[A8]at E9;cases E9;exact(qV hf (.inl BV) hy).does hS
 |assign x =>
  rw[BV]at hr;simp only[j0,A0A]at hr;obtain⟨y,hy,rfl⟩:=hr;obtain rfl:r=.mov y:=by rcases CB with h|⟨_,h⟩<;>exact h
  simp only[A8]at E9;cases E9;exact(qV hf (.inr BV) hy).does hS
 |pick q x y =>
  rw[BV]at hr;simp only[j0]at hr;split at hr
  .rename_i q' x' y' h1 h2 h3;cases hr;obtain rfl:r=.pick q' x' y':=by rcases CB with h|⟨_,h⟩<;>exact h
   simp only[A8]at E9;split at E9
   .rename_i t ht;cases E9;exact(sM hf BV h1 h2 h3 ht).does hS
   .cases E9
  .cases hr
 |alloc t =>
  rw[BV]at hr;simp only[j0,A0A]at hr;obtain⟨z,hz,rfl⟩:=hr;obtain rfl:r=.alloc z:=by rcases CB with h|⟨_,h⟩<;>exact h
  simp only[A8]at E9;cases E9;exact nU hS BV hz
 |box t x =>
  rw[BV]at hr;simp only[j0,A0A]at hr;obtain⟨y,hy,rfl⟩:=hr;obtain rfl:r=.box y:=by rcases CB with h|⟨_,h⟩<;>exact h
  simp only[A8]at E9;split at E9
  .cases E9
  .rename_i ht;cases E9;exact ue hS hf BV hy (by simpa using ht)
 |build t parts =>
  rw[BV]at hr;simp only[j0]at hr;split at hr
  .rename_i fs zs hu hz;split at hr
   .rename_i hs;simp only[A0A]at hr;obtain⟨ps,hp,rfl⟩:=hr;obtain rfl:r=.build (.agg zs) ps:=by rcases CB with h|⟨_,h⟩<;>exact h
    simp only[A8,AV.cells]at E9;split at E9
    .rename_i qs hq;cases E9;exact(pf hf BV hu hz hs hp hq).does hS
    .cases E9
   .cases hr
  .cases hr
 |buildSlice t len parts =>
  rw[BV]at hr;simp only[j0]at hr;split at hr
  .rename_i e hu;split at hr
   .rename_i z n ps hz hn hp;split at hr
    .rename_i hc;cases hr;have E9:A8 O c (.bslice len z ps) fr E.h=some (v,h'):=by
      rcases CB with rfl|⟨_,rfl⟩
      .exact E9
      .simp only[ROp.lax,A8]at E9;split at E9
       .simp only[A8];exact E9
       .cases E9
     simp only[A8]at E9;split at E9
     .rename_i xs hx;cases E9;exact kH hS hf BV hu hz hn hc.1 hc.2 hp hx
     .cases E9
    .cases hr
   .cases hr
  .cases hr
 |load t x =>
  rw[BV]at hr;simp only[j0]at hr;split at hr
  .rename_i b n y hb hn hy;cases hr;have key:∃w,Hs E.h b n (get fr y)=some w/\(w,E.h)=(v,h'):=by
    rcases CB with rfl|⟨_,rfl⟩
    .simp only[A8]at E9;split at E9
     .rename_i w hw;exact⟨w,hw,by simpa using E9⟩
     .cases E9
    .simp only[ROp.lax,A8]at E9;split at E9
     .cases E9
     .split at E9
      .rename_i w hw;exact⟨w,hw,by simpa using E9⟩
      .cases E9
   obtain⟨w,hw,he⟩:=key;cases he;exact(zC hS hf BV hb hn hy hw).does hS
  .cases hr
 |store t x y =>
  rw[BV]at hr;simp only[j0]at hr;split at hr
  .rename_i n x' y' hn hx hy;cases hr;have E9:A8 O c (.st n x' y') fr E.h=some (v,h'):=by
    rcases CB with rfl|⟨m,rfl⟩
    .exact E9
    .obtain⟨m,mk⟩:=m;cases m with
     |none=>exact E9
     |some b =>
      cases b with
      |true=>exact sZ E9
      |false=>exact sY E9
   simp only[A8]at E9;split at E9
   .rename_i h1 Gx;cases E9;unfold KJ at Gx;split at Gx
    .rename_i b off hg;split at Gx
     .rename_i cs KE;split at Gx
      .rename_i hc;cases Gx;exact kJ hS hf BV hn hx hy hg KE hc.1 hc.2.1 hc.2.2.1 hc.2.2.2
      .cases Gx
     .cases Gx
    .rename_i k m i q sz hg;split at Gx
     case h_2=>cases Gx
     rename_i h2 hlay;unfold Xu at hlay;split at hlay
     .cases hlay;exact TQ hS hf BV hn hx hy hg Gx
     .unfold jQ at hlay;split at hlay
      case h_2=>cases hlay
      rename_i k2 n2 off2 rX hgy;split at hlay
      case h_2=>cases hlay
      rename_i f2 hf2;cases hlay;have hx1:=VJ hf2;obtain⟨nx,u,E',e1,e2,e3,e4,e5,e6⟩:=TQ (E:=E.rstFam k2 f2) (jR hS hf2) (hf.ext hx1) BV hn hx hy hg Gx;exact⟨nx,u,E',e1,e2,hx1.trans e3,e4,e5,e6⟩
    .cases Gx
   .cases E9
  .cases hr
 |nilCheck x =>
  rw[BV]at hr;simp only[j0,A0A]at hr;obtain⟨y,hy,rfl⟩:=hr;obtain rfl:r=.nilck y:=by rcases CB with h|⟨_,h⟩<;>exact h
  simp only[A8]at E9;have:h'=E.h:=by split at E9<;>first|(cases E9;rfl)|cases E9
  subst this;exact(pi hf BV hy E9).does hS
 |binOp op t x y t' =>
  rw[BV]at hr;simp only[j0]at hr;split at hr
  .rename_i x' y' hx hy;have gen:r0=.bin op x' y'->NS P a o E v h':=by
    intro h;subst h;obtain rfl:r=.bin op x' y':=by rcases CB with h|⟨_,h⟩<;>exact h
    simp only[A8]at E9;split at E9
    .rename_i w hw;cases E9;exact(wC hf BV hx hy hw).does hS
    .cases E9
   split at hr
   .rename_i ht;cases hr;obtain rfl:r=.beq false x' y':=by rcases CB with h|⟨_,h⟩<;>exact h
    simp only[A8]at E9;split at E9
    .rename_i i j hi hj;cases E9;exact(qU (neg:=false) hf BV ht hx hy hi hj).does hS
    .cases E9
   .rename_i ht;cases hr;obtain rfl:r=.beq true x' y':=by rcases CB with h|⟨_,h⟩<;>exact h
    simp only[A8]at E9;split at E9
    .rename_i i j hi hj;cases E9;exact(qU (neg:=true) hf BV ht hx hy hi hj).does hS
    .cases E9
   .rename_i ht;split at hr
    .cases hr;obtain rfl:r=.nileq false x':=by rcases CB with h|⟨_,h⟩<;>exact h
     simp only[A8]at E9;split at E9
     .rename_i hi;cases E9;exact(fa (neg:=false) hf BV ht hx hy hi).does hS
     .cases E9
    .cases hr
   .rename_i ht;split at hr
    .cases hr;obtain rfl:r=.nileq true x':=by rcases CB with h|⟨_,h⟩<;>exact h
     simp only[A8]at E9;split at E9
     .rename_i hi;cases E9;exact(fa (neg:=true) hf BV ht hx hy hi).does hS
     .cases E9
    .cases hr
   .cases hr;exact gen rfl
  .cases hr
 |unOp op t x =>
  rw[BV]at hr;simp only[j0,A0A]at hr;obtain⟨y,hy,rfl⟩:=hr;obtain rfl:r=.un op y:=by rcases CB with h|⟨_,h⟩<;>exact h
  simp only[A8]at E9;split at E9
  .rename_i w hw;cases E9;exact(zD hf BV hy hw).does hS
  .cases E9
 |convert s d x =>
  rw[BV]at hr;simp only[j0]at hr;split at hr
  .rename_i k0 k hs hd;simp only[A0A]at hr;obtain⟨y,hy,rfl⟩:=hr;obtain rfl:r=.conv k y:=by rcases CB with h|⟨_,h⟩<;>exact h
   simp only[A8]at E9;split at E9
   .rename_i q n hq;cases E9;exact(sK hf BV hs hd hy hq).does hS
   .cases E9
  .rename_i hs hd;simp only[A0A]at hr;obtain⟨y,hy,rfl⟩:=hr;obtain rfl:r=.cstr y:=by rcases CB with h|⟨_,h⟩<;>exact h
   simp only[A8]at E9;split at E9
   .rename_i n hq;cases E9;exact(sL hf BV hs hd hy hq).does hS
   .cases E9
  .rename_i e hs hd;split at hr
   .rename_i he;simp only[A0A]at hr;obtain⟨y,hy,rfl⟩:=hr;obtain rfl:r=.bstr y:=by rcases CB with h|⟨_,h⟩<;>exact h
    simp only[A8]at E9;exact sI hS hf BV hs hd he hy E9
   .cases hr
  .cases hr
 |makeFunc fn first caps =>
  rw[BV]at hr;cases fn<;>simp only[j0]at hr<;>try (cases hr;done)
  split at hr
  .rename_i f h0;simp only[A0A]at hr;obtain⟨cs,hc,rfl⟩:=hr;obtain rfl:r=.clos _ cs:=by rcases CB with h|⟨_,h⟩<;>exact h
   simp only[A8]at E9;split at E9
   .exact kI hS hf BV h0 hc E9
   .cases E9;exact(sJ hf BV h0 hc).does hS
  .cases hr
 |makeSlice t l q =>
  rw[BV]at hr;simp only[j0]at hr;split at hr
  .rename_i e hu;split at hr
   .rename_i i z l' q' hi hz hl hq;split at hr
    .rename_i K1;cases hr;have hcase:r=.mkslice z i.bytes l' q'\/r=.mkv z i.bytes l' q':=by
      rcases CB with h|⟨⟨m,mk⟩,h⟩
      .exact .inl h
      .cases mk
       .exact .inl h
       .exact .inr h
     rcases hcase with rfl|rfl
     case inr=>exact ug hS hf BV hu hi hz K1 hl hq E9
     simp only[A8]at E9;split at E9
     .rename_i k1 x k2 y hx hy;split at E9
      .rename_i hc;cases E9;exact gX hS hf BV hu hi hz K1 hl hq hx hy hc.1 hc.2.1 hc.2.2.1 hc.2.2.2
      .cases E9
     .cases E9
    .cases hr
   .cases hr
  .cases hr
 |slice t x lo hi mx =>
  rw[BV]at hr;simp only[j0]at hr;split at hr
  .rename_i x' lo' CW ht hx Ql WY hmx;cases hr;obtain rfl:r=.slc 0 x' lo' CW none:=by rcases CB with h|⟨_,h⟩<;>exact h
   have hmn:mx=none:=by
    cases mx with
    |none=>rfl
    |some m=>simp[HM]at hmx
   subst hmn;simp only[A8]at E9;split at E9
   .rename_i l u m hl hu hm;simp only[J6]at hm;cases hm;split at E9
    .rename_i w hw;cases E9;unfold Mf at hw;split at hw
     .rename_i s hs;dsimp only at hw;split at hw
      .rename_i hc;cases hw;exact(jK hf BV ht hx Ql WY hs hl hu hc.2.2.1 hc.2.2.2.1 hc.2.2.2.2).does hS
      .cases hw
     .simp at hw
     .split at hw<;>simp at hw
     .cases hw
    .cases E9
   .cases E9
  .rename_i e x' lo' CW mx' ht hx Ql WY hmx;split at hr
   .rename_i n hn;split at hr
    .rename_i K1;cases hr;obtain rfl:r=.slc n x' lo' CW mx':=by rcases CB with h|⟨_,h⟩<;>exact h
     simp only[A8]at E9;split at E9
     .rename_i l u m hl hu hm;split at E9
      .rename_i w hw;cases E9;unfold Mf at hw;split at hw
       .simp[show ¬n=0 from by omega]at hw
       .rename_i full z xs hg;dsimp only at hw;simp only[K1,true_and]at hw;split at hw
        .rename_i hz;split at hw
         .split at hw
          .rename_i hc;cases hw;exact(bC hf BV ht hn hx Ql WY hmx hg hl hu hm hz hc.1 hc.2.1 (.inl ⟨rfl,hc.2.2,rfl⟩)).does hS
          .cases hw
         .rename_i q;split at hw
          .rename_i hc;cases hw;exact(bC hf BV ht hn hx Ql WY hmx hg hl hu hm hz hc.2.1 hc.2.2.1 (.inr ⟨q,rfl,hc.1,hc.2.2.2.1,hc.2.2.2.2,rfl⟩)).does hS
          .cases hw
        .cases hw
       .rename_i k m0 off len hg;dsimp only at hw;split at hw
        .rename_i f hfk;simp only[K1,true_and]at hw;split at hw
         .rename_i hz;split at hw
          .split at hw
           .rename_i hc;cases hw;exact(bB hS hf BV ht hn hx Ql WY hmx hg hl hu hm hfk hz.1 hz.2 (.inl ⟨rfl,hc.1,hc.2.1,hc.2.2,rfl⟩)).does hS
           .cases hw
          .rename_i q;split at hw
           .rename_i hc;cases hw;obtain⟨c1,c2,c3,rfl⟩:=hc;exact(bB hS hf BV ht hn hx Ql WY hmx hg hl hu hm hfk hz.1 hz.2 (.inr ⟨rfl,c1,c2,c3,rfl⟩)).does hS
           .cases hw
         .cases hw
        .cases hw
       .cases hw
      .cases E9
     .cases E9
    .cases hr
   .cases hr
  .cases hr
 |fieldAddr s x i =>
  rw[BV]at hr;simp only[j0]at hr;split at hr
  .rename_i fs x' hs hx;split at hr
   .rename_i f hi;split at hr
    .rename_i n hn;split at hr
     .rename_i K1;cases hr;obtain rfl:r=.faddr f.offset x':=by rcases CB with h|⟨_,h⟩<;>exact h
      simp only[A8]at E9;have:h'=E.h:=by split at E9<;>first|(cases E9;rfl)|cases E9
      subst this;exact(pg hf BV hs hi hn K1 hx E9).does hS
     .cases hr
    .cases hr
   .cases hr
  .cases hr
 |field s x i =>
  rw[BV]at hr;simp only[j0]at hr;split at hr
  .rename_i fs x' hs hx;split at hr
   .rename_i f hi;split at hr
    .rename_i b n hb hn;cases hr;obtain rfl:r=.fld b f.offset n x':=by rcases CB with h|⟨_,h⟩<;>exact h
     simp only[A8]at E9;split at E9
     .rename_i cs hg;split at E9
      .rename_i w hw;cases E9;exact(wE hf BV hs hi hb hn hx hg hw).does hS
      .cases E9
     .cases E9
    .cases hr
   .cases hr
  .cases hr
 |indexAddr t x i =>
  rw[BV]at hr;simp only[j0]at hr;split at hr
  .rename_i e x' i' ht hx hi;split at hr
   .rename_i n hn;split at hr
    .cases hr;obtain rfl:r=.iaddr n x' i':=by rcases CB with h|⟨_,h⟩<;>exact h
     simp only[A8]at E9;have:h'=E.h:=by
      split at E9
      .split at E9
       .split at E9<;>first|(cases E9;rfl)|cases E9
       .cases E9
      .split at E9<;>first|(cases E9;rfl)|cases E9
      .cases E9
     subst this;exact(ph hS hf BV ht hn hx hi E9).does hS
    .cases hr
   .cases hr
  .cases hr
 |index t x i =>
  rw[BV]at hr;simp only[j0]at hr;split at hr
  .rename_i x' i' ht hx hi;cases hr;obtain rfl:r=.idx x' i':=by rcases CB with h|⟨_,h⟩<;>exact h
   simp only[A8]at E9;split at E9
   .rename_i s q j hg hj;split at E9
    .rename_i h0;split at E9
     .rename_i b hb;cases E9;exact(wG hf BV ht hx hi hg hj h0 hb).does hS
     .cases E9
    .cases E9
   .cases E9
  .cases hr
 |extract x i =>
  rw[BV]at hr;simp only[j0,A0A]at hr;obtain⟨y,hy,rfl⟩:=hr;obtain rfl:r=.ext y i:=by rcases CB with h|⟨_,h⟩<;>exact h
  simp only[A8]at E9;split at E9
  .rename_i vs hg;split at E9
   .rename_i w hw;cases E9;exact(wD hf BV hy hg hw).does hS
   .cases E9
  .cases E9
 |call q =>
  rw[BV]at hr;obtain⟨callee,args,ats⟩:=q;cases callee with
  |invoke x m=>simp[j0]at hr
  |value x =>
   cases x<;>simp only[j0]at hr<;>try (cases hr;done)
   .simp only[A0A]at hr;obtain⟨aas,_,rfl⟩:=hr;rcases CB with rfl|⟨_,rfl⟩<;>simp[ROp.isCall,ROp.lax]at hnc
   .split at hr
    .simp only[A0A]at hr;obtain⟨aas,_,rfl⟩:=hr;rcases CB with rfl|⟨_,rfl⟩<;>simp[ROp.isCall,ROp.lax]at hnc
    .cases hr
  |builtin b =>
   cases b<;>simp only[j0]at hr<;>try (cases hr;done)
   case append =>
    split at hr
    .rename_i s x t u h1 h2;split at hr
     .rename_i e ht;split at hr
      .rename_i i z s' x' hi hz hs hx;split at hr
       .rename_i hc;cases hr;obtain⟨K1,rfl⟩:=hc;obtain rfl:r=.app i.size i.bytes s' x':=by rcases CB with h|⟨_,h⟩<;>exact h
        simp only[A8,N1]at E9;split at E9
        .cases E9
        .rename_i ys Ti;split at E9
         .rename_i z0 xs hg;split at E9
          .rename_i h0;cases E9;have e1:=D4 hf hs;have e1':=e1;rw[hg]at e1;simp only[VR,PV]at e1;obtain⟨base,len,cap,e2,_,e4,_⟩:=e1;obtain⟨ad,cx,f1,_⟩:=Jo hS K1 (D4 hf hx) Ti;refine⟨_,.slice base len cap,E,Jq BV h1 h2 ?_,.inl rfl,Ext.refl E,hS,rfl,by rw[hg,e2]at e1';exact e1'⟩;rw[e2,f1,h0];exact OR t _ e i ht hi base ad len cap cx e4 E.w
          .rename_i h0;split at E9
           .rename_i hb;cases E9;exact cP hS hf BV h1 h2 ht hi hz K1 hs hx hg Ti h0 hb.1 hb.2.1 hb.2.2
           .cases E9
         .rename_i k n off len hg;split at E9
          .rename_i f hfk;split at E9
           .rename_i hb;cases E9;exact gW hS hf BV h1 h2 ht hi hz K1 hs hx hg Ti hfk hb.1 hb.2.1 hb.2.2.1 hb.2.2.2.1 hb.2.2.2.2
           .cases E9
          .cases E9
         .cases E9
       .cases hr
      .cases hr
     .cases hr
    .cases hr
   case len =>
    split at hr
    .rename_i x t h1 h2;split at hr
     .rename_i ht;simp only[A0A]at hr;obtain⟨y,hy,rfl⟩:=hr;obtain rfl:r=.len true y:=by rcases CB with h|⟨_,h⟩<;>exact h
      simp only[A8]at E9;split at E9
      .rename_i s hs;cases E9;exact(jJ hf BV h1 h2 ht hy hs).does hS
      .cases E9
     .rename_i e ht;simp only[A0A]at hr;obtain⟨y,hy,rfl⟩:=hr;obtain rfl:r=.len false y:=by rcases CB with h|⟨_,h⟩<;>exact h
      simp only[A8]at E9;have:h'=E.h:=by split at E9<;>first|(cases E9;rfl)|cases E9
      subst this;exact(wH hf BV h1 h2 ht hy E9).does hS
     .cases hr
    .cases hr
   case clear =>
    split at hr
    .rename_i x t h1 h2;split at hr
     .rename_i e ht;split at hr
      .rename_i z x' hz hx;cases hr;obtain rfl:r=.clr z x':=by rcases CB with h|⟨_,h⟩<;>exact h
       exact uf hS hf BV h1 h2 ht hz hx E9
      .cases hr
     .cases hr
    .cases hr
   case max =>
    split at hr
    .rename_i x y h1;split at hr
     .rename_i x' y' hx hy;cases hr;obtain rfl:r=.max x' y':=by rcases CB with h|⟨_,h⟩<;>exact h
      simp only[A8]at E9;split at E9
      .rename_i k i k' j hi hj;split at E9
       .cases E9;exact(wI hf BV h1 hx hy hi hj).does hS
       .cases E9
      .cases E9
     .cases hr
    .cases hr
 |makeMap t q =>
  cases q with
  |some q=>rw[BV]at hr;simp[j0]at hr
  |none =>
   rw[BV]at hr;simp only[j0]at hr;split at hr
   .cases hr;obtain rfl:r=.mkmap:=by rcases CB with h|⟨_,h⟩<;>exact h
    simp only[A8]at E9;cases E9;exact nV hS BV
   .cases hr
 |lookup t x k ok =>
  rw[BV]at hr;simp only[j0]at hr;split at hr
  .rename_i kt et hu;split at hr
   .rename_i b z x' k' hk hz hx Rx;cases hr;obtain rfl:r=.mlook b ok z x' k':=by rcases CB with h|⟨_,h⟩<;>exact h
    simp only[A8]at E9;exact nW hS hf BV hu hk hz hx Rx E9
   .cases hr
  .cases hr
 |mapUpdate t m k x =>
  rw[BV]at hr;simp only[j0]at hr;split at hr
  .rename_i kt et hu;split at hr
   .rename_i b m' k' x' hk hm Rx hx;cases hr;obtain rfl:r=.mup b m' k' x':=by rcases CB with h|⟨_,h⟩<;>exact h
    simp only[A8]at E9;exact qL hS hf (.inl BV) hu hk hm Rx hx E9
   .cases hr
  .cases hr
 |insert t m k x =>
  rw[BV]at hr;simp only[j0]at hr;split at hr
  .rename_i kt et hu;split at hr
   .rename_i b m' k' x' hk hm Rx hx;cases hr;obtain rfl:r=.mup b m' k' x':=by rcases CB with h|⟨_,h⟩<;>exact h
    simp only[A8]at E9;exact qL hS hf (.inr BV) hu hk hm Rx hx E9
   .cases hr
  .cases hr
 |_=>rw[BV]at hr;simp[j0]at hr
end
mutual
theorem NV {E E':Env} (hw:E'.w=E.w) (Cq:∀b o,E.ok b o->E'.ok b o) (hf:E'.h.fams=E.h.fams) (him:E'.im=E.im):∀(x:AV) (v:Value),OP x=true->VR E x v->VR E' x v
 | .agg cs,v,hn,hx=>by
  simp only[VR,OP]at hx hn ⊢;obtain⟨us,rfl,h1,hu⟩:=hx;exact⟨us,rfl,h1,RF hw Cq hf him cs us.toList hn hu⟩
 | .tup cs,v,hn,hx=>by
  simp only[VR,OP]at hx hn ⊢;obtain⟨us,rfl,hu⟩:=hx;exact⟨us,rfl,RF hw Cq hf him cs us.toList hn hu⟩
 | .fn f cs,v,hn,hx=>by
  simp only[VR,OP]at hx hn ⊢;obtain⟨us,rfl,hu⟩:=hx;exact⟨us,rfl,RF hw Cq hf him cs us.toList hn hu⟩
 | .sl k n off len,v,_,hx=>by
  simp only[VR,hf,him]at hx ⊢;exact hx
 | .ep k n i c sz,v,_,hx=>by
  simp only[VR,hf,him]at hx ⊢;exact hx
 | .ptr ..,v,hn,_=>by simp[OP]at hn
 | .mp _,v,hn,_=>by simp[OP]at hn
 | .vm ks vs,v,_,hx=>by
  simp only[VR]at hx ⊢;refine Co (λb o h=>⟨Cq b o h,?_⟩) _ _ hx;rw[hw];exact Ig.refl _ _ _
 | .vs full sz xs,v,_,hx=>by
  simp only[VR]at hx ⊢;refine Co (λb o h=>⟨Cq b o h,?_⟩) _ _ hx;rw[hw];exact Ig.refl _ _ _
 | .pv cs,v,_,hx=>by
  simp only[VR]at hx ⊢;refine Co (λb o h=>⟨Cq b o h,?_⟩) _ _ hx;rw[hw];exact Ig.refl _ _ _
 | .mbox ..,v,_,hx=>by simp[VR]at hx
 | .rbox _,v,_,hx=>by simp[VR]at hx
 | .nilm,v,_,hx=>by simpa[VR]using hx
 | .junk,v,_,hx=>by simpa[VR]using hx
 | .bool b,v,_,hx=>by simpa[VR]using hx
 | .int k n,v,_,hx=>by simpa[VR]using hx
 | .str s,v,_,hx=>by simpa[VR]using hx
 | .nilp,v,_,hx=>by simpa[VR]using hx
 | .nilf,v,_,hx=>by simpa[VR]using hx
theorem RF {E E':Env} (hw:E'.w=E.w) (Cq:∀b o,E.ok b o->E'.ok b o) (hf:E'.h.fams=E.h.fams) (him:E'.im=E.im):∀(cs:G1) (us:List Value),SU cs=true->Au E cs us->Au E' cs us
 | [],us,_,hx=>by simpa[Au]using hx
 |c::cs,us,hn,hx=>by
  simp only[Au,SU,A0B]at hx hn ⊢;obtain⟨u,us',rfl,h1,h2⟩:=hx;exact⟨u,us',rfl,NV hw Cq hf him c u hn.1 h1,RF hw Cq hf him cs us' hn.2 h2⟩
end
mutual
theorem nK {E0 E E':Env} (hw:E'.w=E.w) (Cq:∀b o,E.ok b o->E'.ok b o) (hf:E'.h.fams=E.h.fams) (him:E'.im=E.im) (hnb:E'.nb=E.nb) (hbl:E'.h.boxes.length=E0.h.boxes.length):∀(x:AV) (v0 v:Value),VR E0 x v0->VR E x v->VR E' x v
 | .agg cs,v0,v,h0,hx=>by
  simp only[VR]at h0 hx ⊢;obtain⟨us0,-,-,hu0⟩:=h0;obtain⟨us,rfl,h1,hu⟩:=hx;exact⟨us,rfl,h1,Oh hw Cq hf him hnb hbl cs us0.toList us.toList hu0 hu⟩
 | .tup cs,v0,v,h0,hx=>by
  simp only[VR]at h0 hx ⊢;obtain⟨us0,-,hu0⟩:=h0;obtain⟨us,rfl,hu⟩:=hx;exact⟨us,rfl,Oh hw Cq hf him hnb hbl cs us0.toList us.toList hu0 hu⟩
 | .fn f cs,v0,v,h0,hx=>by
  simp only[VR]at h0 hx ⊢;obtain⟨us0,-,hu0⟩:=h0;obtain⟨us,rfl,hu⟩:=hx;exact⟨us,rfl,Oh hw Cq hf him hnb hbl cs us0.toList us.toList hu0 hu⟩
 | .ptr b o,v0,v,h0,hx=>by
  simp only[VR]at h0 hx ⊢;exact⟨by rw[hbl];exact h0.1,by rw[hnb];exact hx.2⟩
 | .mp b,v0,v,h0,hx=>by
  simp only[VR]at h0 hx ⊢;exact⟨by rw[hbl];exact h0.1,by rw[hnb];exact hx.2⟩
 | .sl k n off len,v0,v,_,hx=>NV hw Cq hf him _ _ rfl hx
 | .ep k n i c sz,v0,v,_,hx=>NV hw Cq hf him _ _ rfl hx
 | .vm ks vs,v0,v,_,hx=>NV hw Cq hf him _ _ rfl hx
 | .vs full sz xs,v0,v,_,hx=>NV hw Cq hf him _ _ rfl hx
 | .pv cs,v0,v,_,hx=>NV hw Cq hf him _ _ rfl hx
 | .mbox ..,v0,v,_,hx=>by simp[VR]at hx
 | .rbox _,v0,v,_,hx=>by simp[VR]at hx
 | .nilm,v0,v,_,hx=>by simpa[VR]using hx
 | .junk,v0,v,_,hx=>by simpa[VR]using hx
 | .bool b,v0,v,_,hx=>by simpa[VR]using hx
 | .int k n,v0,v,_,hx=>by simpa[VR]using hx
 | .str s,v0,v,_,hx=>by simpa[VR]using hx
 | .nilp,v0,v,_,hx=>by simpa[VR]using hx
 | .nilf,v0,v,_,hx=>by simpa[VR]using hx
theorem Oh {E0 E E':Env} (hw:E'.w=E.w) (Cq:∀b o,E.ok b o->E'.ok b o) (hf:E'.h.fams=E.h.fams) (him:E'.im=E.im) (hnb:E'.nb=E.nb) (hbl:E'.h.boxes.length=E0.h.boxes.length):∀(cs:G1) (us0 us:List Value),Au E0 cs us0->Au E cs us->Au E' cs us
 | [],us0,us,_,hx=>by simpa[Au]using hx
 |c::cs,us0,us,h0,hx=>by
  simp only[Au]at h0 hx ⊢;obtain⟨u0,us0',rfl,k1,k2⟩:=h0;obtain⟨u,us',rfl,h1,h2⟩:=hx;exact⟨u,us',rfl,nK hw Cq hf him hnb hbl c u0 u k1 h1,Oh hw Cq hf him hnb hbl cs us0' us' k2 h2⟩
end
def Env.trim (E:Env) (bx:List (List AV)):Env:={E with h:=⟨bx,E.h.fams⟩}
theorem bq {l bx:List (List AV)} (hb:l.take bx.length=bx):bx.length<=l.length/\∀i,i<bx.length->l[i]?=bx[i]?:=by
 have h1:=congrArg List.length hb;rw[List.length_take]at h1;refine⟨by omega,λi hi=>?_⟩;rw[←hb,List.getElem?_take,if_pos hi]
theorem Yl {E:Env} {bx:List (List AV)} (hb:E.h.boxes.take bx.length=bx) {b o:Nat} (h:E.ok b o):(E.trim bx).ok b o:=by
 obtain⟨h1,h2⟩:=bq hb;rcases h with h|⟨k1,k2,k3,k4⟩
 .exact .inl h
 .refine .inr ⟨k1,k2,λi hi he=>?_,k4⟩;have CW:i<bx.length:=hi;obtain⟨cs,KE⟩:=k3 i (by omega) he;exact⟨cs,by show bx[i]?=_;rw[←h2 i CW];exact KE⟩
theorem mj {E0 E:Env} (he:Ext E0 E) (hb:E.h.boxes.take E0.h.boxes.length=E0.h.boxes):Ext E0 (E.trim E0.h.boxes) :=
 ⟨λb o h=>⟨Yl hb (he.cells b o h).1,(he.cells b o h).2⟩,Nat.le_refl _,he.nb,he.fams,he.im,he.base,he.ok0,he.below⟩
theorem qA {E0 E:Env} (h0:SR E0) (h:SR E) (he:Ext E0 E) (hb:E.h.boxes.take E0.h.boxes.length=E0.h.boxes):SR (E.trim E0.h.boxes):=by
 obtain⟨p1,p2⟩:=bq hb;have Cq:∀b o,E.ok b o->(E.trim E0.h.boxes).ok b o:=λb o k=>Yl hb k;have Gx:∀b o,E.ok b o->(E.trim E0.h.boxes).ok b o/\Ig E.w (E.trim E0.h.boxes).w b o:=λb o k=>⟨Cq b o k,Ig.refl _ _ _⟩;refine⟨h.basele,λi cs hi=>?_,λk f hk=>?_,λi j hi hj=>h.inj i j ?_ ?_,h.injf,λi k hi hk=>h.sep i k ?_ hk⟩
 .have CW:E0.h.boxes[i]?=some cs:=hi;have A7:=(A0D.1 CW).1;have hE:E.h.boxes[i]?=some cs:=by rw[p2 i A7];exact CW
  obtain⟨b1,b2⟩:=h.boxes i cs hE;refine⟨b1,?_⟩;rcases b2 with ⟨cur,t,h2,h3,h4⟩|⟨ks,vs,es,clk,e,h2,h3,h4⟩|⟨ys,cur,t,e,h2,h3,h4⟩
  .refine .inl ⟨cur,t,h2,?_,h4⟩;obtain⟨_,c2⟩:=h0.boxes i cs CW;rcases c2 with ⟨cur0,t0,g2,g3,g4⟩|⟨ks,vs,es,clk,e,_⟩|⟨ys,cur0,t0,e,_⟩
   .exact Oh (E0:=E0) (E:=E) (E':=E.trim E0.h.boxes) rfl Cq rfl rfl rfl rfl cs _ _ g3 h3
   .subst e;simp only[Au,VR,false_and,and_false,exists_false]at h3
   .subst e;simp only[Au,VR,false_and,and_false,exists_false]at h3
  .exact .inr (.inl ⟨ks,vs,es,clk,e,h2,Y0 Gx _ _ h3,Y0 Gx _ _ h4⟩)
  .exact .inr (.inr ⟨ys,cur,t,e,h2,Y0 Gx _ _ h3,h4⟩)
 .have hf:=h.fams k f hk;obtain⟨cur,t,h2,h3,h4⟩:=hf.cells;exact⟨hf.base,hf.sz,hf.lo,hf.room,hf.cap,cur,t,h2,h3,λi x hi hx=>⟨(h4 i x hi hx).1,λc y hc=>by
   obtain⟨v,v1,v2,v3⟩:=(h4 i x hi hx).2 c y hc;exact⟨v,v1,v2,Co Gx _ _ v3⟩⟩⟩
 .have:i<E0.h.boxes.length:=hi;omega
 .have:j<E0.h.boxes.length:=hj;omega
 .have:i<E0.h.boxes.length:=hi;omega
def OL (P:Program) (O:Orc):Prop :=
 ∀(f:FuncId) (args:List AV) (r:AV),O.pure f args=some r->Program.enterable P f=true /\
  ∀(w:World) (ok0:Nat->Nat->Prop) (vs:Array Value),(∀b o,ok0 b o->b<w.heap.size)->Cg w ok0 args vs.toList ->
   Calls P f vs w λe w'=>∃u,e=.returned u/\Bl w.heap.size w w'/\PV w' (λb o=>ok0 b o\/(w.heap.size<=b/\b<w'.heap.size)) r u
def Vf (P:Program) (O:Orc):Prop :=
 ∀(f:FuncId) (args:List AV) (h:AH) (r:AV) (h':AH),O.raw f args h=some (r,h')->Program.enterable P f=true /\
  ∀(E:Env) (vs:Array Value),SR E->E.h=h->Au E args vs.toList ->
   Calls P f vs E.w λe w'=>∃u E',e=.returned u/\w'=E'.w/\Ext E E'/\SR E'/\E'.h=h'/\VR E' r u
mutual
theorem VM {w w':World} {ok ok':Nat->Nat->Prop}:∀{x:AV} {v:Value},x.scalar1=true->PV w ok x v->PV w' ok' x v:=by
 intro x v hs h;cases x<;>simp only[AV.scalar1]at hs<;>first|(cases hs;done)|simpa[PV]using h
end
theorem TM {w w':World} {ok ok':Nat->Nat->Prop}:∀{xs:G1} {vs:List Value},(∀x∈xs,x.scalar1=true)->Cg w ok xs vs->Cg w' ok' xs vs
 | [],vs,_,h=>by simpa[Cg]using h
 |x::xs,vs,hs,h=>by
  simp only[Cg]at h ⊢;obtain⟨u,us,rfl,h1,h2⟩:=h;exact⟨u,us,rfl,VM (hs x (by simp)) h1,TM (λy hy=>hs y (by simp[hy])) h2⟩
theorem VL {w w':World} {ok ok':Nat->Nat->Prop} {x:AV} {v:Value} (hs:x.scalar0=true) (h:PV w ok x v):PV w' ok' x v:=by
 unfold AV.scalar0 at hs;split at hs
 .rename_i cs;simp only[PV]at h ⊢;obtain⟨us,rfl,h1,h2⟩:=h;exact⟨us,rfl,h1,TM (by simpa using hs) h2⟩
 .exact VM hs h
theorem Rq {w w':World} {ok ok':Nat->Nat->Prop}:∀{xs:G1} {vs:List Value},(∀x∈xs,x.scalar0=true)->Cg w ok xs vs->Cg w' ok' xs vs
 | [],vs,_,h=>by simpa[Cg]using h
 |x::xs,vs,hs,h=>by
  simp only[Cg]at h ⊢;obtain⟨u,us,rfl,h1,h2⟩:=h;exact⟨u,us,rfl,VL (hs x (by simp)) h1,Rq (λy hy=>hs y (by simp[hy])) h2⟩
theorem jS {w w':World} {ok ok':Nat->Nat->Prop} {x:AV} {v:Value} (hs:x.scalar=true) (h:PV w ok x v):PV w' ok' x v:=by
 unfold AV.scalar at hs;split at hs
 .rename_i vs;simp only[PV]at h ⊢;obtain⟨us,rfl,h2⟩:=h;exact⟨us,rfl,Rq (by simpa using hs) h2⟩
 .exact VL hs h
theorem WT {h:AH} {x:AV} (ht:MO h x=true):Dy h true x=Dy h false x:=by
 cases x<;>simp only[Dy]
 case mp b=>simp[MO]at ht
 case sl k n off len =>
  unfold MO at ht;cases hf:h.fams[k]? with
  |none=>rfl
  |some f =>
   simp only[hf]at ht ⊢;simp[ht]
theorem WU {h:AH}:∀{xs:G1},xs.all (MO h)=true->Qi h true xs=Qi h false xs
 | [],_=>rfl
 |x::xs,ht=>by
  simp only[A0G,A0B]at ht;simp only[Qi,WT ht.1,WU ht.2]
theorem kV {h:AH} {x:AV} (ht:Ef h x=true):JW h true x=JW h false x:=by
 unfold JW;split
 .rename_i cs;rw[WU (by simpa[Ef]using ht)]
 .rename_i hx;refine WT ?_;unfold Ef at ht;split at ht
  .exact absurd rfl (hx _)
  .exact ht
theorem Sv {h:AH}:∀{xs:G1},xs.all (Ef h)=true->Ay h true xs=Ay h false xs
 | [],_=>rfl
 |x::xs,ht=>by
  simp only[A0G,A0B]at ht;simp only[Ay,kV ht.1,Sv ht.2]
section
variable {E:Env} {P:Program} {fr:Fr} {a:Act} {o:Oper} {O:Orc} {c:Ctx}
theorem cO (hP:OL P O) (hR:Vf P O) (hS:SR E) {f:FuncId} {args:G1} {vs:Array Value} {r:AV} {h':AH} (hv:Au E args vs.toList) (h:Jn O c f args E.h=some (r,h')) :
  Program.enterable P f=true/\Calls P f vs E.w λe w'=>∃u E',e=.returned u/\w'=E'.w/\Ext E E'/\SR E'/\E'.h=h'/\VR E' r u:=by
 unfold Jn at h;split at h
 .obtain⟨Ei,e1,e2⟩:=Zl h;obtain⟨h1,h2⟩:=hR f args E.h r Ei e1;refine⟨h1,?_⟩;rcases e2 with e2|⟨e2,e3,e4⟩
  .subst e2;exact h2 E vs hS rfl hv
  .refine(h2 E vs hS rfl hv).mono λe w' ⟨u,E',k1,k2,k3,k4,k5,k6⟩=>?_;have hb:E'.h.boxes.take E.h.boxes.length=E.h.boxes:=by rw[k5];exact e3
   refine⟨u,E'.trim E.h.boxes,k1,k2,mj k3 hb,qA hS k4 k3 hb,?_,NV (E:=E') (E':=E'.trim E.h.boxes) rfl (λb o k=>Yl hb k) rfl rfl _ _ e2 k6⟩;show (⟨E.h.boxes,E'.h.fams⟩:AH)=h';rw[k5];exact e4.symm
 .split at h
  .cases h
  .rename_i aas has;split at h
   .cases h
   .rename_i q hq;split at h
    .rename_i hc;cases h;obtain⟨h1,h2⟩:=hP f aas r hq;refine⟨h1,?_⟩;by_cases hs:r.scalar=true
     .have hpv:=Kb hS (am:=true) (ok':=λb _=>b<E.w.heap.size) ⟨λb o ho=>Ra hS ho,λ_ b _ _ hb=>hb⟩ hv has;refine(h2 E.w (λb _=>b<E.w.heap.size) vs (λ_ _ hb=>hb) hpv).mono λe w' ⟨u,he,hb,hu⟩=>?_;exact⟨u,{E with w:=w'},he,rfl,Az hS hb,Ff hS hb,rfl,Du _ _ (jS hs hu)⟩
     .have ht:args.all (Ef E.h)=true:=by simpa[hs]using hc
      rw[Sv ht]at has;have hpv:=Kb hS (am:=false) (ok':=E.ok) ⟨λ_ _ h=>h,λh=>by cases h⟩ hv has;refine(h2 E.w E.ok vs (λb o hb=>Ra hS hb) hpv).mono λe w' ⟨u,he,hb,hu⟩=>?_;have hx:=Az hS hb;refine⟨u,{E with w:=w'},he,rfl,hx,Ff hS hb,rfl,Du _ _ (Co (λb o ho=>⟨?_,Ig.refl _ _ _⟩) _ _ hu)⟩
      rcases ho with ho|ho
      .exact(hx.cells b o ho).1
      .refine .inr ⟨Nat.le_trans hS.basele ho.1,ho.2,λi hi=>?_,λk g hk he=>?_⟩
       .have:=(hS.nb_lt hi).2;intro e;have e':E.nb i=b:=e;omega
       .have:=(hS.im_lt (A0D.1 hk).1).2;have he':(E.im k).b=b:=he;omega
    .cases h
theorem ZV {f:FuncId} (he:Program.enterable P f=true) (args:Array Value) (w:World):(callFunc f args).run P w=.ok (.enter f args) w:=by
 unfold Program.enterable at he;unfold callFunc;split at he
 .rename_i fn hfn;simp only[A0B,Bool.not_eq_true']at he;have P1:fn.name≠ "runtime.NumGoroutine":=by simpa using he.2
  have h1:fn.body≠none:=by intro h;rw[h]at he;simp at he
  simp[hfn,P1,h1]
 .cases he
theorem lQ {α β:Type} {f:α->β} {x:Option α} {r:β} (h:x.map f=some r):∃y,r=f y:=by
 cases x with
 |none=>cases h
 |some y=>exact⟨y,by simpa using h.symm⟩
def UV:Op->Bool
 | .call {callee:=.value _,args:=_,argTypes:=_}=>true
 |_=>false
theorem gO {p:Op} {r:ROp} (hr:j0 P p=some r) (hp:UV p=false):r.isCall=false:=by
 unfold j0 at hr
 repeat' (split at hr)
 all_goals first
  |(cases hr;done)
  |(cases hr;rfl)
  |(obtain⟨y,rfl⟩:=lQ hr;rfl)
  |(exfalso;simp[UV]at hp;done)
theorem vv (hP:OL P O) (hR:Vf P O) (hS:SR E) (hf:FR E fr a.tmps) {r r0:ROp} (hr:j0 P o.op=some r0) (CB:r=r0\/∃m,r=r0.lax m) {v:AV} {h':AH} (E9:A8 O c r fr E.h=some (v,h'))
  {K:Act->World->Prop} {Q:Exit->Act->World->Prop} (hK:∀u E',Ext E E'->SR E'->E'.h=h'->VR E' v u->K (a.put o.dst u) E'.w):o.wp P a E.w K Q:=by
 by_cases hnc:r.isCall=false
 .obtain⟨nx,u,E',h1,h2,h3,h4,h5,h6⟩:=ol (c:=c) hS hf hr CB E9 hnc;unfold Oper.wp;rw[h1];rcases h2 with rfl|⟨rfl,rfl⟩
  .exact hK u E' h3 h4 h5 h6
  .exact hK undef E' h3 h4 h5 h6
 .have hcalls:∀(f:FuncId) (vs:Array Value) (args:List AV),Au E args vs.toList->Jn O c f args E.h=some (v,h')->(execOp a.eval o).run P E.w=(callFunc f vs).run P E.w->o.wp P a E.w K Q:=by
   intro f vs args hv hc hx;obtain⟨h1,h2⟩:=cO hP hR hS hv hc;unfold Oper.wp;rw[hx,ZV h1];refine Calls.mono h2 λe w' ⟨u,E',he,hw,k1,k2,k3,k4⟩=>?_;subst he;subst hw;exact hK u E' k1 k2 k3 k4
  by_cases hp:UV o.op=false
  .have h1:=gO hr hp;rcases CB with rfl|⟨_,rfl⟩
   .exact absurd h1 hnc
   .refine absurd ?_ hnc;cases r0<;>first|rfl|exact h1|(rename_i m _ _ _;obtain⟨m,mk⟩:=m;cases m with|none=>rfl|some b=>cases b<;>rfl)|(rename_i m _ _ _ _;obtain⟨m,mk⟩:=m;cases mk<;>rfl)
  .cases BV:o.op<;>rw[BV]at hp hr<;>try (exact absurd rfl hp)
   rename_i q;obtain⟨callee,args,ats⟩:=q;cases callee with
   |invoke x m=>exact absurd rfl hp
   |builtin b=>exact absurd rfl hp
   |value x =>
    cases x<;>simp only[j0]at hr<;>try (cases hr;done)
    case tmp t =>
     simp only[A0A]at hr;obtain⟨aas,has,rfl⟩:=hr;obtain rfl:r=.callv (.t t) aas:=by rcases CB with h|⟨_,h⟩<;>exact h
     simp only[A8]at E9;split at E9
     .rename_i f caps hg;have E9:Jn O c f (aas.map (get fr)++caps) E.h=some (v,h'):=by
       split at E9
       .cases E9
       .exact E9
      have hv:=hf.val t;have f7:fr.getD t C3=.fn f caps:=hg;rw[f7]at hv;simp only[VR]at hv;obtain⟨us,e1,e2⟩:=hv;refine hcalls f (args.map a.eval++us) _ ?_ E9 ?_
      .have:=QY (Nr hf has) e2;simpa using this
      .simp[execOp,BV,resolve,Act.eval,e1,Deferred.ofValue,invoke]
     .cases E9
    case func f =>
     split at hr
     .simp only[A0A]at hr;obtain⟨aas,has,rfl⟩:=hr;obtain rfl:r=.call f aas:=by rcases CB with h|⟨_,h⟩<;>exact h
      simp only[A8]at E9;refine hcalls f (args.map a.eval) _ (Nr hf has) E9 ?_;simp[execOp,BV,resolve,Act.eval,Deferred.ofValue,invoke]
     .cases hr
end
def PQ (O:Orc) (c:Ctx) (o:RO) (fr:Fr) (h:AH):Option (AV×AH) :=
 match Ep fr o.guard with
 |some true=>A8 O c o.op fr h
 |some false=>some (C3,h)
 |none=>none
theorem RQ (O:Orc) (c:Ctx) (o:RO) (rest:List RO) (fr:Fr) (h:AH) :
  J7 O c (o::rest) fr h=(PQ O c o fr h).bind λx=>J7 O c rest (put fr o.dst x.1) x.2:=by
 unfold PQ;simp only[J7];cases Ep fr o.guard with
 |none=>rfl
 |some b =>
  cases b with
  |false=>rfl
  |true =>
   dsimp only;cases A8 O c o.op fr h with
   |none=>rfl
   |some x=>rfl
structure RORel (P:Program) (ops:List Oper) (o:Oper) (ro:RO):Prop where
 dst:ro.dst=o.dst
 guard:Rn ops o.guard=some ro.guard
 op:∃r0,j0 P o.op=some r0/\(ro.op=r0\/∃m,ro.op=r0.lax m)
theorem Wy {P:Program} {ops:List Oper} {o:Oper} {ro:RO} (h:Wx P ops o=some ro):RORel P ops o ro:=by
 unfold Wx at h;split at h
 .rename_i r g h1 h2;cases h;exact⟨rfl,h2,r,h1,.inl rfl⟩
 .cases h
theorem RORel.lax {P:Program} {ops:List Oper} {o:Oper} {ro:RO} (m:Option Bool×Bool) (h:Wx P ops o=some ro):RORel P ops o (ro.lax m):=by
 unfold Wx at h;split at h
 .rename_i r g h1 h2;cases h;exact⟨rfl,h2,r,h1,.inr ⟨m,rfl⟩⟩
 .cases h
section
variable {P:Program} {O:Orc} {c:Ctx}
theorem Ru {E:Env} {fr:Fr} {a:Act} (hf:FR E fr a.tmps) {ops:Array Oper} {o:Oper} {g:Option (Nat×Bool)} (hg:Rn ops.toList o.guard=some g) {b:Bool} (hw:Ep fr g=some b) :
  Region.wanted o (yielded ops a.tmps)=b:=by
 unfold Rn at hg;unfold Region.wanted;split at hg
 .rename_i h0;cases hg;simp[Ep]at hw;simp[h0,hw]
 .rename_i j want h0;split at hg
  .rename_i o' ho';split at hg
   .rename_i d hd;cases hg;have hv:=hf.val d;have hy:((ops[j]?).bind (·.dst))=some d:=by
     have:ops[j]?=some o':=by simpa using ho'
     simp[this,hd]
    simp only[h0];simp only[Ep]at hw;unfold yielded;simp only[hy,Option.bind_some];split at hw
    .rename_i b' hb;cases hw;rw[hb]at hv;simp only[VR]at hv;have:a.tmps[d]?=some (.bool b'):=by
      rw[A0C]at hv;cases h1:a.tmps[d]? with
      |none=>rw[h1]at hv;simp[undef]at hv
      |some u=>rw[h1]at hv;simpa using hv
     simp only[this];cases b'<;>cases want<;>rfl
    .rename_i vs hb;cases hw;rw[hb]at hv;simp only[VR]at hv;obtain⟨us,e,_⟩:=hv;have:∀b',a.tmps[d]?≠some (.bool b'):=by
      intro b' h1;rw[A0C,h1]at e;simp at e
     cases h1:a.tmps[d]? with
     |none=>rfl
     |some u =>
      cases u<;>first|rfl|exact absurd h1 (this _)
    .cases hw
   .cases hg
  .cases hg
theorem fj (hP:OL P O) (hR:Vf P O) {E:Env} {fr:Fr} {a:Act} (hS:SR E) (hf:FR E fr a.tmps) {ops:Array Oper} {o:Oper} {ro:RO} (hr:RORel P ops.toList o ro) {v:AV} {h':AH} (E9:PQ O c ro fr E.h=some (v,h'))
  {K:Act->World->Prop} {Q:Exit->Act->World->Prop} (hK:∀u E',Ext E E'->SR E'->E'.h=h'->VR E' v u->K (a.put o.dst u) E'.w) :
  if Region.wanted o (yielded ops a.tmps)then o.wp P a E.w K Q else K (a.put o.dst undef) E.w:=by
 unfold PQ at E9;split at E9
 .rename_i hw;rw[if_pos (Ru hf hr.guard hw)];obtain⟨r0,h1,h2⟩:=hr.op;exact vv hP hR hS hf h1 h2 E9 hK
 .rename_i hw;cases E9;have:=Ru hf hr.guard hw;rw[if_neg (by simp[this])];exact hK undef E (Ext.refl E) hS rfl (Dv E)
 .cases E9
theorem aR (hP:OL P O) (hR:Vf P O) {ops:Array Oper} {Q:Exit->Act->World->Prop} :
  ∀(l:List Oper) (M5:List RO),M5.length=l.length->(∀(i:Nat) (o:Oper) (ro:RO),l[i]?=some o->M5[i]?=some ro->RORel P ops.toList o ro) ->
   ∀(E:Env) (fr:Fr) (a:Act) (C6:Fr) (h':AH),SR E->FR E fr a.tmps->J7 O c M5 fr E.h=some (C6,h') ->
    (∀a' E',Ext E E'->SR E'->E'.h=h'->FR E' C6 a'.tmps->a'.defers=a.defers->Q .normal a' E'.w)->wpList P ops Q l a E.w
 | [],M5,hl,_,E,fr,a,C6,h',hS,hf,E9,hQ=>by
  have:M5=[]:=List.eq_nil_of_length_eq_zero (by simpa using hl);subst this;simp only[J7]at E9;cases E9;exact hQ a E (Ext.refl E) hS rfl hf rfl
 |o::l,M5,hl,hrel,E,fr,a,C6,h',hS,hf,E9,hQ=>by
  cases M5 with
  |nil=>simp at hl
  |cons ro M5 =>
   rw[RQ,Option.bind_eq_some_iff]at E9;obtain⟨⟨v,h1⟩,Gx,hrest⟩:=E9;have hr:=hrel 0 o ro rfl rfl;have:=fj (Q:=Q) hP hR hS hf hr Gx (K:=wpList P ops Q l) (λu E' hx hS' he hv=>by
    refine aR hP hR l M5 (by simpa using hl) (λi o' ro' h1 h2=>hrel (i+1) o' ro' (by simpa using h1) (by simpa using h2)) E' (put fr ro.dst v) (a.put o.dst u) C6 h' hS' ?_ (by rw[he];exact hrest) λa' E'' hx' hS'' he' hf' hd=>?_
    .rw[hr.dst];exact FR.put (FR.ext hx hf) o.dst hv
    .refine hQ a' E'' (hx.trans hx') hS'' he' hf' (hd.trans ?_);cases o.dst<;>rfl)
   unfold wpList;split
   .rename_i hw;rw[if_pos hw]at this;exact .inl this
   .rename_i hw;rw[if_neg hw]at this;exact this
end
end Go.Abs
