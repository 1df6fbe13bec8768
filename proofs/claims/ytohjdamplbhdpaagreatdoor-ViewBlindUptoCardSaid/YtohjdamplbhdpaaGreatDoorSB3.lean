/- A part of the proof. -/
import Derived.Test.YtohjdamplbhdpaaGreatDoorSB2
import Derived.MapKept
import Derived.Laws.BytesArg
set_option linter.all false
open List renaming getElem?_eq_some_iff->A0O,getElem?_append_left->A0P,getElem?_append_right->A0Q,eq_nil_of_length_eq_zero->A0R,replicate->A0S,getElem?_eq_getElem->A0U,getElem?_set_ne->A0Z,getElem?_map->A0a,map_cons->A0b,getElem?_drop->A0d,getElem?_take->A0e,length_append->A0f,getElem?_set->A0g,map_nil->A0h,getElem?_toArray->A0i,getElem?_range->A0j,append_assoc->A0m,ext_getElem?->A0n,map_toArray->A0p,map_append->A0q,all_cons->A0r,map_set->A0t
open Nat renaming le_refl->A0T,mul_le_mul_right->A0V,add_mul->A0W,eq_zero_or_pos->A0k,add_zero->A0u,le_of_eq->A0v,le_trans->A0w,mul_comm->A0x,zero_le->A0y
open Option renaming map_eq_some_iff->A0X
open Array renaming getElem?_toList->A0Y,getElem?_setIfInBounds_ne->A0c,toList_push->A0l
open Bool renaming and_eq_true->A0o
open Int renaming mul_comm->A0s
namespace Go.Abs
open Go.RowKit (Below)
section
variable {E:Env} {P:Program} {fr:Fr} {a:Act} {o:Oper}
theorem TI {us:Array Value} {xs:G4} {sz:Nat} (h:KG E us.toList xs sz) (i:Nat) (x:AV) (hx:xs[i]?=some x):Ny E us (i*sz) sz x:=by
 obtain⟨h1,h2⟩:=h i x hx;exact⟨h1,λc y hc=>by obtain⟨v,v1,v2,v3⟩:=h2 c y hc;exact⟨v,by simpa using v1,v2,v3⟩⟩
theorem mR {t e:TypeId} {l c:Operand} {l' c':Opd} {z:AV} {i:TypeInfo} {k1 k2:IntKind} {x y:Int} (hS:SR E) (hf:FR E fr a.tmps) (ho:o.op=.makeSlice t l c) (hu:P.underlying t=some (.slice e)) (hi:P.info? e=some i) (hz:Program.zeroA P e=some z)
  (M3:0<i.size) (hl:D7 l=some l') (hc:D7 c=some c') (hx:get fr l'=.int k1 x) (hy:get fr c'=.int k2 y) (h0:0<=x) (hxy:x<=y) (hb:y*i.bytes<=H3) (hm:y<=maxLen) :
  Pi P a o E (.sl E.h.fams.length x.toNat 0 x.toNat) {E.h with fams:=E.h.fams++[⟨A0S x.toNat z,z.cells.length,true⟩]}:=by
 have e1:=D8 hf hl;have e2:=D8 hf hc;rw[hx]at e1;rw[hy]at e2;simp only[VR]at e1 e2;obtain⟨zv,h2,xb,h3,hr,h1⟩:=SL (E:=E) hz (n:=y.toNat) hi M3;have hrun:=run_make (P:=P) E.w t e i zv hu hi h2 k1 k2 x y h0 hxy (by rw[A0s];unfold H3 at hb;omega) (by unfold maxLen at hm;omega);have B9:(A0S x.toNat z).length=x.toNat:=by simp
 have Ul:∀(j:Nat) (w:AV),(A0S x.toNat z)[j]?=some w->Ny E (madeCells zv.cells (y.toNat*i.size)) (j*z.cells.length) z.cells.length w:=by
  intro j w hw;rw[xb];refine TI hr j w ?_;rw[List.getElem?_replicate]at hw ⊢;split at hw
  .rename_i hj;cases hw;rw[if_pos (by omega)]
  .cases hw
 refine⟨_,.slice (some ⟨E.w.heap.size,0,none⟩) x.toNat y.toNat,E.newFam (madeCells zv.cells (y.toNat*i.size)) e y.toNat ⟨A0S x.toNat z,z.cells.length,true⟩,?_,.inl rfl,Kc hS _ _ _ _,
  PY hS (by simpa[xb]using M3) (by simp;omega) (by omega) (by simp[size_madeCells,xb]) Ul,rfl,?_⟩
 .simp only[execOp,ho,e1,e2,Sem.run_bind,hrun,Result.andThen_ok,Sem.run_pure,Env.newFam]
 .simp only[VR,Env.newFam,u7];refine⟨_,_,⟨A0S x.toNat z,z.cells.length,true⟩,rfl,by simp,⟨by simp,λ_=>⟨_,_,rfl⟩⟩,λ_=>⟨A0y _,by simp,by simp,(λh=>nomatch h),λ_=>by simp⟩⟩
theorem kY {n sz j:Nat} (J5:0<sz) (hj:j<n*sz):j / sz<n/\j % sz<sz/\j / sz*sz+j % sz=j :=
 ⟨Nat.div_lt_of_lt_mul (by rwa [A0x]),Nat.mod_lt _ J5,by rw[A0x];exact Nat.div_add_mod j sz⟩
def qJ (E:Env) (b q sz:Nat) (ys:List AV):Prop :=
 ∀(i:Nat) (x:AV),ys[i]?=some x->x.cells.length=sz/\∀(c:Nat) (y:AV),x.cells[c]?=some y->∃v,E.w.cell? ⟨b,q+i*sz+c,none⟩=some v/\v.oneCell'=true/\PV E.w E.ok y v
theorem OC {b q sz:Nat} {ys:G4} (J5:0<sz) (h:qJ E b q sz ys) :
  ∃news:List Value,news.length=ys.length*sz/\(∀(j:Nat) (u:Value),news[j]?=some u->E.w.cell? ((⟨b,q,none⟩:Addr).add j)=some u)/\(∀u∈news,u.oneCell'=true)/\KG E news ys sz:=by
 have hex:∀j,j<ys.length*sz->∃u,E.w.cell? ⟨b,q+j,none⟩=some u/\u.oneCell'=true/\∃y x,ys[j / sz]?=some x/\x.cells[j % sz]?=some y/\PV E.w E.ok y u:=by
  intro j hj;obtain⟨h1,h2,h3⟩:=kY J5 hj;obtain⟨g1,g2⟩:=h (j / sz) _ (A0U h1);obtain⟨v,v1,v2,v3⟩:=g2 (j % sz) _ (A0U (by omega));rw[show q+j / sz*sz+j % sz=q+j from by omega]at v1;exact⟨v,v1,v2,_,_,A0U h1,A0U _,v3⟩
 have hpick:∃g:Nat->Value,∀j,j<ys.length*sz->E.w.cell? ⟨b,q+j,none⟩=some (g j)/\(g j).oneCell'=true/\∃y x,ys[j / sz]?=some x/\x.cells[j % sz]?=some y/\PV E.w E.ok y (g j):=by
  refine⟨λj=>if hj:j<ys.length*sz then Classical.choose (hex j hj)else default,λj hj=>?_⟩
  simp only[hj,dif_pos];exact Classical.choose_spec (hex j hj)
 obtain⟨g,hg⟩:=hpick;refine⟨(List.range (ys.length*sz)).map g,by simp,λj u hu=>?_,λu hu=>?_,λi x hx=>?_⟩
 .rw[A0a]at hu;by_cases hj:j<ys.length*sz
  .rw[A0j hj]at hu;simp at hu;subst hu;rw[FQ];exact(hg j hj).1
  .rw[List.getElem?_eq_none (by simpa using hj)]at hu;simp at hu
 .simp at hu;obtain⟨j,hj,rfl⟩:=hu;exact(hg j hj).2.1
 .obtain⟨g1,g2⟩:=h i x hx;refine⟨g1,λc y hc=>?_⟩;obtain⟨v,v1,v2,v3⟩:=g2 c y hc;have hi:i<ys.length:=(A0O.1 hx).1;have Lr:c<sz:=by have:=(A0O.1 hc).1;omega
  have A7:=DA hi Lr;refine⟨v,?_,v2,v3⟩;rw[A0a,A0j A7];have:=(hg _ A7).1;rw[show q+(i*sz+c)=q+i*sz+c from by omega]at this;rw[this]at v1;simpa using v1
theorem LZ (hS:SR E) {sz:Nat} (J5:0<sz) {x:AV} {v:Value} {ys:G4} (hv:VR E x v) (h:AS E.h sz x=some ys) :
  ∃ad c,v=.slice ad ys.length c/\(ad=none->ys.length=0)/\(ys≠[]->∃b q,ad=some ⟨b,q,none⟩/\qJ E b q sz ys):=by
 unfold AS at h;split at h
 .rename_i full z xs;split at h
  .rename_i hz;cases h;simp only[VR,PV]at hv;obtain⟨ad,len,cap,rfl,rfl,h2,h3,h4,h5,h6⟩:=hv;refine⟨ad,cap,rfl,λhn=>by have:=h5.1 hn;omega,λP6=>?_⟩;obtain⟨b,q,rfl,_,hels⟩:=h6 P6;have:z=sz:=by
    rcases hz with hz|hz
    .exact hz
    .exact absurd (A0R hz) P6
   subst this;refine⟨b,q,rfl,λi x hx=>?_⟩;obtain⟨p1,p2⟩:=Qp hels hx;refine⟨p1,λc y hc=>?_⟩;obtain⟨u,_,u2,u3,u4⟩:=KR p2 hc;exact⟨u,u2,u3,u4⟩
  .cases h
 .rename_i k n off len;split at h
  .rename_i f hfk;split at h
   .rename_i hc;cases h;obtain⟨hn,hz,ho⟩:=hc;simp only[VR]at hv;obtain⟨ad,cap,f',rfl,hf',_,hcc⟩:=hv;have:f'=f:=by rw[hfk]at hf';simpa using hf'.symm
    subst this;obtain⟨l1,l2,l3,l4,l5⟩:=hcc hn;have hF:=hS.fams k f' hfk;have BG:=hF.room;have B9:((f'.xs.drop off).take len).length=len:=by simp;omega
    refine⟨ad,cap,by rw[B9],λh=>absurd h l4,λP6=>?_⟩;have M3:0<len:=by
     rcases A0k len with h0|h0
     .subst h0;simp at P6
     .exact h0
    refine⟨_,_,l5 (by omega),λi x hx=>?_⟩;have hi:i<len:=by have:=(A0O.1 hx).1;omega
    have hx':f'.xs[off+i]?=some x:=by
     rw[A0e,if_pos hi,A0d]at hx;exact hx
    obtain⟨cur,t,c1,c2,c3⟩:=hF.cells;obtain⟨e1,e2⟩:=c3 (off+i) x (by omega) hx';refine⟨by omega,λc y hc=>?_⟩;obtain⟨u,u1,u2,u3⟩:=e2 c y hc;refine⟨u,?_,u2,u3⟩;rw[cell_of_row _ _ _ _ _ _ c1];rw[show (E.im k).o+(off-(E.im k).lo)*f'.sz+i*sz+c=(E.im k).o+(off+i-(E.im k).lo)*f'.sz+c from by
     rw[show off+i-(E.im k).lo=(off-(E.im k).lo)+i from by omega,A0W,hz];omega]
    exact u1
   .cases h
  .cases h
 .cases h
theorem Qi (t ty e:TypeId) (i:TypeInfo) (ht:P.underlying t=some (.slice e)) (hi:P.info? e=some i) (base ad:Option Addr) (n c m:Nat) (hnc:n<=c) (w:World) :
  (Builtin.append_ #[t,t] ty #[.slice base n c,.slice ad 0 m]).run P w=.ok (.slice base n c) w:=by
 have hf:(Builtin.firstCells i.size 0 (.slice ad 0 m)).run P w=.ok #[] w:=by
  cases ad<;>simp[Builtin.firstCells,loadCells,loadCellsFrom]
 cases base<;>simp[Builtin.append_,run_underlying ht,sizeOf,typeInfo,hi,Builtin.lenOf,hnc,hf,storeCells]
theorem ZK (t ty e:TypeId) (i:TypeInfo) (ht:P.underlying t=some (.slice e)) (hi:P.info? e=some i)
  (g q sLen sCap:Nat) (cur:Array Value) (t':TypeId) (w:World) (hg:w.heap[g]?=some (.cells cur t' (0,0)))
  (a:Addr) (m c:Nat) (news:List Value) (hl:news.length=m*i.size) (hnews:∀j u,news[j]?=some u->w.cell? (a.add j)=some u) (h1:∀u∈news,u.oneCell'=true)
  (BG:sLen+m<=sCap) (Dr:q+sLen*i.size+news.length<=cur.size) :
  (Builtin.append_ #[t,t] ty #[.slice (some ⟨g,q,none⟩) sLen sCap,.slice (some a) m c]).run P w =
   .ok (.slice (some ⟨g,q,none⟩) (sLen+m) sCap) (w.setRow g (cur.toList.take (q+sLen*i.size)++news++cur.toList.drop (q+sLen*i.size+news.length)).toArray):=by
 have hf:=run_firstCells_some (P:=P) w i.size m a m c news hl hnews;have Hi:=run_storeCells_at P g (q+sLen*i.size) t' news 0 cur w hg (by simpa using Dr) h1;simp only[A0u]at Hi;simp[Builtin.append_,run_underlying ht,sizeOf,typeInfo,hi,Builtin.lenOf,BG,hf,FQ,Hi]
theorem TN {B:Nat} (w:World):Bl B w w.drew:=⟨(Below.refl B w).drew,Nat.le_succ _⟩
theorem OF {us vs:List Value} {xs ys:G4} {sz:Nat} (h1:KG E us xs sz) (hl:us.length=xs.length*sz) (h2:KG E vs ys sz):KG E (us++vs) (xs++ys) sz:=by
 intro i x hx;by_cases hi:i<xs.length
 .rw[A0P hi]at hx;obtain⟨g1,g2⟩:=h1 i x hx;refine⟨g1,λc y hc=>?_⟩;obtain⟨v,v1,v2⟩:=g2 c y hc;exact⟨v,by rw[A0P (A0O.1 v1).1];exact v1,v2⟩
 .rw[A0Q (by omega)]at hx;obtain⟨g1,g2⟩:=h2 _ x hx;refine⟨g1,λc y hc=>?_⟩;obtain⟨v,v1,v2⟩:=g2 c y hc;refine⟨v,?_,v2⟩;have:xs.length*sz<=i*sz:=A0V _ (by omega);rw[A0Q (by omega),hl,show i*sz+c-xs.length*sz=(i-xs.length)*sz+c from by rw[Nat.sub_mul];omega];exact v1
theorem lx {us vs:List Value} {xs:G4} {sz:Nat} (h1:KG E us xs sz):KG E (us++vs) xs sz:=by
 intro i x hx;obtain⟨g1,g2⟩:=h1 i x hx;refine⟨g1,λc y hc=>?_⟩;obtain⟨v,v1,v2⟩:=g2 c y hc;exact⟨v,by rw[A0P (A0O.1 v1).1];exact v1,v2⟩
theorem Qs {E':Env} (h:Ext E E') {us:List Value} {xs:G4} {sz:Nat} (h1:KG E us xs sz):KG E' us xs sz:=by
 intro i x hx;obtain⟨g1,g2⟩:=h1 i x hx;refine⟨g1,λc y hc=>?_⟩;obtain⟨v,v1,v2,v3⟩:=g2 c y hc;exact⟨v,v1,v2,Dt h.cells _ _ v3⟩
end
section
variable {E:Env} {P:Program} {fr:Fr} {a:Act} {o:Oper}
theorem La {args:Array Operand} {ats:Array TypeId} {s x:Operand} {t:TypeId} (ho:o.op=.call {callee:=.builtin .append,args:=args,argTypes:=ats}) (h1:args.toList=[s,x]) (h2:ats.toList=[t,t]) {v:Value} {w w':World}
  (h:(Builtin.append_ #[t,t] o.type #[a.eval s,a.eval x]).run P w=.ok v w'):(execOp a.eval o).run P w=.ok (.value v) w':=by
 rw[bH h1,bH h2]at ho;simp only[execOp,ho,resolve,invoke,builtin,Sem.run_bind,Sem.run_pure,Result.andThen_ok,A0p,A0b,A0h,h]
theorem Zo {us:List Value} {xs:G4} {sz n cap:Nat} (hr:KG E us xs sz) (hl:us.length=n*sz) (z:Array Value) (hz:z.size=sz) (hcap:n<=cap) :
  KG E (us.toArray++Builtin.zeroCells z (cap-n)).toList xs sz/\cap*sz<=(us.toArray++Builtin.zeroCells z (cap-n)).size:=by
 refine⟨?_,?_⟩
 .rw[Array.toList_append];exact lx hr
 .rw[Array.size_append,size_zeroCells,hz,List.size_toArray,hl,←A0W];exact A0V _ (by omega)
theorem Rc {t ty e:TypeId} {i:TypeInfo} {z:Value} (ht:P.underlying t=some (.slice e)) (hi:P.info? e=some i) (hz:i.zero=some z) (hzs:z.cells.size=i.size)
  {base:Option Addr} {n cap:Nat} {olds:List Value} {xs:List AV} (hb:base=none->cap=0) (hnc:n<=cap) (hold:olds.length=n*i.size) (yx:xs.length=n)
  (holds:∀b,base=some b->∀(j:Nat) (u:Value),olds[j]?=some u->E.w.cell? (b.add j)=some u) (hro:KG E olds xs i.size)
  {ad:Addr} {ys:List AV} {c:Nat} {news:List Value} (hl:news.length=ys.length*i.size) (hnews:∀(j:Nat) (u:Value),news[j]?=some u->E.w.cell? (ad.add j)=some u) (hrn:KG E news ys i.size)
  (hg:cap<n+ys.length) (hm:n+ys.length<=maxLen) (hbytes:(n+ys.length)*i.bytes<=H3) :
  ∃us newCap,(Builtin.append_ #[t,t] ty #[.slice base n cap,.slice (some ad) ys.length c]).run P E.w=.ok (.slice (some ⟨E.w.heap.size,0,none⟩) (n+ys.length) newCap) (E.w.drew.alloc (.cells us e)) /\
   n+ys.length<=newCap/\newCap<=maxLen/\newCap*i.size<=us.size/\KG E us.toList (xs++ys) i.size:=by
 have Dr:=growslice_fits hg hbytes;have h63:((n+ys.length:Nat):Int)<=9223372036854775807:=by unfold maxLen at hm;omega
 refine⟨(olds++news).toArray++Builtin.zeroCells z.cells (grownCap E.w (n+ys.length) cap e-(n+ys.length)),grownCap E.w (n+ys.length) cap e,?_,grownCap_ge _ _ _ _,grownCap_le_maxLen _ _ _ _ hm,?_,?_⟩
 rotate_left 1
 .exact(Zo (us:=olds++news) (xs:=xs++ys) (n:=n+ys.length) (OF hro (by rw[hold,yx]) hrn) (by rw[A0f,hold,hl,A0W]) z.cells hzs (grownCap_ge E.w _ cap e)).2
 .exact(Zo (us:=olds++news) (xs:=xs++ys) (n:=n+ys.length) (OF hro (by rw[hold,yx]) hrn) (by rw[A0f,hold,hl,A0W]) z.cells hzs (grownCap_ge E.w _ cap e)).1
 .cases base with
  |none =>
   have hc:=hb rfl;subst hc;have hn0:n=0:=by omega
   subst hn0;have ho0:olds=[]:=A0R (by simpa using hold);subst ho0;have:=run_append_nil (P:=P) E.w t ty e i z ht hi hz ad ys.length c news hl hnews (by omega) (by simpa using h63) (by simp at hbytes;unfold H3 at hbytes;omega);simpa using this
  |some b =>
   have:=run_append_grow (P:=P) E.w t ty e i z ht hi hz b n cap olds hold (holds b rfl) ad ys.length c news hl hnews hg h63 Dr;rw[this];simp
theorem du (hS:SR E):Ext E {E with w:=E.w.drew}:=Bn hS (TN _)
theorem kZ (hS:SR E):SR {E with w:=E.w.drew}:=HJ hS (TN _)
theorem iK {c:Ctx} {args:Array Operand} {ats:Array TypeId} {s x:Operand} {s' x':Opd} {t e:TypeId} {i:TypeInfo} {z:AV} {z0:Nat} {xs ys:G4} (hS:SR E) (hf:FR E fr a.tmps)
  (ho:o.op=.call {callee:=.builtin .append,args:=args,argTypes:=ats}) (h1:args.toList=[s,x]) (h2:ats.toList=[t,t]) (ht:P.underlying t=some (.slice e)) (hi:P.info? e=some i) (hz:Program.zeroA P e=some z) (M3:0<i.size)
  (hs:D7 s=some s') (hx:D7 x=some x') (hg:get fr s'=.vs true z0 xs) (Wc:AS E.h i.size (get fr x')=some ys) (P6:ys.length≠0) (hz0:z0=i.size\/xs.length=0)
  (hb:(xs.length+ys.length)*i.bytes<=H3) (hm:xs.length+ys.length<=maxLen) :
  Pi P a o E (.sl E.h.fams.length (xs.length+ys.length) 0 (xs.length+ys.length)) {E.h with fams:=E.h.fams++[⟨xs++ys,i.size,c.mutApp⟩]}:=by
 obtain⟨i',zv,q1,q2,q3,q4,q5⟩:=Iw hz;rw[hi]at q1;cases q1;have e1:=D8 hf hs;rw[hg]at e1;simp only[VR,PV]at e1;obtain⟨base,len,cap,e2,rfl,e4,e5,e6,e7,e8⟩:=e1;have ecap:cap=xs.length:=e6 trivial;obtain⟨ad,cx,f1,f2,f3⟩:=LZ hS M3 (D8 hf hx) Wc;obtain⟨b,q,rfl,f4⟩:=f3 (by intro h;subst h;simp at P6);obtain⟨news,n1,n2,_,n4⟩:=OC M3 f4;have hold:∃olds:List Value,olds.length=xs.length*i.size/\(∀b,base=some b->∀(j:Nat) (u:Value),olds[j]?=some u->E.w.cell? (b.add j)=some u)/\KG E olds xs i.size:=by
  by_cases hxe:xs=[]
  .subst hxe;exact⟨[],by simp,λb _ j u h=>by simp at h,λj x h=>by simp at h⟩
  .obtain⟨b',q',rfl,_,hels⟩:=e8 hxe;have:z0=i.size:=by
    rcases hz0 with h|h
    .exact h
    .exact absurd (A0R h) hxe
   subst this;obtain⟨olds,o1,o2,_,o4⟩:=OC (E:=E) (b:=b') (q:=q') M3 (ys:=xs) (λj x hj=>by
    obtain⟨p1,p2⟩:=Qp hels hj;refine⟨p1,λc y hc=>?_⟩;obtain⟨u,_,u2,u3,u4⟩:=KR p2 hc;exact⟨u,u2,u3,u4⟩)
   exact⟨olds,o1,λb'' hb''=>by cases hb'';exact o2,o4⟩
 obtain⟨olds,o1,o2,o3⟩:=hold;obtain⟨us,newCap,r1,r2,r3,r4,r5⟩:=Rc (P:=P) (ty:=o.type) ht hi q2 q3 e7.1 e4 o1 rfl o2 o3 n1 n2 n4 (c:=cx) (by omega) hm hb;have hE1:=kZ hS;have hx1:=du hS;refine⟨_,.slice (some ⟨E.w.heap.size,0,none⟩) (xs.length+ys.length) newCap,({E with w:=E.w.drew}:Env).newFam us e newCap ⟨xs++ys,i.size,c.mutApp⟩,?_,.inl rfl,hx1.trans (Kc hE1 _ _ _ _),
  PY hE1 M3 (by simpa using r2) r3 r4 (λj x hj=>TI (Qs hx1 r5) j x hj),rfl,?_⟩
 .refine La ho h1 h2 ?_;rw[e2,f1,r1];rfl
 .simp only[VR,Env.newFam,u7];exact⟨_,_,⟨xs++ys,i.size,c.mutApp⟩,rfl,by simp,⟨by simp,λ_=>⟨_,_,rfl⟩⟩,λ_=>⟨A0y _,by simp,by simp,(λh=>nomatch h),λ_=>by simp⟩⟩
theorem DK {α:Type} {l:List α} {k:Nat} {x:α} (h:l[k]?=some x):l.set k x=l:=by
 apply A0n;intro j;rw[A0g];split
 .rename_i hj;subst hj;have:=(A0O.1 h).1;rw[if_pos this];exact h.symm
 .rfl
theorem mQ {args:Array Operand} {ats:Array TypeId} {s x:Operand} {s' x':Opd} {t e:TypeId} {i:TypeInfo} {z:AV} {k n off len:Nat} {f:Fam} {ys:G4} (hS:SR E) (hf:FR E fr a.tmps)
  (ho:o.op=.call {callee:=.builtin .append,args:=args,argTypes:=ats}) (h1:args.toList=[s,x]) (h2:ats.toList=[t,t]) (ht:P.underlying t=some (.slice e)) (hi:P.info? e=some i) (hz:Program.zeroA P e=some z) (M3:0<i.size)
  (hs:D7 s=some s') (hx:D7 x=some x') (hg:get fr s'=.sl k n off len) (Wc:AS E.h i.size (get fr x')=some ys) (hfk:E.h.fams[k]?=some f) (hn:f.xs.length=n) (J5:f.sz=i.size) (hoff:off+len=n)
  (hb:(n+ys.length)*i.bytes<=H3) (hm:n+ys.length<=maxLen) :
  Pi P a o E (.sl k (n+ys.length) off (len+ys.length)) {E.h with fams:=E.h.fams.set k {f with xs:=f.xs++ys}}:=by
 obtain⟨i',zv,q1,q2,q3,q4,q5⟩:=Iw hz;rw[hi]at q1;cases q1;have e1:=D8 hf hs;rw[hg]at e1;have e1':=e1;simp only[VR]at e1;obtain⟨base,cap,f',e2,hf',e4,e5⟩:=e1;have:f'=f:=by rw[hfk]at hf';simpa using hf'.symm
 subst this;obtain⟨l1,l2,l3,l4,l5⟩:=e5 hn;have hF:=hS.fams k f' hfk;have BG:=hF.room;have Dv:=(A0O.1 hfk).1;obtain⟨ad,cx,f1,f2,f3⟩:=LZ hS M3 (D8 hf hx) Wc;have hlencap:len<=cap:=by omega
 by_cases h0:ys=[]
 .subst h0;have q8:E.h.fams.set k {f' with xs:=f'.xs++[]}=E.h.fams:=DK (by rw[List.append_nil];exact hfk)
  refine⟨_,.slice base len cap,E,La ho h1 h2 ?_,.inl rfl,Ext.refl E,hS,by rw[q8],by rw[e2]at e1';simpa using e1'⟩;rw[e2,f1];exact Qi t _ e i ht hi base ad len cap cx hlencap E.w
 have hylen:0<ys.length:=by
  rcases A0k ys.length with h|h
  .exact absurd (A0R h) h0
  .exact h
 obtain⟨b,q,rfl,f4⟩:=f3 h0;obtain⟨news,n1,n2,n3,n4⟩:=OC M3 f4;by_cases XT:len+ys.length<=cap
 ·-- there is room
  have hbase:=l5 (by omega);obtain⟨cur,t',c1,c2,c3⟩:=hF.cells;have hnl:off-(E.im k).lo+len=n-(E.im k).lo:=by omega
  have epos:(E.im k).o+(off-(E.im k).lo)*f'.sz+len*i.size=(E.im k).o+(n-(E.im k).lo)*f'.sz:=by
   rw[←hnl,A0W,J5];omega
  have Dr:(E.im k).o+(n-(E.im k).lo)*f'.sz+news.length<=cur.size:=by
   have h3:(n-(E.im k).lo+ys.length)*f'.sz<=(E.im k).cap*f'.sz:=A0V _ (by omega);rw[A0W]at h3;rw[n1,←J5];omega
  have hrun:=ZK (P:=P) t o.type e i ht hi (E.im k).b ((E.im k).o+(off-(E.im k).lo)*f'.sz) len cap cur t' E.w c1 ⟨b,q,none⟩ ys.length cx news n1 n2 n3 XT (by rw[epos];exact Dr);rw[epos]at hrun;obtain⟨us,WH⟩:∃us:Array Value,us=(cur.toList.take ((E.im k).o+(n-(E.im k).lo)*f'.sz)++news++cur.toList.drop ((E.im k).o+(n-(E.im k).lo)*f'.sz+news.length)).toArray:=⟨_,rfl⟩;rw[←WH]at hrun;have hget:∀j:Nat,us[j]?=if j<(E.im k).o+(n-(E.im k).lo)*f'.sz then cur[j]? else if j<(E.im k).o+(n-(E.im k).lo)*f'.sz+news.length then news[j-((E.im k).o+(n-(E.im k).lo)*f'.sz)]? else cur[j]?:=by
   intro j;have:=Kk (l:=cur.toList) (off:=(E.im k).o+(n-(E.im k).lo)*f'.sz) (vs:=news) (by simpa using Dr) j;simp only[A0Y]at this;rw[WH,A0i,this]
  have hkeep:f'.wr=false->∀j,j<(E.im k).o+(f'.xs.length-(E.im k).lo)*f'.sz->us[j]?=cur[j]?:=by
   intro _ j hj;rw[hn]at hj;rw[hget,if_pos hj]
  refine⟨_,.slice base (len+ys.length) cap,E.setFam k us {f' with xs:=f'.xs++ys},La ho h1 h2 ?_,.inl rfl,Kh hS hfk c1 rfl rfl (by simp) hkeep,
   Pc hS hfk c1 rfl rfl (by simp) hkeep (by simp;omega) (by rw[WH];simp;omega) ?_,rfl,?_⟩
  .rw[e2,f1,hbase,hrun];rfl
  .intro j x' hj hx';have hx'':(f'.xs++ys)[j]?=some x':=hx';by_cases hjn:j<n
   .rw[A0P (by omega)]at hx'';obtain⟨g1,g2⟩:=c3 j x' hj hx'';refine⟨g1,λc y hc=>?_⟩;obtain⟨v,v1,v2⟩:=g2 c y hc;have Lr:c<f'.sz:=by have:=(A0O.1 hc).1;omega
    have:=DA (show j-(E.im k).lo<n-(E.im k).lo by omega) Lr;exact⟨v,by rw[hget,if_pos (by omega)];exact v1,v2⟩
   .rw[A0Q (by omega),hn]at hx'';obtain⟨g1,g2⟩:=n4 _ x' hx'';refine⟨by omega,λc y hc=>?_⟩;obtain⟨v,v1,v2⟩:=g2 c y hc;have Lr:c<f'.sz:=by have:=(A0O.1 hc).1;omega
    have hjy:j-n<ys.length:=by have:=(A0O.1 hx'').1;omega
    have h5:=DA hjy Lr;have ej:(j-(E.im k).lo)*f'.sz=(n-(E.im k).lo)*f'.sz+(j-n)*f'.sz:=by
     rw[←A0W];congr 1;omega
    refine⟨v,?_,v2⟩;rw[hget,ej,if_neg (by omega),if_pos (by rw[n1,←J5];omega)];rw[show (E.im k).o+((n-(E.im k).lo)*f'.sz+(j-n)*f'.sz)+c-((E.im k).o+(n-(E.im k).lo)*f'.sz)=(j-n)*i.size+c from by rw[←J5];omega];exact v1
  .simp only[VR,Env.setFam];refine⟨base,cap,{f' with xs:=f'.xs++ys},rfl,by simp[Dv],⟨by simp[hn],λ_=>?_⟩,λ_=>⟨l1,by omega,l3,l4,l5⟩⟩
   by_cases hc0:cap=0
   .exfalso;omega
   .exact⟨_,_,l5 hc0⟩
 ·-- there is none
  have hold:∃olds:List Value,olds.length=len*i.size/\(∀b,base=some b->∀(j:Nat) (u:Value),olds[j]?=some u->E.w.cell? (b.add j)=some u)/\KG E olds ((f'.xs.drop off).take len) i.size:=by
   have hll:((f'.xs.drop off).take len).length=len:=by simp;omega
   by_cases hl0:len=0
   .subst hl0;exact⟨[],by simp,λb _ j u h=>by simp at h,λj x h=>by simp at h⟩
   .obtain⟨ad',cx',g1,g2,g3⟩:=LZ hS (sz:=i.size) M3 e1' (ys:=(f'.xs.drop off).take len) (by simp only[AS,hfk];rw[if_pos ⟨hn,J5,by omega⟩]);obtain⟨b',q',rfl,g4⟩:=g3 (by intro h;rw[h]at hll;simp at hll;omega);obtain⟨olds,o1,o2,_,o4⟩:=OC M3 g4;rw[e2]at g1;have:base=some ⟨b',q',none⟩:=by simp at g1;exact g1.1
    subst this;exact⟨olds,by rw[o1,hll],λb'' hb''=>by cases hb'';exact o2,o4⟩
  obtain⟨olds,o1,o2,o3⟩:=hold;have hll:((f'.xs.drop off).take len).length=len:=by simp;omega
  obtain⟨us,newCap,r1,r2,r3,r4,r5⟩:=Rc (P:=P) (ty:=o.type) ht hi q2 q3 (λe=>absurd e l4) hlencap o1 hll o2 o3 n1 n2 n4 (c:=cx) (by omega) (by omega) (by
   refine A0w (A0V _ ?_) hb;omega)
  have hE1:=kZ hS;have hx1:=du hS;refine⟨_,.slice (some ⟨E.w.heap.size,0,none⟩) (len+ys.length) newCap,({E with w:=E.w.drew}:Env).moveFam k us e off newCap {f' with xs:=f'.xs++ys},La ho h1 h2 ?_,.inl rfl,
   hx1.trans (RK hE1 hfk _ _ _ _ rfl (by simp;omega)),
   Xh hE1 hfk rfl (by simp;omega) (by simp;omega) (by simp;omega) r3 (by rw[J5];exact r4) ?_,rfl,?_⟩
  .rw[e2,f1,r1];rfl
  .intro j x' hj hx';have hx'':(f'.xs++ys)[j]?=some x':=hx';rw[J5];refine TI (Qs hx1 r5) (j-off) x' ?_;by_cases hjn:j<n
   .rw[A0P (by omega)]at hx'';rw[A0P (by omega),A0e,if_pos (by omega),A0d,show off+(j-off)=j from by omega];exact hx''
   .rw[A0Q (by omega)]at hx'';rw[A0Q (by omega),hll,show j-off-len=j-f'.xs.length from by omega];exact hx''
  .simp only[VR,Env.moveFam,u7];refine⟨_,_,{f' with xs:=f'.xs++ys},rfl,by simp[Dv],⟨by simp[hn],λ_=>⟨_,_,rfl⟩⟩,λ_=>⟨A0T _,by omega,by omega,(λh=>nomatch h),λ_=>by simp⟩⟩
end
section
variable {E:Env} {P:Program} {fr:Fr} {a:Act} {o:Oper}
theorem XS (w:World) (x:Obj):(w.alloc x).heap[w.heap.size]?=some x:=(MapKept.heap_alloc w x).1
def Env.newMap (E:Env):Env :=
 {E with w:=E.w.alloc (.map #[] 0),nb:=wn E.nb E.h.boxes.length E.w.heap.size,h:={E.h with boxes:=E.h.boxes++[[.mbox [] []]]}}
theorem Xp (h:SR E):Ext E E.newMap:=by
 refine⟨λb o ho=>?_,by simp[Env.newMap],λi hi=>CY _ _ (by omega),A0T _,λk f f' hf hf'=>?_,rfl,rfl,⟨(Below.refl _ _).alloc h.basele _,A0T _⟩⟩
 .have A7:=UL h ho;refine⟨?_,LG (Below.heap_alloc _ _ _ A7)⟩;rcases ho with ho|⟨h1,_,h3,h4⟩
  .exact .inl ho
  .refine .inr ⟨h1,by simp[Env.newMap];omega,λi hi=>?_,h4⟩;by_cases hn:i=E.h.boxes.length
   .subst hn;simp only[Env.newMap,u7];intro e;omega
   .have Cx:i<E.h.boxes.length:=by simp[Env.newMap]at hi;omega
    simp only[Env.newMap,CY _ _ hn];intro e;obtain⟨cs',hcs'⟩:=h3 i Cx e;exact⟨cs',by rw[A0P Cx];exact hcs'⟩
 .have:f=f':=by have:=hf.symm.trans hf';simpa using this
  subst this;exact⟨rfl,A0T _,λ_=>rfl⟩
theorem nW (h:SR E):SR E.newMap:=by
 have hx:=Xp h;have B9:E.newMap.h.boxes.length=E.h.boxes.length+1:=by simp[Env.newMap]
 have hnb:∀i,i<E.h.boxes.length->E.newMap.nb i=E.nb i:=λi hi=>CY _ _ (by omega);have Cz:E.newMap.nb E.h.boxes.length=E.w.heap.size:=u7 _ _ _;refine⟨A0w h.basele (by simp[Env.newMap]),λi cs' hi=>?_,λk f hk=>?_,λi j hi hj he=>?_,h.injf,λi k hi hk=>?_⟩
 .by_cases hn:i=E.h.boxes.length
  .subst hn;have:cs'=[.mbox [] []]:=by simpa[Env.newMap]using hi.symm
   subst this;exact⟨by rw[Cz];exact h.basele,.inr (.inl ⟨[],[],#[],0,rfl,by rw[Cz];exact XS _ _,by simp[Dk],by simp[Dk]⟩)⟩
  .have Cx:i<E.h.boxes.length:=by have:=(A0O.1 hi).1;omega
   have Lr:E.h.boxes[i]?=some cs':=by
    simp only[Env.newMap]at hi
    rwa [A0P Cx]at hi
   exact(h.boxes i cs' Lr).ext hx Cx (Below.heap_alloc _ _ _ (h.nb_lt Cx).2)
 .have Dv:k<E.h.fams.length:=(A0O.1 hk).1;exact(h.fams k f hk).ext hx rfl (Below.heap_alloc _ _ _ (h.im_lt Dv).2)
 .rw[B9]at hi hj;by_cases Cx:i<E.h.boxes.length<;>by_cases hj':j<E.h.boxes.length
  .rw[hnb i Cx,hnb j hj']at he;exact h.inj i j Cx hj' he
  .obtain rfl:j=E.h.boxes.length:=by omega
   rw[hnb i Cx,Cz]at he;have:=(h.nb_lt Cx).2;omega
  .obtain rfl:i=E.h.boxes.length:=by omega
   rw[hnb j hj',Cz]at he;have:=(h.nb_lt hj').2;omega
  .omega
 .rw[B9]at hi;have Dv:k<E.h.fams.length:=hk;by_cases Cx:i<E.h.boxes.length
  .rw[hnb i Cx];exact h.sep i k Cx Dv
  .obtain rfl:i=E.h.boxes.length:=by omega
   rw[Cz];have:=(h.im_lt Dv).2;simp only[Env.newMap];omega
theorem uc {t:TypeId} (hS:SR E) (ho:o.op=.makeMap t none):Pi P a o E (.mp E.h.boxes.length) {E.h with boxes:=E.h.boxes++[[.mbox [] []]]}:=by
 refine⟨_,.map (some E.w.heap.size),E.newMap,?_,.inl rfl,Xp hS,nW hS,rfl,?_⟩
 .simp[execOp,ho,Instr.makeMap,Env.newMap,Result.andThen]
 .simp only[VR,Env.newMap,u7];exact⟨by simp,trivial⟩
def Env.setMap (E:Env) (i:Nat) (es:Array MapEntry) (clk:Nat) (cs:List AV):Env :=
 {E with w:={E.w with heap:=E.w.heap.setIfInBounds (E.nb i) (.map es clk)},h:={E.h with boxes:=E.h.boxes.set i cs}}
theorem pm {w:World} {B g:Nat} (x:Obj) (hg:B<=g):Below B w {w with heap:=w.heap.setIfInBounds g x} :=
 ⟨rfl,rfl,rfl,by simp,λk hk=>by simp[A0c (show g≠k by omega)]⟩
theorem VQ (w:World) (g k:Nat) (x:Obj) (h:k≠g):({w with heap:=w.heap.setIfInBounds g x}:World).heap[k]?=w.heap[k]?:=by
 simp[A0c (Ne.symm h)]
theorem Td (h:SR E) {i:Nat} (hi:i<E.h.boxes.length) {ks vs:G4} (hold:E.h.boxes[i]?=some [.mbox ks vs]) (es:Array MapEntry) (clk:Nat) (cs:G4):Ext E (E.setMap i es clk cs):=by
 have hb:=h.nb_lt hi;refine⟨λb o ho=>?_,by simp[Env.setMap],λ_ _=>rfl,A0T _,λk f f' hf hf'=>?_,rfl,rfl,⟨pm _ hb.1,A0T _⟩⟩
 .have P6:b≠E.nb i:=by
   rcases ho with ⟨ho,_⟩|⟨_,_,h3,_⟩
   .omega
   .intro e;obtain⟨cs',hcs'⟩:=h3 i hi e.symm;rw[hold]at hcs';cases hcs'
  refine⟨?_,LG (VQ _ _ _ _ P6)⟩;rcases ho with ho|⟨h1,h2,h3,h4⟩
  .exact .inl ho
  .refine .inr ⟨h1,by simpa[Env.setMap]using h2,λj hj e=>?_,h4⟩;obtain⟨cs',hcs'⟩:=h3 j (by simpa[Env.setMap]using hj) e;have hij:i≠j:=λe'=>P6 (by rw[e'];exact e.symm);exact⟨cs',by simpa[Env.setMap,A0Z hij]using hcs'⟩
 .have:f=f':=by have:=hf.symm.trans hf';simpa using this
  subst this;exact⟨rfl,A0T _,λ_=>rfl⟩
theorem aY (h:SR E) {i:Nat} {ks vs ks' vs':G4} (hi:E.h.boxes[i]?=some [.mbox ks vs]) {es:Array MapEntry} {clk:Nat} (h1:Dk E.w E.ok ks' (es.toList.map (·.key))) (h2:Dk E.w E.ok vs' (es.toList.map (·.val))) :
  SR (E.setMap i es clk [.mbox ks' vs']):=by
 have Cx:=(A0O.1 hi).1;have hx:=Td h Cx hi es clk [.mbox ks' vs'];have B9:(E.setMap i es clk [.mbox ks' vs']).h.boxes.length=E.h.boxes.length:=by simp[Env.setMap]
 have hb1:=(h.boxes i _ hi).1;have A7:=h.nb_lt Cx;refine⟨by simpa[Env.setMap]using h.basele,λj cs' hj=>?_,λk f hk=>?_,λa b ha hb=>h.inj a b (by simpa[B9]using ha) (by simpa[B9]using hb),h.injf,λa k ha=>h.sep a k (by simpa[B9]using ha)⟩
 .by_cases hn:i=j
  .subst hn;have:cs'=[.mbox ks' vs']:=by simpa[Env.setMap,Cx]using hj.symm
   subst this;exact⟨hb1,.inr (.inl ⟨ks',vs',es,clk,rfl,by simp[Env.setMap,A7.2],d7 hx.cells _ _ h1,d7 hx.cells _ _ h2⟩)⟩
  .have hj':j<E.h.boxes.length:=by have:=(A0O.1 hj).1;omega
   have Lr:E.h.boxes[j]?=some cs':=by simpa[Env.setMap,A0Z hn]using hj
   exact(h.boxes j cs' Lr).ext hx hj' (VQ _ _ _ _ (λe=>hn (h.inj _ _ Cx hj' e.symm)))
 .have Dv:k<E.h.fams.length:=(A0O.1 hk).1;exact(h.fams k f hk).ext hx rfl (VQ _ _ _ _ (λe=>h.sep i k Cx Dv e.symm))
theorem Vm {kt:TypeId} {str:Bool} (h:RI P kt=some str):(str=true/\P.underlying kt=some .string)\/(str=false/\∃k,P.underlying kt=some (.int k)):=by
 unfold RI at h;split at h
 .rename_i hu;cases h;exact .inl ⟨rfl,hu⟩
 .rename_i k hu;cases h;exact .inr ⟨rfl,k,hu⟩
 .cases h
theorem IJ {kt:TypeId} {str:Bool} (h:RI P kt=some str) (w:World) (v:Value) (e:Bool) (n:Nat):(Instr.checkKey e (n+1) kt v).run P w=.ok () w:=by
 rcases Vm h with ⟨_,hu⟩|⟨_,k,hu⟩<;>(unfold Instr.checkKey;simp only[Sem.run_bind,run_underlying hu,Result.andThen];cases v<;>rfl)
theorem Vf {w:World} {ok:Nat->Nat->Prop} {str:Bool} {d:TypeDesc} (hd:(str=true/\d=.string)\/(str=false/\∃k,d=.int k)) {x y:AV} {u v:Value} {b:Bool} (hx:VR E x u) (hy:PV w ok y v) (h:XM str x y=some b) :
  Instr.sameNow d u v=some b/\(b=true->u=v):=by
 unfold XM at h;split at h
 .simp only[VR]at hx;simp only[PV]at hy;subst hx hy;split at h
  .rename_i hs;cases h;rcases hd with ⟨_,rfl⟩|⟨h1,_⟩
   .exact⟨rfl,λe=>by rw[(MapKept.bytes_beq _ _).1 e]⟩
   .rw[h1]at hs;cases hs
  .cases h
 .simp only[VR]at hx;simp only[PV]at hy;subst hx hy;split at h
  .rename_i hs;cases h;rcases hd with ⟨h1,_⟩|⟨_,k',rfl⟩
   .rw[h1]at hs;simp at hs
   .obtain⟨_,rfl⟩:=hs;exact⟨by simp[Instr.sameNow],λe=>by rw[eq_of_beq e]⟩
  .cases h
 .cases h
theorem Lb {w:World} {ok:Nat->Nat->Prop} {str:Bool} {d:TypeDesc} (hd:(str=true/\d=.string)\/(str=false/\∃k,d=.int k)) {x:AV} {u:Value} (hx:VR E x u):∀{ks:G4} {es:List MapEntry} {i:Nat} {r:Option Nat},
  Dk w ok ks (es.map (·.key))->Mr str x ks i=some r ->
  (r=none/\Instr.findNow d u es i=some none)\/∃j e,r=some (i+j)/\es[j]?=some e/\Instr.findNow d u es i=some (some (i+j,e.val))/\u=e.key
 | [],es,i,r,hp,h=>by
  simp only[Mr]at h;cases h;cases es with
  |nil=>exact .inl ⟨rfl,rfl⟩
  |cons e es=>simp[Dk]at hp
 |y::ks,[],i,r,hp,h=>by simp[Dk]at hp
 |y::ks,e::es,i,r,hp,h=>by
  simp only[Dk,A0b]at hp;obtain⟨v,vs,he,h1,h2⟩:=hp;cases he;simp only[Mr]at h;split at h
  .rename_i hq;cases h;obtain⟨g1,g2⟩:=Vf hd hx h1 hq;exact .inr ⟨0,e,rfl,rfl,by simp[Instr.findNow,g1],g2 rfl⟩
  .rename_i hq;obtain⟨g1,g2⟩:=Vf hd hx h1 hq;rcases Lb hd hx h2 h with ⟨k1,k2⟩|⟨j,e',k1,k2,k3,k4⟩
   .exact .inl ⟨k1,by simp[Instr.findNow,g1,k2]⟩
   .refine .inr ⟨j+1,e',by rw[k1];congr 1;omega,by simpa using k2,?_,k4⟩;simp only[Instr.findNow,g1,k3];rw[show i+1+j=i+(j+1) by omega]
  .cases h
theorem Vl {kt:TypeId} {str:Bool} (h:RI P kt=some str):∃d,P.underlying kt=some d/\((str=true/\d=.string)\/(str=false/\∃k,d=.int k)):=by
 rcases Vm h with ⟨h1,hu⟩|⟨h1,k,hu⟩
 .exact⟨_,hu,.inl ⟨h1,rfl⟩⟩
 .exact⟨_,hu,.inr ⟨h1,k,rfl⟩⟩
theorem Yz (hS:SR E) {x:AV} {v:Value} {ks vs:G4} (hv:VR E x v) (h:GM E.h x=some (ks,vs)) :
  ∃es:Array MapEntry,Dk E.w E.ok ks (es.toList.map (·.key))/\Dk E.w E.ok vs (es.toList.map (·.val))/\((v=.map none/\es=#[])\/∃b clk,v=.map (some b)/\E.w.heap[b]?=some (.map es clk)):=by
 unfold GM at h;split at h
 .cases h;simp only[VR,PV]at hv;obtain⟨b,es,clk,rfl,_,h1,h2,h3⟩:=hv;exact⟨es,h2,h3,.inr ⟨b,clk,rfl,h1⟩⟩
 .split at h
  .rename_i ks' vs' hb;cases h;simp only[VR]at hv;obtain⟨_,rfl⟩:=hv;obtain⟨es,clk,h1,h2,h3⟩:=(hS.boxes _ _ hb).map;exact⟨es,h2,h3,.inr ⟨_,clk,rfl,h1⟩⟩
  .cases h
 .cases h;simp only[VR]at hv;subst hv;exact⟨#[],by simp[Dk],by simp[Dk],.inl ⟨rfl,rfl⟩⟩
 .cases h
theorem ud {t kt et:TypeId} {x k:Operand} {x' k':Opd} {ok str:Bool} {z v:AV} {h':AH} (hS:SR E) (hf:FR E fr a.tmps) (ho:o.op=.lookup t x k ok) (ht:P.underlying t=some (.map kt et)) (hk:RI P kt=some str) (hz:Program.zeroA P et=some z)
  (hx:D7 x=some x') (Tn:D7 k=some k') (G3:Gb str ok z E.h (get fr x') (get fr k')=some (v,h')):Pi P a o E v h':=by
 unfold Gb at G3;split at G3
 case isFalse=>cases G3
 split at G3
 case h_2=>cases G3
 rename_i ks vs hm;obtain⟨es,e1,e2,e3⟩:=Yz hS (D8 hf hx) hm;have hkv:=D8 hf Tn;obtain⟨d,hd,hd'⟩:=Vl hk;obtain⟨i,zv,z1,z2,z3,z4,z5⟩:=Iw hz;have hzv:VR E z zv:=FO _ _ (Fo z4);have pair:∀{y:AV} {u:Value} (b:Bool),VR E y u->VR E (if ok then .tup [y,.bool b]else y) (if ok then .tuple #[u,.bool b]else u):=by
  intro y u b hy;cases ok with
  |false=>exact hy
  |true =>
   simp only[if_true,VR];exact⟨_,rfl,by simp[Bh,VR,hy]⟩
 have run:∀(r:Option (Nat×Value)),Instr.findNow d (a.eval k) es.toList 0=some r->∀(u:Value) (b:Bool),(match r with|some (_,v)=>u=v/\b=true|none=>u=zv/\b=false) ->
   (execOp a.eval o).run P E.w=.ok (.value (if ok then .tuple #[u,.bool b]else u)) E.w:=by
  intro r hr u b hu;rcases e3 with ⟨hm,rfl⟩|⟨bl,clk,hm,hb⟩
  .cases r with
   |some p=>simp[Instr.findNow]at hr
   |none =>
    obtain⟨rfl,rfl⟩:=hu;simp[execOp,ho,Instr.lookup,run_underlying ht,hm,IJ hk,MapKept.run_findKey hd hr,zeroValue,typeInfo,z1,z2,Result.andThen]
  .cases r with
   |some p =>
    obtain⟨q,v⟩:=p;obtain⟨rfl,rfl⟩:=hu;simp[execOp,ho,Instr.lookup,run_underlying ht,hm,MapKept.run_getObj_map hb,IJ hk,MapKept.run_findKey hd hr,Result.andThen]
   |none =>
    obtain⟨rfl,rfl⟩:=hu;simp[execOp,ho,Instr.lookup,run_underlying ht,hm,MapKept.run_getObj_map hb,IJ hk,MapKept.run_findKey hd hr,zeroValue,typeInfo,z1,z2,Result.andThen]
 split at G3
 .rename_i j hj;split at G3
  .rename_i y hy;cases G3;rcases Lb hd' hkv e1 hj with ⟨h1,_⟩|⟨q,e,h1,h2,h3,_⟩
   .cases h1
   .have hq:j=q:=by simpa using h1
    subst hq;obtain⟨hl,hg⟩:=JL e2;obtain⟨u,hu,hpu⟩:=hg hy;have hue:u=e.val:=by
     rw[A0a,h2]at hu;simpa using hu.symm
    subst hue;exact Dl.does hS ⟨_,run _ h3 e.val true ⟨rfl,rfl⟩,pair true (FO _ _ hpu)⟩
  .cases G3
 .rename_i hj;cases G3;rcases Lb hd' hkv e1 hj with ⟨_,h2⟩|⟨q,e,h1,_⟩
  .exact Dl.does hS ⟨_,run _ h2 zv false ⟨rfl,rfl⟩,pair false hzv⟩
  .cases h1
 .cases G3
theorem WC {α:Type} {x:α}:∀{l:List α} {j:Nat},l[j]?=some x->l.set j x=l
 | [],_,h=>by simp at h
 |y::l,0,h=>by simp at h;simp[h]
 |y::l,j+1,h=>by simp only[List.set_cons_succ];rw[WC (l:=l) (by simpa using h)]
theorem uL {w:World} {ok:Nat->Nat->Prop} {cs:G4} {us:List Value} (h:Dk w ok cs us) (i:Nat) {c:AV} {u:Value} (hc:PV w ok c u):Dk w ok (cs.set i c) (us.set i u):=by
 obtain⟨hl,hg⟩:=JL h;refine Up (by simp[hl]) λj x y hx hy=>?_;rw[A0g]at hx hy;by_cases e:i=j
 .subst e;rw[if_pos rfl]at hx hy;split at hx<;>split at hy<;>simp at hx hy;subst hx hy;exact hc
 .rw[if_neg e]at hx hy;obtain⟨y',h1,h2⟩:=hg hx;rw[hy]at h1;cases h1;exact h2
theorem dX {w:World} {ok:Nat->Nat->Prop} {cs:G4} {us:List Value} (h:Dk w ok cs us) {c:AV} {u:Value} (hc:PV w ok c u):Dk w ok (cs++[c]) (us++[u]):=by
 obtain⟨hl,hg⟩:=JL h;refine Up (by simp[hl]) λj x y hx hy=>?_;by_cases e:j<cs.length
 .rw[A0P e]at hx;rw[A0P (by omega)]at hy;obtain⟨y',h1,h2⟩:=hg hx;rw[hy]at h1;cases h1;exact h2
 .rw[A0Q (by omega)]at hx hy;rw[hl]at hy;have:j-cs.length=0:=by
   have:=(A0O.1 hx).1;simp at this;omega
  rw[this]at hx hy;simp at hx hy;subst hx hy;exact hc
theorem rB {x:AV} {v:Value} {str:Bool} (hv:VR E x v) (h:Sq str x=true):PV E.w E.ok x v/\∀n,Instr.sameBits n v v=true:=by
 unfold Sq at h;split at h
 .simp only[VR]at hv;subst hv;exact⟨by simp[PV],MapKept.sameBits_self (d:=.string) (by simp[MapKept.IsKey])⟩
 .rename_i k n;simp only[VR]at hv;subst hv;exact⟨by simp[PV],MapKept.sameBits_self (d:=.int k) (by simp[MapKept.IsKey])⟩
 .cases h
theorem wR {t kt et:TypeId} {m k x:Operand} {m' k' x':Opd} {str:Bool} {v:AV} {h':AH} (hS:SR E) (hf:FR E fr a.tmps) (ho:o.op=.mapUpdate t m k x\/o.op=.insert t m k x) (ht:P.underlying t=some (.map kt et)) (hk:RI P kt=some str)
  (hm:D7 m=some m') (Tn:D7 k=some k') (hx:D7 x=some x') (G3:ZA str E.h (get fr m') (get fr k') (get fr x')=some (v,h')):Pi P a o E v h':=by
 unfold ZA at G3;split at G3
 case h_2=>cases G3
 rename_i b hgm;split at G3
 case h_2=>cases G3
 rename_i ks vs u hb hu;split at G3
 case isFalse=>cases G3
 rename_i BF;have hmv:=D8 hf hm;rw[hgm]at hmv;simp only[VR]at hmv;obtain⟨A7,hme⟩:=hmv;obtain⟨es,clk,b1,b2,b3⟩:=(hS.boxes b _ hb).map;have hkv:=D8 hf Tn;obtain⟨d,hd,hd'⟩:=Vl hk;obtain⟨hkp,hbits⟩:=rB hkv BF.1;have hup:PV E.w E.ok u (a.eval x):=(Mh hS ⟨λ_ _ h=>h,λh=>by cases h⟩ (D8 hf hx) hu).1;have hex:(execOp a.eval o).run P E.w=((do Instr.mapUpdate t (a.eval m) (a.eval k) (a.eval x);pure Next.skip:Sem Next)).run P E.w:=by
  rcases ho with ho|ho<;>simp only[execOp,ho]
 split at G3
 .rename_i j hj;cases G3;rcases Lb hd' hkv b2 hj with ⟨h1,_⟩|⟨q,e,h1,h2,h3,h4⟩
  .cases h1
  .have hq:j=q:=by simpa using h1
   subst hq;have hj':es[j]?=some e:=by simpa using h2
   have hlist:(es.modify j λe=>{e with key:=a.eval k,val:=a.eval x}).toList=es.toList.set j {e with key:=a.eval k,val:=a.eval x}:=by
    apply A0n;intro i;rw[A0Y,Array.getElem?_modify,A0g];by_cases hij:j=i
    .subst hij;have hl:j<es.size:=by have:=(A0O.1 h2).1;simpa using this
     have hje:es[j]'hl=e:=by rw[Array.getElem?_eq_getElem hl]at hj';exact Option.some.inj hj'
     simp[hl,hje]
    .simp[hij]
   refine⟨.skip,undef,E.setMap b (es.modify j λe=>{e with key:=a.eval k,val:=a.eval x}) clk [.mbox ks (vs.set j u)],?_,.inr ⟨rfl,rfl⟩,Td hS A7 hb _ _ _,aY hS hb ?_ ?_,rfl,by simp[FP]⟩
   .rw[hex];simp[Instr.mapUpdate,run_underlying ht,hme,MapKept.run_getObj_map b1,IJ hk,MapKept.run_findKey hd h3,hj',h4.symm,Instr.keyThatStays,hbits,MapKept.run_setObj_map _ b1,Result.andThen,Env.setMap]
   .rw[hlist,A0t];have:(es.toList.map (·.key)).set j (a.eval k)=es.toList.map (·.key):=WC (by rw[A0a,h2,h4];rfl);rw[this];exact b2
   .rw[hlist,A0t];exact uL b3 j hup
 .rename_i hj;cases G3;rcases Lb hd' hkv b2 hj with ⟨_,h2⟩|⟨q,e,h1,_⟩
  .refine⟨.skip,undef,E.setMap b (es.push {key:=a.eval k,val:=a.eval x,born:=clk}) (clk+1) [.mbox (ks++[get fr k']) (vs++[u])],?_,.inr ⟨rfl,rfl⟩,Td hS A7 hb _ _ _,aY hS hb ?_ ?_,rfl,by simp[FP]⟩
   .rw[hex];simp[Instr.mapUpdate,run_underlying ht,hme,MapKept.run_getObj_map b1,IJ hk,MapKept.run_findKey hd h2,MapKept.run_setObj_map _ b1,Result.andThen,Env.setMap]
   .simp only[A0l,A0q,A0b,A0h];exact dX b2 hkp
   .simp only[A0l,A0q,A0b,A0h];exact dX b3 hup
  .cases h1
 .cases G3
def Env.setRo (E:Env) (i:Nat) (ys:List AV):Env:={E with h:={E.h with boxes:=E.h.boxes.set i [.rbox ys]}}
theorem aZ (h:SR E) {i:Nat} (hi:i<E.h.boxes.length) (ys:G4):Ext E (E.setRo i ys):=by
 refine⟨λb o ho=>⟨?_,KH.refl _ _ _⟩,by simp[Env.setRo],λ_ _=>rfl,A0T _,λk f f' hf hf'=>?_,rfl,rfl,Bl.refl _ _⟩
 .rcases ho with ho|⟨h1,h2,h3,h4⟩
  .exact .inl ho
  .refine .inr ⟨h1,h2,λj hj e=>?_,h4⟩;by_cases hij:i=j
   .subst hij;exact⟨ys,by simp[Env.setRo,hi]⟩
   .obtain⟨cs',hcs'⟩:=h3 j (by simpa[Env.setRo]using hj) e;exact⟨cs',by simpa[Env.setRo,A0Z hij]using hcs'⟩
 .have:f=f':=by have:=hf.symm.trans hf';simpa using this
  subst this;exact⟨rfl,A0T _,λ_=>rfl⟩
theorem Zh:∀{cs:G4} {us:List Value},Bh E cs us->cs.all AV.flat=true->Dk E.w E.ok cs us
 | [],us,h,_=>by simpa[Bh,Dk]using h
 |c::cs,us,h,hf=>by
  simp only[Bh]at h;obtain⟨u,us',rfl,h1,h2⟩:=h;simp only[A0r,A0o]at hf;simp only[Dk];exact⟨u,us',rfl,WX h1 hf.1,Zh h2 hf.2⟩
theorem tP (h:SR E) {i:Nat} {cs:G4} (hi:E.h.boxes[i]?=some cs) (hmb:Es cs=false) (hf:cs.all AV.flat=true) :
  SR (E.setRo i cs)/\VR (E.setRo i cs) (.pv cs) (.pointer (some ⟨E.nb i,0,none⟩)):=by
 have Cx:=(A0O.1 hi).1;have hx:=aZ h Cx cs;have B9:(E.setRo i cs).h.boxes.length=E.h.boxes.length:=by simp[Env.setRo]
 have hb1:=(h.boxes i _ hi).1;have A7:=h.nb_lt Cx;obtain⟨cur,t,hc,hv,h1⟩:=(h.boxes i _ hi).row hmb;have hp:=Zh hv hf;have hp':Dk (E.setRo i cs).w (E.setRo i cs).ok cs cur.toList:=d7 hx.cells _ _ hp;refine⟨⟨h.basele,λj cs' hj=>?_,λk f hk=>?_,λa b ha hb=>h.inj a b (by simpa[B9]using ha) (by simpa[B9]using hb),h.injf,λa k ha=>h.sep a k (by simpa[B9]using ha)⟩,?_⟩
 .by_cases hn:i=j
  .subst hn;have:cs'=[.rbox cs]:=by simpa[Env.setRo,Cx]using hj.symm
   subst this;exact⟨hb1,.inr (.inr ⟨cs,cur,t,rfl,hc,hp',h1⟩)⟩
  .have hj':j<E.h.boxes.length:=by have:=(A0O.1 hj).1;omega
   have Lr:E.h.boxes[j]?=some cs':=by simpa[Env.setRo,A0Z hn]using hj
   exact(h.boxes j cs' Lr).ext hx hj' rfl
 .have Dv:k<E.h.fams.length:=(A0O.1 hk).1;exact(h.fams k f hk).ext hx rfl rfl
 .simp only[VR,PV];refine⟨E.nb i,0,rfl,PK λj c hj=>?_⟩;obtain⟨hl,hg⟩:=JL hp';obtain⟨u,hu,hpu⟩:=hg hj;refine⟨u,.inr ⟨hb1,A7.2,λj' hj' e=>?_,λk f hk he=>?_⟩,?_,h1 u (List.mem_of_getElem? hu),hpu⟩
  .have:j'=i:=h.inj j' i (by simpa[B9]using hj') Cx e;subst this;exact⟨cs,by simp[Env.setRo,Cx]⟩
  .exact absurd he.symm (h.sep i k Cx (A0O.1 hk).1)
  .rw[Nat.zero_add];show E.w.cell? ⟨E.nb i,j,none⟩=some u;rw[cell_of_row _ _ _ _ _ _ hc];simpa using hu
theorem QJ:∀{xs:G4} {E:Env} {us:List Value} {ys:G4} {h':AH},SR E->Bh E xs us->CM E.h xs=some (ys,h')->∃E',E'.w=E.w/\Ext E E'/\SR E'/\E'.h=h'/\Bh E' ys us
 | [],E,us,ys,h',hS,hv,h=>by
  simp only[CM]at h;cases h;exact⟨E,rfl,Ext.refl E,hS,rfl,hv⟩
 |x::xs,E,us,ys,h',hS,hv,h=>by
  simp only[Bh]at hv;obtain⟨u,us',rfl,h1,h2⟩:=hv;by_cases hp:∃b off,x=.ptr b off
  .obtain⟨b,off,rfl⟩:=hp;simp only[CM]at h;split at h
   case isFalse=>cases h
   rename_i h0;subst h0;split at h
   case h_2=>cases h
   rename_i cs Lr;split at h
   case isFalse=>cases h
   rename_i hc;simp only[A0X]at h;obtain⟨⟨ys',h''⟩,hr,he⟩:=h;cases he;simp only[VR]at h1;obtain⟨hb,rfl⟩:=h1;obtain⟨hS1,hv1⟩:=tP hS Lr hc.1 hc.2;have hx1:=aZ hS hb cs;obtain⟨E',w',hx',hS',hh,Qo⟩:=QJ (E:=E.setRo b cs) hS1 (OG hx1 _ _ h2) hr;refine⟨E',w',hx1.trans hx',hS',hh,?_⟩;simp only[Bh];exact⟨_,_,rfl,bD hx' _ _ hv1,Qo⟩
  .have hr:CM E.h (x::xs)=(CM E.h xs).map λp=>(x::p.1,p.2):=by
    cases x<;>first|rfl|exact absurd ⟨_,_,rfl⟩ hp
   rw[hr]at h;simp only[A0X]at h;obtain⟨⟨ys',h''⟩,hr,he⟩:=h;cases he;obtain⟨E',w',hx',hS',hh,Qo⟩:=QJ hS h2 hr;refine⟨E',w',hx',hS',hh,?_⟩;simp only[Bh];exact⟨_,_,rfl,bD hx' _ _ h1,Qo⟩
theorem qd {f:FuncId} {first caps:Array Operand} {cs:List Opd} {v:AV} {h':AH} (hS:SR E) (hf:FR E fr a.tmps) (ho:o.op=.makeFunc (.func f) first caps) (h0:first.size=0) (hc:KW D7 caps.toList=some cs)
  (h:(CM E.h (cs.map (get fr))).map (λp=>((.fn f p.1:AV),p.2))=some (v,h')):Pi P a o E v h':=by
 simp only[A0X]at h;obtain⟨⟨ys,h''⟩,hr,he⟩:=h;cases he;have hv:=QD hf hc;obtain⟨E',w',hx',hS',hh,Qo⟩:=QJ hS hv hr;have:first=#[]:=Array.size_eq_zero_iff.1 h0
 subst this;refine⟨_,.func (.func f) #[] (caps.map a.eval),E',?_,.inl rfl,hx',hS',hh,?_⟩
 .rw[w'];simp[execOp,ho,Instr.makeFunc]
 .simp only[VR];exact⟨_,rfl,Qo⟩
theorem Tx:∀{ys:G4} {ns:List Int},LW ys=some ns->ns.length=ys.length/\∀(i:Nat) (n:Int),ns[i]?=some n->ys[i]?=some (.int .u8 n)
 | [],ns,h=>by simp[LW]at h;subst h;simp
 |y::ys,ns,h=>by
  unfold LW at h;split at h
  .rename_i e;cases e
  .rename_i n xs e;cases e;simp only[A0X]at h;obtain⟨ns',h1,rfl⟩:=h;obtain⟨h2,h3⟩:=Tx h1;refine⟨by simp[h2],λi m hi=>?_⟩;cases i with
   |zero=>simp at hi;subst hi;rfl
   |succ i=>simpa using h3 i m (by simpa using hi)
  .cases h
theorem yL {s d e:TypeId} {x:Operand} {x':Opd} {v:AV} {h':AH} (hS:SR E) (hf:FR E fr a.tmps) (ho:o.op=.convert s d x) (hs:P.underlying s=some (.slice e)) (hd:P.underlying d=some .string) (he:P.underlying e=some (.int .u8))
  (hx:D7 x=some x') (G3:So E.h (get fr x')=some (v,h')):Pi P a o E v h':=by
 unfold So at G3;split at G3
 case h_2=>cases G3
 rename_i ys Wc;split at G3
 case h_2=>cases G3
 rename_i ns hns;cases G3;obtain⟨ad,c,e1,e2,e3⟩:=LZ hS (by omega) (D8 hf hx) Wc;obtain⟨g1,g2⟩:=Tx hns;refine Dl.does hS ⟨.string (lc ns),?_,by simp[VR]⟩;have ex:(execOp a.eval o).run P E.w=(do let v ←convert s d (a.eval x);pure (Next.value v):Sem Next).run P E.w:=by simp[execOp,ho]
 rw[ex];have key:(convert s d (a.eval x)).run P E.w=.ok (.string (lc ns)) E.w:=by
  rw[e1];cases ad with
  |none =>
   have:ys=[]:=A0R (e2 rfl);subst this;have:ns=[]:=A0R g1;subst this;exact run_convert_bytes_nil E.w s e hs he _ _ d hd
  |some ad =>
   by_cases hy:ys=[]
   .subst hy;have:ns=[]:=A0R g1;subst this;rw[run_convert_bytes_string E.w s d e _ _ _ hs he hd];simp[Conv.bytesToString,loadCells,Result.andThen];rfl
   .obtain⟨b,q,h1,h2⟩:=e3 hy;cases h1;refine run_convert_bytes_arg E.w s e hs he b q ys.length c ns g1 (λi hi=>?_) d hd;have XT:ns[i]?=some (ns.getD i 0):=by rw[List.getD,A0U (by omega)];rfl
    have hyi:=g2 i _ XT;obtain⟨_,h4⟩:=h2 i _ hyi;obtain⟨u,h5,_,h6⟩:=h4 0 _ rfl;simp only[PV]at h6;subst h6;simpa using h5
 simp[key,Result.andThen]
end
theorem Zf (h:AH) (am:Bool) {x:AV} (hx:x.flat=true):Em h am x=some x:=by
 cases x<;>simp[AV.flat]at hx<;>simp only[Em];rename_i f cs;subst hx;rfl
theorem Zg (h:AH) (am:Bool):∀{xs:G4},xs.all AV.flat=true->TV h am xs=some xs
 | [],_=>rfl
 |x::xs,hx=>by
  simp only[A0r,A0o]at hx;simp[TV,Zf h am hx.1,Zg h am hx.2]
theorem RD (h:AH) (am:Bool) {x:AV} (hx:OH x=true):KI h am x=some x:=by
 unfold OH at hx;split at hx
 .rename_i cs;simp[KI,Zg h am hx]
 .cases hx
 .rename_i h1 h2;have e:KI h am x=Em h am x:=by
   unfold KI;split
   .exact absurd rfl (h1 _)
   .rfl
  rw[e,Zf h am hx]
section
variable {E:Env} {P:Program} {fr:Fr} {a:Act} {o:Oper}
theorem TT {args:Array Operand} {ats:Array TypeId} {x:Operand} {t:TypeId} (ho:o.op=.call {callee:=.builtin .clear,args:=args,argTypes:=ats}) (h1:args.toList=[x]) (h2:ats.toList=[t]) {v:Value} {w w':World}
  (h:(Builtin.clear_ #[t] o.type #[a.eval x]).run P w=.ok v w'):(execOp a.eval o).run P w=.ok (.value v) w':=by
 have e1:args=#[x]:=by cases args;simp at h1;simp[h1]
 have e2:ats=#[t]:=by cases ats;simp at h2;simp[h2]
 rw[e1,e2]at ho;simp only[execOp,ho,resolve,invoke,builtin,Sem.run_bind,Sem.run_pure,Result.andThen_ok,A0p,A0b,A0h,h]
theorem A0M {args:Array Operand} {ats:Array TypeId} {x:Operand} {x':Opd} {t e:TypeId} {z v:AV} {h':AH} (hS:SR E) (hf:FR E fr a.tmps) (ho:o.op=.call {callee:=.builtin .clear,args:=args,argTypes:=ats})
  (h1:args.toList=[x]) (h2:ats.toList=[t]) (ht:P.underlying t=some (.slice e)) (hz:Program.zeroA P e=some z) (hx:D7 x=some x') (G3:Uz E.h z (get fr x')=some (v,h')):Pi P a o E v h':=by
 have hv:=D8 hf hx;unfold Uz at G3;split at G3
 .rename_i b q xs hg;split at G3
  .rename_i h0;cases G3;rw[hg]at hv;simp only[VR,PV]at hv;obtain⟨ad,len,cap,e1,e2,_⟩:=hv;have:len=0:=by omega
   subst this;refine⟨_,.tuple #[],E,TT ho h1 h2 ?_,.inl rfl,Ext.refl E,hS,rfl,FP E⟩;rw[e1];cases ad<;>simp[Builtin.clear_,run_underlying ht]
  .cases G3
 .rename_i k n off len hg;split at G3
  .rename_i f hfk;split at G3
   .rename_i hc;obtain⟨c1,c2,c3,c4⟩:=hc;cases G3;rw[hg]at hv;simp only[VR]at hv;obtain⟨base,cap,f',e1,hf',_,e5⟩:=hv;have:f'=f:=by rw[hfk]at hf';simpa using hf'.symm
    subst this;obtain⟨l1,l2,l3,l4,l5⟩:=e5 c1;cases len with
    |zero =>
     have q8:E.h.fams.set k {f' with xs:=f'.xs.take off++A0S 0 z++f'.xs.drop (off+0)}=E.h.fams:=DK (by simpa using hfk)
     refine⟨_,.tuple #[],E,TT ho h1 h2 ?_,.inl rfl,Ext.refl E,hS,by rw[q8],FP E⟩;rw[e1];cases base<;>simp[Builtin.clear_,run_underlying ht]
    |succ m =>
     have hF:=hS.fams k f' hfk;have BG:=hF.room;have hbase:=l5 (by omega);obtain⟨cur,t',k1,k2,k3⟩:=hF.cells;obtain⟨i,zv,q1,q2,q3,q4,q5⟩:=Iw hz;have J5:=hF.sz;obtain⟨zv',q2',xb,_,hrow,hone⟩:=SL (E:=E) hz (n:=m+1) q1 (by
      have hpv:=Fo (w:=E.w) (ok:=E.ok) q4;obtain⟨g1,_⟩:=Qq hpv q5;have:=(JL g1).1;simp at this;omega)
     rw[q2]at q2';cases q2';have hfi:f'.sz=i.size:=by omega
     have Cz:(Builtin.zeroCells zv.cells (m+1))=madeCells zv.cells ((m+1)*i.size):=by rw[←q3];rfl
     have hnl:(madeCells zv.cells ((m+1)*i.size)).toList.length=(m+1)*f'.sz:=by rw[hfi];simp[size_madeCells]
     have Dr:(E.im k).o+(off-(E.im k).lo)*f'.sz+(m+1)*f'.sz<=cur.size:=by
      have h3:(off-(E.im k).lo+(m+1))*f'.sz<=(E.im k).cap*f'.sz:=A0V _ (by omega);rw[A0W]at h3;omega
     have Hi:=run_storeCells_at P (E.im k).b ((E.im k).o+(off-(E.im k).lo)*f'.sz) t' (madeCells zv.cells ((m+1)*i.size)).toList 0 cur E.w k1 (by rw[hnl];omega) hone;simp only[A0u]at Hi;obtain⟨us,WH⟩:∃us:Array Value,us=(cur.toList.take ((E.im k).o+(off-(E.im k).lo)*f'.sz)++(madeCells zv.cells ((m+1)*i.size)).toList++cur.toList.drop ((E.im k).o+(off-(E.im k).lo)*f'.sz+(madeCells zv.cells ((m+1)*i.size)).toList.length)).toArray:=⟨_,rfl⟩;rw[←WH]at Hi;have hget:∀j:Nat,us[j]?=if j<(E.im k).o+(off-(E.im k).lo)*f'.sz then cur[j]? else if j<(E.im k).o+(off-(E.im k).lo)*f'.sz+(m+1)*f'.sz then (madeCells zv.cells ((m+1)*i.size)).toList[j-((E.im k).o+(off-(E.im k).lo)*f'.sz)]? else cur[j]?:=by
      intro j;have:=Kk (l:=cur.toList) (off:=(E.im k).o+(off-(E.im k).lo)*f'.sz) (vs:=(madeCells zv.cells ((m+1)*i.size)).toList) (by rw[hnl];simpa using Dr) j;rw[hnl]at this;simp only[A0Y]at this;rw[WH,A0i,hnl,this,A0Y]
     have B9:f'.xs.length=({f' with xs:=f'.xs.take off++A0S (m+1) z++f'.xs.drop (off+(m+1))}:Fam).xs.length:=by
      show f'.xs.length=(f'.xs.take off++A0S (m+1) z++f'.xs.drop (off+(m+1))).length;simp only[A0f,List.length_take,List.length_replicate,List.length_drop];omega
     have hkeep:f'.wr=false->∀j,j<(E.im k).o+(f'.xs.length-(E.im k).lo)*f'.sz->us[j]?=cur[j]?:=λh=>by rw[c3]at h;cases h
     refine⟨_,.tuple #[],E.setFam k us {f' with xs:=f'.xs.take off++A0S (m+1) z++f'.xs.drop (off+(m+1))},TT ho h1 h2 ?_,.inl rfl,Kh hS hfk k1 rfl rfl (A0v B9) hkeep,
      Pc hS hfk k1 rfl rfl (A0v B9) hkeep (by rw[←B9];exact BG) (by rw[WH];simp[hnl];omega) ?_,rfl,FP _⟩
     .rw[e1,hbase];have hzr:(zeroValue e).run P E.w=.ok zv E.w:=by simp[zeroValue,typeInfo,q1,q2]
      simp[Builtin.clear_,run_underlying ht,hzr,Cz,Hi,Env.setFam]
     .intro j x'' hj hx'';have pu:(f'.xs.take off++A0S (m+1) z++f'.xs.drop (off+(m+1)))[j]?=some x'':=hx'';have ho':off<=f'.xs.length:=by omega
      by_cases hj1:j<off
      .rw[A0m,A0P (by simp;omega),A0e,if_pos hj1]at pu;obtain⟨g1,g2⟩:=k3 j x'' hj pu;refine⟨g1,λc y hy=>?_⟩;obtain⟨w,w1,w2⟩:=g2 c y hy;have Lr:c<f'.sz:=by have:=(A0O.1 hy).1;omega
       have:=DA (show j-(E.im k).lo<off-(E.im k).lo by omega) Lr;exact⟨w,by rw[hget,if_pos (by omega)];exact w1,w2⟩
      .by_cases hj2:j<off+(m+1)
       .rw[A0m,A0Q (by simp;omega),A0P (by simp;omega)]at pu;rw[show (f'.xs.take off).length=off from by simp;omega]at pu;obtain⟨g1,g2⟩:=hrow (j-off) x'' pu;refine⟨by omega,λc y hy=>?_⟩;obtain⟨w,w1,w2⟩:=g2 c y hy;have Lr:c<f'.sz:=by have:=(A0O.1 hy).1;omega
        have M3:(E.im k).o+(j-(E.im k).lo)*f'.sz+c=(E.im k).o+(off-(E.im k).lo)*f'.sz+((j-off)*i.size+c):=by
         rw[show j-(E.im k).lo=(off-(E.im k).lo)+(j-off) from by omega,A0W,hfi];omega
        have:=DA (show j-off<m+1 by omega) Lr;refine⟨w,?_,w2⟩;rw[M3,hget,if_neg (by omega),if_pos (by rw[←hfi];omega),show (E.im k).o+(off-(E.im k).lo)*f'.sz+((j-off)*i.size+c)-((E.im k).o+(off-(E.im k).lo)*f'.sz)=(j-off)*i.size+c from by omega];exact w1
       .rw[A0Q (by simp;omega),A0d]at pu;have hjj:off+(m+1)+(j-(f'.xs.take off++A0S (m+1) z).length)=j:=by simp;omega
        rw[hjj]at pu;obtain⟨g1,g2⟩:=k3 j x'' hj pu;refine⟨g1,λc y hy=>?_⟩;obtain⟨w,w1,w2⟩:=g2 c y hy;refine⟨w,?_,w2⟩;have hge:(off-(E.im k).lo)*f'.sz+(m+1)*f'.sz<=(j-(E.im k).lo)*f'.sz:=by
         rw[←A0W];exact A0V _ (by omega)
        rw[hget,if_neg (by omega),if_neg (by omega)];exact w1
   .cases G3
  .cases G3
 .cases G3
theorem A0N {t e:TypeId} {l c:Operand} {l' c':Opd} {z v:AV} {i:TypeInfo} {h':AH} (hS:SR E) (hf:FR E fr a.tmps) (ho:o.op=.makeSlice t l c) (hu:P.underlying t=some (.slice e)) (hi:P.info? e=some i) (hz:Program.zeroA P e=some z)
  (M3:0<i.size) (hl:D7 l=some l') (hc:D7 c=some c') (G3:jN E.h z i.bytes (get fr l') (get fr c')=some (v,h')):Pi P a o E v h':=by
 unfold jN at G3;split at G3
 .rename_i k1 x k2 y hx hy;split at G3
  .rename_i hcc;obtain⟨h0,rfl,hb,hm⟩:=hcc;cases G3;have e1:=D8 hf hl;have e2:=D8 hf hc;rw[hx]at e1;rw[hy]at e2;simp only[VR]at e1 e2;obtain⟨zv,h2,xb,h3,hr,h1⟩:=SL (E:=E) hz (n:=x.toNat) hi M3;have hrun:=run_make (P:=P) E.w t e i zv hu hi h2 k1 k2 x x h0 (Int.le_refl _) (by rw[A0s];unfold H3 at hb;omega) (by unfold maxLen at hm;omega);have hpv:=eI (e:=e) hS (by rw[←xb]at M3;exact M3) (by rw[xb];exact hr) (by simp;omega);have hb:Bl E.w.heap.size E.w (E.w.alloc (.cells (madeCells zv.cells (x.toNat*i.size)) e)):=⟨(Below.refl _ _).alloc (A0T _) _,A0T _⟩;refine⟨_,.slice (some ⟨E.w.heap.size,0,none⟩) x.toNat x.toNat,{E with w:=E.w.alloc (.cells (madeCells zv.cells (x.toNat*i.size)) e)},?_,.inl rfl,Bn hS hb,HJ hS hb,rfl,?_⟩
   .simp only[execOp,ho,e1,e2,Sem.run_bind,hrun,Result.andThen_ok,Sem.run_pure]
   .refine FO _ _ ?_;simpa using hpv
  .cases G3
 .cases G3
end
end Go.Abs
