/- A part of the proof. -/
import Derived.Test.YtohjdamplbhdpaaGreatDoorSO2
import Derived.MapKept
import Derived.Laws.BytesArg
set_option linter.all false
open List renaming getElem?_eq_some_iff->A0Q,getElem?_append_left->A0R,getElem?_append_right->A0S,eq_nil_of_length_eq_zero->A0T,replicate->A0U,getElem?_eq_getElem->A0W,getElem?_set_ne->A0b,getElem?_map->A0c,map_cons->A0d,getElem?_drop->A0f,getElem?_take->A0g,length_append->A0h,getElem?_set->A0i,map_nil->A0j,getElem?_toArray->A0k,getElem?_range->A0l,append_assoc->A0o,ext_getElem?->A0p,map_toArray->A0r,map_append->A0s,all_cons->A0t,map_set->A0v
open Nat renaming le_refl->A0V,mul_le_mul_right->A0X,add_mul->A0Y,eq_zero_or_pos->A0m,add_zero->A0w,le_of_eq->A0x,le_trans->A0y,mul_comm->A0z,zero_le->A00
open Option renaming map_eq_some_iff->A0Z
open Array renaming getElem?_toList->A0a,getElem?_setIfInBounds_ne->A0e,toList_push->A0n
open Bool renaming and_eq_true->A0q
open Int renaming mul_comm->A0u
namespace Go.Abs
open Go.RowKit (Below)
section
variable {E:Env} {P:Program} {fr:Fr} {a:Act} {o:Oper}
theorem TK {us:Array Value} {xs:G3} {sz:Nat} (h:KF E us.toList xs sz) (i:Nat) (x:AV) (hx:xs[i]?=some x):Nt E us (i*sz) sz x:=by
 obtain⟨h1,h2⟩:=h i x hx;exact⟨h1,λc y hc=>by obtain⟨v,v1,v2,v3⟩:=h2 c y hc;exact⟨v,by simpa using v1,v2,v3⟩⟩
theorem mY {t e:TypeId} {l c:Operand} {l' c':Opd} {z:AV} {i:TypeInfo} {k1 k2:IntKind} {x y:Int} (hS:SR E) (hf:FR E fr a.tmps) (ho:o.op=.makeSlice t l c) (hu:P.underlying t=some (.slice e)) (hi:P.info? e=some i) (hz:Program.zeroA P e=some z)
  (M2:0<i.size) (hl:D7 l=some l') (hc:D7 c=some c') (hx:get fr l'=.int k1 x) (hy:get fr c'=.int k2 y) (h0:0<=x) (hxy:x<=y) (hb:y*i.bytes<=H2) (hm:y<=maxLen) :
  Pe P a o E (.sl E.h.fams.length x.toNat 0 x.toNat) {E.h with fams:=E.h.fams++[⟨A0U x.toNat z,z.cells.length,true⟩]}:=by
 have e1:=D8 hf hl;have e2:=D8 hf hc;rw[hx]at e1;rw[hy]at e2;simp only[VR]at e1 e2;obtain⟨zv,h2,xd,h3,hr,h1⟩:=SU (E:=E) hz (n:=y.toNat) hi M2;have hrun:=run_make (P:=P) E.w t e i zv hu hi h2 k1 k2 x y h0 hxy (by rw[A0u];unfold H2 at hb;omega) (by unfold maxLen at hm;omega);have B8:(A0U x.toNat z).length=x.toNat:=by simp
 have Ul:∀(j:Nat) (w:AV),(A0U x.toNat z)[j]?=some w->Nt E (madeCells zv.cells (y.toNat*i.size)) (j*z.cells.length) z.cells.length w:=by
  intro j w hw;rw[xd];refine TK hr j w ?_;rw[List.getElem?_replicate]at hw ⊢;split at hw
  .rename_i hj;cases hw;rw[if_pos (by omega)]
  .cases hw
 refine⟨_,.slice (some ⟨E.w.heap.size,0,none⟩) x.toNat y.toNat,E.newFam (madeCells zv.cells (y.toNat*i.size)) e y.toNat ⟨A0U x.toNat z,z.cells.length,true⟩,?_,.inl rfl,Ke hS _ _ _ _,
  PR hS (by simpa[xd]using M2) (by simp;omega) (by omega) (by simp[size_madeCells,xd]) Ul,rfl,?_⟩
 .simp only[execOp,ho,e1,e2,Sem.run_bind,hrun,Result.andThen_ok,Sem.run_pure,Env.newFam]
 .simp only[VR,Env.newFam,u6];refine⟨_,_,⟨A0U x.toNat z,z.cells.length,true⟩,rfl,by simp,⟨by simp,λ_=>⟨_,_,rfl⟩⟩,λ_=>⟨A00 _,by simp,by simp,(λh=>nomatch h),λ_=>by simp⟩⟩
theorem kh {n sz j:Nat} (J4:0<sz) (hj:j<n*sz):j / sz<n/\j % sz<sz/\j / sz*sz+j % sz=j :=
 ⟨Nat.div_lt_of_lt_mul (by rwa [A0z]),Nat.mod_lt _ J4,by rw[A0z];exact Nat.div_add_mod j sz⟩
def qM (E:Env) (b q sz:Nat) (ys:List AV):Prop :=
 ∀(i:Nat) (x:AV),ys[i]?=some x->x.cells.length=sz/\∀(c:Nat) (y:AV),x.cells[c]?=some y->∃v,E.w.cell? ⟨b,q+i*sz+c,none⟩=some v/\v.oneCell'=true/\PV E.w E.ok y v
theorem Nx {b q sz:Nat} {ys:G3} (J4:0<sz) (h:qM E b q sz ys) :
  ∃news:List Value,news.length=ys.length*sz/\(∀(j:Nat) (u:Value),news[j]?=some u->E.w.cell? ((⟨b,q,none⟩:Addr).add j)=some u)/\(∀u∈news,u.oneCell'=true)/\KF E news ys sz:=by
 have hex:∀j,j<ys.length*sz->∃u,E.w.cell? ⟨b,q+j,none⟩=some u/\u.oneCell'=true/\∃y x,ys[j / sz]?=some x/\x.cells[j % sz]?=some y/\PV E.w E.ok y u:=by
  intro j hj;obtain⟨h1,h2,h3⟩:=kh J4 hj;obtain⟨g1,g2⟩:=h (j / sz) _ (A0W h1);obtain⟨v,v1,v2,v3⟩:=g2 (j % sz) _ (A0W (by omega));rw[show q+j / sz*sz+j % sz=q+j from by omega]at v1;exact⟨v,v1,v2,_,_,A0W h1,A0W _,v3⟩
 have hpick:∃g:Nat->Value,∀j,j<ys.length*sz->E.w.cell? ⟨b,q+j,none⟩=some (g j)/\(g j).oneCell'=true/\∃y x,ys[j / sz]?=some x/\x.cells[j % sz]?=some y/\PV E.w E.ok y (g j):=by
  refine⟨λj=>if hj:j<ys.length*sz then Classical.choose (hex j hj)else default,λj hj=>?_⟩
  simp only[hj,dif_pos];exact Classical.choose_spec (hex j hj)
 obtain⟨g,hg⟩:=hpick;refine⟨(List.range (ys.length*sz)).map g,by simp,λj u hu=>?_,λu hu=>?_,λi x hx=>?_⟩
 .rw[A0c]at hu;by_cases hj:j<ys.length*sz
  .rw[A0l hj]at hu;simp at hu;subst hu;rw[FP];exact(hg j hj).1
  .rw[List.getElem?_eq_none (by simpa using hj)]at hu;simp at hu
 .simp at hu;obtain⟨j,hj,rfl⟩:=hu;exact(hg j hj).2.1
 .obtain⟨g1,g2⟩:=h i x hx;refine⟨g1,λc y hc=>?_⟩;obtain⟨v,v1,v2,v3⟩:=g2 c y hc;have hi:i<ys.length:=(A0Q.1 hx).1;have Lq:c<sz:=by have:=(A0Q.1 hc).1;omega
  have A7:=Cz hi Lq;refine⟨v,?_,v2,v3⟩;rw[A0c,A0l A7];have:=(hg _ A7).1;rw[show q+(i*sz+c)=q+i*sz+c from by omega]at this;rw[this]at v1;simpa using v1
theorem LZ (hS:SR E) {sz:Nat} (J4:0<sz) {x:AV} {v:Value} {ys:G3} (hv:VR E x v) (h:AR E.h sz x=some ys) :
  ∃ad c,v=.slice ad ys.length c/\(ad=none->ys.length=0)/\(ys≠[]->∃b q,ad=some ⟨b,q,none⟩/\qM E b q sz ys):=by
 unfold AR at h;split at h
 .rename_i full z xs;split at h
  .rename_i hz;cases h;simp only[VR,PV]at hv;obtain⟨ad,len,cap,rfl,rfl,h2,h3,h4,h5,h6⟩:=hv;refine⟨ad,cap,rfl,λhn=>by have:=h5.1 hn;omega,λP0=>?_⟩;obtain⟨b,q,rfl,_,hels⟩:=h6 P0;have:z=sz:=by
    rcases hz with hz|hz
    .exact hz
    .exact absurd (A0T hz) P0
   subst this;refine⟨b,q,rfl,λi x hx=>?_⟩;obtain⟨p1,p2⟩:=Qr hels hx;refine⟨p1,λc y hc=>?_⟩;obtain⟨u,_,u2,u3,u4⟩:=KT p2 hc;exact⟨u,u2,u3,u4⟩
  .cases h
 .rename_i k n off len;split at h
  .rename_i f hfk;split at h
   .rename_i hc;cases h;obtain⟨hn,hz,ho⟩:=hc;simp only[VR]at hv;obtain⟨ad,cap,f',rfl,hf',_,hcc⟩:=hv;have:f'=f:=by rw[hfk]at hf';simpa using hf'.symm
    subst this;obtain⟨l1,l2,l3,l4,l5⟩:=hcc hn;have hF:=hS.fams k f' hfk;have BF:=hF.room;have B8:((f'.xs.drop off).take len).length=len:=by simp;omega
    refine⟨ad,cap,by rw[B8],λh=>absurd h l4,λP0=>?_⟩;have M2:0<len:=by
     rcases A0m len with h0|h0
     .subst h0;simp at P0
     .exact h0
    refine⟨_,_,l5 (by omega),λi x hx=>?_⟩;have hi:i<len:=by have:=(A0Q.1 hx).1;omega
    have hx':f'.xs[off+i]?=some x:=by
     rw[A0g,if_pos hi,A0f]at hx;exact hx
    obtain⟨cur,t,c1,c2,c3⟩:=hF.cells;obtain⟨e1,e2⟩:=c3 (off+i) x (by omega) hx';refine⟨by omega,λc y hc=>?_⟩;obtain⟨u,u1,u2,u3⟩:=e2 c y hc;refine⟨u,?_,u2,u3⟩;rw[cell_of_row _ _ _ _ _ _ c1];rw[show (E.im k).o+(off-(E.im k).lo)*f'.sz+i*sz+c=(E.im k).o+(off+i-(E.im k).lo)*f'.sz+c from by
     rw[show off+i-(E.im k).lo=(off-(E.im k).lo)+i from by omega,A0Y,hz];omega]
    exact u1
   .cases h
  .cases h
 .cases h
theorem Qj (t ty e:TypeId) (i:TypeInfo) (ht:P.underlying t=some (.slice e)) (hi:P.info? e=some i) (base ad:Option Addr) (n c m:Nat) (hnc:n<=c) (w:World) :
  (Builtin.append_ #[t,t] ty #[.slice base n c,.slice ad 0 m]).run P w=.ok (.slice base n c) w:=by
 have hf:(Builtin.firstCells i.size 0 (.slice ad 0 m)).run P w=.ok #[] w:=by
  cases ad<;>simp[Builtin.firstCells,loadCells,loadCellsFrom]
 cases base<;>simp[Builtin.append_,run_underlying ht,sizeOf,typeInfo,hi,Builtin.lenOf,hnc,hf,storeCells]
theorem ZE (t ty e:TypeId) (i:TypeInfo) (ht:P.underlying t=some (.slice e)) (hi:P.info? e=some i)
  (g q sLen sCap:Nat) (cur:Array Value) (t':TypeId) (w:World) (hg:w.heap[g]?=some (.cells cur t' (0,0)))
  (a:Addr) (m c:Nat) (news:List Value) (hl:news.length=m*i.size) (hnews:∀j u,news[j]?=some u->w.cell? (a.add j)=some u) (h1:∀u∈news,u.oneCell'=true)
  (BF:sLen+m<=sCap) (Dn:q+sLen*i.size+news.length<=cur.size) :
  (Builtin.append_ #[t,t] ty #[.slice (some ⟨g,q,none⟩) sLen sCap,.slice (some a) m c]).run P w =
   .ok (.slice (some ⟨g,q,none⟩) (sLen+m) sCap) (w.setRow g (cur.toList.take (q+sLen*i.size)++news++cur.toList.drop (q+sLen*i.size+news.length)).toArray):=by
 have hf:=run_firstCells_some (P:=P) w i.size m a m c news hl hnews;have Hg:=run_storeCells_at P g (q+sLen*i.size) t' news 0 cur w hg (by simpa using Dn) h1;simp only[A0w]at Hg;simp[Builtin.append_,run_underlying ht,sizeOf,typeInfo,hi,Builtin.lenOf,BF,hf,FP,Hg]
theorem TO {B:Nat} (w:World):Bl B w w.drew:=⟨(Below.refl B w).drew,Nat.le_succ _⟩
theorem OA {us vs:List Value} {xs ys:G3} {sz:Nat} (h1:KF E us xs sz) (hl:us.length=xs.length*sz) (h2:KF E vs ys sz):KF E (us++vs) (xs++ys) sz:=by
 intro i x hx;by_cases hi:i<xs.length
 .rw[A0R hi]at hx;obtain⟨g1,g2⟩:=h1 i x hx;refine⟨g1,λc y hc=>?_⟩;obtain⟨v,v1,v2⟩:=g2 c y hc;exact⟨v,by rw[A0R (A0Q.1 v1).1];exact v1,v2⟩
 .rw[A0S (by omega)]at hx;obtain⟨g1,g2⟩:=h2 _ x hx;refine⟨g1,λc y hc=>?_⟩;obtain⟨v,v1,v2⟩:=g2 c y hc;refine⟨v,?_,v2⟩;have:xs.length*sz<=i*sz:=A0X _ (by omega);rw[A0S (by omega),hl,show i*sz+c-xs.length*sz=(i-xs.length)*sz+c from by rw[Nat.sub_mul];omega];exact v1
theorem mD {us vs:List Value} {xs:G3} {sz:Nat} (h1:KF E us xs sz):KF E (us++vs) xs sz:=by
 intro i x hx;obtain⟨g1,g2⟩:=h1 i x hx;refine⟨g1,λc y hc=>?_⟩;obtain⟨v,v1,v2⟩:=g2 c y hc;exact⟨v,by rw[A0R (A0Q.1 v1).1];exact v1,v2⟩
theorem Qu {E':Env} (h:Ext E E') {us:List Value} {xs:G3} {sz:Nat} (h1:KF E us xs sz):KF E' us xs sz:=by
 intro i x hx;obtain⟨g1,g2⟩:=h1 i x hx;refine⟨g1,λc y hc=>?_⟩;obtain⟨v,v1,v2,v3⟩:=g2 c y hc;exact⟨v,v1,v2,Dq h.cells _ _ v3⟩
end
section
variable {E:Env} {P:Program} {fr:Fr} {a:Act} {o:Oper}
theorem La {args:Array Operand} {ats:Array TypeId} {s x:Operand} {t:TypeId} (ho:o.op=.call {callee:=.builtin .append,args:=args,argTypes:=ats}) (h1:args.toList=[s,x]) (h2:ats.toList=[t,t]) {v:Value} {w w':World}
  (h:(Builtin.append_ #[t,t] o.type #[a.eval s,a.eval x]).run P w=.ok v w'):(execOp a.eval o).run P w=.ok (.value v) w':=by
 rw[bB h1,bB h2]at ho;simp only[execOp,ho,resolve,invoke,builtin,Sem.run_bind,Sem.run_pure,Result.andThen_ok,A0r,A0d,A0j,h]
theorem Zi {us:List Value} {xs:G3} {sz n cap:Nat} (hr:KF E us xs sz) (hl:us.length=n*sz) (z:Array Value) (hz:z.size=sz) (hcap:n<=cap) :
  KF E (us.toArray++Builtin.zeroCells z (cap-n)).toList xs sz/\cap*sz<=(us.toArray++Builtin.zeroCells z (cap-n)).size:=by
 refine⟨?_,?_⟩
 .rw[Array.toList_append];exact mD hr
 .rw[Array.size_append,size_zeroCells,hz,List.size_toArray,hl,←A0Y];exact A0X _ (by omega)
theorem Ri {t ty e:TypeId} {i:TypeInfo} {z:Value} (ht:P.underlying t=some (.slice e)) (hi:P.info? e=some i) (hz:i.zero=some z) (hzs:z.cells.size=i.size)
  {base:Option Addr} {n cap:Nat} {olds:List Value} {xs:List AV} (hb:base=none->cap=0) (hnc:n<=cap) (hold:olds.length=n*i.size) (yz:xs.length=n)
  (holds:∀b,base=some b->∀(j:Nat) (u:Value),olds[j]?=some u->E.w.cell? (b.add j)=some u) (hro:KF E olds xs i.size)
  {ad:Addr} {ys:List AV} {c:Nat} {news:List Value} (hl:news.length=ys.length*i.size) (hnews:∀(j:Nat) (u:Value),news[j]?=some u->E.w.cell? (ad.add j)=some u) (hrn:KF E news ys i.size)
  (hg:cap<n+ys.length) (hm:n+ys.length<=maxLen) (hbytes:(n+ys.length)*i.bytes<=H2) :
  ∃us newCap,(Builtin.append_ #[t,t] ty #[.slice base n cap,.slice (some ad) ys.length c]).run P E.w=.ok (.slice (some ⟨E.w.heap.size,0,none⟩) (n+ys.length) newCap) (E.w.drew.alloc (.cells us e)) /\
   n+ys.length<=newCap/\newCap<=maxLen/\newCap*i.size<=us.size/\KF E us.toList (xs++ys) i.size:=by
 have Dn:=growslice_fits hg hbytes;have h63:((n+ys.length:Nat):Int)<=9223372036854775807:=by unfold maxLen at hm;omega
 refine⟨(olds++news).toArray++Builtin.zeroCells z.cells (grownCap E.w (n+ys.length) cap e-(n+ys.length)),grownCap E.w (n+ys.length) cap e,?_,grownCap_ge _ _ _ _,grownCap_le_maxLen _ _ _ _ hm,?_,?_⟩
 rotate_left 1
 .exact(Zi (us:=olds++news) (xs:=xs++ys) (n:=n+ys.length) (OA hro (by rw[hold,yz]) hrn) (by rw[A0h,hold,hl,A0Y]) z.cells hzs (grownCap_ge E.w _ cap e)).2
 .exact(Zi (us:=olds++news) (xs:=xs++ys) (n:=n+ys.length) (OA hro (by rw[hold,yz]) hrn) (by rw[A0h,hold,hl,A0Y]) z.cells hzs (grownCap_ge E.w _ cap e)).1
 .cases base with
  |none =>
   have hc:=hb rfl;subst hc;have hn0:n=0:=by omega
   subst hn0;have ho0:olds=[]:=A0T (by simpa using hold);subst ho0;have:=run_append_nil (P:=P) E.w t ty e i z ht hi hz ad ys.length c news hl hnews (by omega) (by simpa using h63) (by simp at hbytes;unfold H2 at hbytes;omega);simpa using this
  |some b =>
   have:=run_append_grow (P:=P) E.w t ty e i z ht hi hz b n cap olds hold (holds b rfl) ad ys.length c news hl hnews hg h63 Dn;rw[this];simp
theorem dq (hS:SR E):Ext E {E with w:=E.w.drew}:=Bk hS (TO _)
theorem ki (hS:SR E):SR {E with w:=E.w.drew}:=HG hS (TO _)
theorem iM {c:Ctx} {args:Array Operand} {ats:Array TypeId} {s x:Operand} {s' x':Opd} {t e:TypeId} {i:TypeInfo} {z:AV} {z0:Nat} {xs ys:G3} (hS:SR E) (hf:FR E fr a.tmps)
  (ho:o.op=.call {callee:=.builtin .append,args:=args,argTypes:=ats}) (h1:args.toList=[s,x]) (h2:ats.toList=[t,t]) (ht:P.underlying t=some (.slice e)) (hi:P.info? e=some i) (hz:Program.zeroA P e=some z) (M2:0<i.size)
  (hs:D7 s=some s') (hx:D7 x=some x') (hg:get fr s'=.vs true z0 xs) (WZ:AR E.h i.size (get fr x')=some ys) (P0:ys.length≠0) (hz0:z0=i.size\/xs.length=0)
  (hb:(xs.length+ys.length)*i.bytes<=H2) (hm:xs.length+ys.length<=maxLen) :
  Pe P a o E (.sl E.h.fams.length (xs.length+ys.length) 0 (xs.length+ys.length)) {E.h with fams:=E.h.fams++[⟨xs++ys,i.size,c.mutApp⟩]}:=by
 obtain⟨i',zv,q1,q2,q3,q4,q5⟩:=Iu hz;rw[hi]at q1;cases q1;have e1:=D8 hf hs;rw[hg]at e1;simp only[VR,PV]at e1;obtain⟨base,len,cap,e2,rfl,e4,e5,e6,e7,e8⟩:=e1;have ecap:cap=xs.length:=e6 trivial;obtain⟨ad,cx,f1,f2,f3⟩:=LZ hS M2 (D8 hf hx) WZ;obtain⟨b,q,rfl,f4⟩:=f3 (by intro h;subst h;simp at P0);obtain⟨news,n1,n2,_,n4⟩:=Nx M2 f4;have hold:∃olds:List Value,olds.length=xs.length*i.size/\(∀b,base=some b->∀(j:Nat) (u:Value),olds[j]?=some u->E.w.cell? (b.add j)=some u)/\KF E olds xs i.size:=by
  by_cases hxe:xs=[]
  .subst hxe;exact⟨[],by simp,λb _ j u h=>by simp at h,λj x h=>by simp at h⟩
  .obtain⟨b',q',rfl,_,hels⟩:=e8 hxe;have:z0=i.size:=by
    rcases hz0 with h|h
    .exact h
    .exact absurd (A0T h) hxe
   subst this;obtain⟨olds,o1,o2,_,o4⟩:=Nx (E:=E) (b:=b') (q:=q') M2 (ys:=xs) (λj x hj=>by
    obtain⟨p1,p2⟩:=Qr hels hj;refine⟨p1,λc y hc=>?_⟩;obtain⟨u,_,u2,u3,u4⟩:=KT p2 hc;exact⟨u,u2,u3,u4⟩)
   exact⟨olds,o1,λb'' hb''=>by cases hb'';exact o2,o4⟩
 obtain⟨olds,o1,o2,o3⟩:=hold;obtain⟨us,newCap,r1,r2,r3,r4,r5⟩:=Ri (P:=P) (ty:=o.type) ht hi q2 q3 e7.1 e4 o1 rfl o2 o3 n1 n2 n4 (c:=cx) (by omega) hm hb;have hE1:=ki hS;have hx1:=dq hS;refine⟨_,.slice (some ⟨E.w.heap.size,0,none⟩) (xs.length+ys.length) newCap,({E with w:=E.w.drew}:Env).newFam us e newCap ⟨xs++ys,i.size,c.mutApp⟩,?_,.inl rfl,hx1.trans (Ke hE1 _ _ _ _),
  PR hE1 M2 (by simpa using r2) r3 r4 (λj x hj=>TK (Qu hx1 r5) j x hj),rfl,?_⟩
 .refine La ho h1 h2 ?_;rw[e2,f1,r1];rfl
 .simp only[VR,Env.newFam,u6];exact⟨_,_,⟨xs++ys,i.size,c.mutApp⟩,rfl,by simp,⟨by simp,λ_=>⟨_,_,rfl⟩⟩,λ_=>⟨A00 _,by simp,by simp,(λh=>nomatch h),λ_=>by simp⟩⟩
theorem DH {α:Type} {l:List α} {k:Nat} {x:α} (h:l[k]?=some x):l.set k x=l:=by
 apply A0p;intro j;rw[A0i];split
 .rename_i hj;subst hj;have:=(A0Q.1 h).1;rw[if_pos this];exact h.symm
 .rfl
theorem mX {args:Array Operand} {ats:Array TypeId} {s x:Operand} {s' x':Opd} {t e:TypeId} {i:TypeInfo} {z:AV} {k n off len:Nat} {f:Fam} {ys:G3} (hS:SR E) (hf:FR E fr a.tmps)
  (ho:o.op=.call {callee:=.builtin .append,args:=args,argTypes:=ats}) (h1:args.toList=[s,x]) (h2:ats.toList=[t,t]) (ht:P.underlying t=some (.slice e)) (hi:P.info? e=some i) (hz:Program.zeroA P e=some z) (M2:0<i.size)
  (hs:D7 s=some s') (hx:D7 x=some x') (hg:get fr s'=.sl k n off len) (WZ:AR E.h i.size (get fr x')=some ys) (hfk:E.h.fams[k]?=some f) (hn:f.xs.length=n) (J4:f.sz=i.size) (hoff:off+len=n)
  (hb:(n+ys.length)*i.bytes<=H2) (hm:n+ys.length<=maxLen) :
  Pe P a o E (.sl k (n+ys.length) off (len+ys.length)) {E.h with fams:=E.h.fams.set k {f with xs:=f.xs++ys}}:=by
 obtain⟨i',zv,q1,q2,q3,q4,q5⟩:=Iu hz;rw[hi]at q1;cases q1;have e1:=D8 hf hs;rw[hg]at e1;have e1':=e1;simp only[VR]at e1;obtain⟨base,cap,f',e2,hf',e4,e5⟩:=e1;have:f'=f:=by rw[hfk]at hf';simpa using hf'.symm
 subst this;obtain⟨l1,l2,l3,l4,l5⟩:=e5 hn;have hF:=hS.fams k f' hfk;have BF:=hF.room;have Dt:=(A0Q.1 hfk).1;obtain⟨ad,cx,f1,f2,f3⟩:=LZ hS M2 (D8 hf hx) WZ;have hlencap:len<=cap:=by omega
 by_cases h0:ys=[]
 .subst h0;have Z8:E.h.fams.set k {f' with xs:=f'.xs++[]}=E.h.fams:=DH (by rw[List.append_nil];exact hfk)
  refine⟨_,.slice base len cap,E,La ho h1 h2 ?_,.inl rfl,Ext.refl E,hS,by rw[Z8],by rw[e2]at e1';simpa using e1'⟩;rw[e2,f1];exact Qj t _ e i ht hi base ad len cap cx hlencap E.w
 have hylen:0<ys.length:=by
  rcases A0m ys.length with h|h
  .exact absurd (A0T h) h0
  .exact h
 obtain⟨b,q,rfl,f4⟩:=f3 h0;obtain⟨news,n1,n2,n3,n4⟩:=Nx M2 f4;by_cases XK:len+ys.length<=cap
 ·-- there is room
  have hbase:=l5 (by omega);obtain⟨cur,t',c1,c2,c3⟩:=hF.cells;have hnl:off-(E.im k).lo+len=n-(E.im k).lo:=by omega
  have epos:(E.im k).o+(off-(E.im k).lo)*f'.sz+len*i.size=(E.im k).o+(n-(E.im k).lo)*f'.sz:=by
   rw[←hnl,A0Y,J4];omega
  have Dn:(E.im k).o+(n-(E.im k).lo)*f'.sz+news.length<=cur.size:=by
   have h3:(n-(E.im k).lo+ys.length)*f'.sz<=(E.im k).cap*f'.sz:=A0X _ (by omega);rw[A0Y]at h3;rw[n1,←J4];omega
  have hrun:=ZE (P:=P) t o.type e i ht hi (E.im k).b ((E.im k).o+(off-(E.im k).lo)*f'.sz) len cap cur t' E.w c1 ⟨b,q,none⟩ ys.length cx news n1 n2 n3 XK (by rw[epos];exact Dn);rw[epos]at hrun;obtain⟨us,WI⟩:∃us:Array Value,us=(cur.toList.take ((E.im k).o+(n-(E.im k).lo)*f'.sz)++news++cur.toList.drop ((E.im k).o+(n-(E.im k).lo)*f'.sz+news.length)).toArray:=⟨_,rfl⟩;rw[←WI]at hrun;have hget:∀j:Nat,us[j]?=if j<(E.im k).o+(n-(E.im k).lo)*f'.sz then cur[j]? else if j<(E.im k).o+(n-(E.im k).lo)*f'.sz+news.length then news[j-((E.im k).o+(n-(E.im k).lo)*f'.sz)]? else cur[j]?:=by
   intro j;have:=Kl (l:=cur.toList) (off:=(E.im k).o+(n-(E.im k).lo)*f'.sz) (vs:=news) (by simpa using Dn) j;simp only[A0a]at this;rw[WI,A0k,this]
  have hkeep:f'.wr=false->∀j,j<(E.im k).o+(f'.xs.length-(E.im k).lo)*f'.sz->us[j]?=cur[j]?:=by
   intro _ j hj;rw[hn]at hj;rw[hget,if_pos hj]
  refine⟨_,.slice base (len+ys.length) cap,E.setFam k us {f' with xs:=f'.xs++ys},La ho h1 h2 ?_,.inl rfl,Ki hS hfk c1 rfl rfl (by simp) hkeep,
   PY hS hfk c1 rfl rfl (by simp) hkeep (by simp;omega) (by rw[WI];simp;omega) ?_,rfl,?_⟩
  .rw[e2,f1,hbase,hrun];rfl
  .intro j x' hj hx';have hx'':(f'.xs++ys)[j]?=some x':=hx';by_cases hjn:j<n
   .rw[A0R (by omega)]at hx'';obtain⟨g1,g2⟩:=c3 j x' hj hx'';refine⟨g1,λc y hc=>?_⟩;obtain⟨v,v1,v2⟩:=g2 c y hc;have Lq:c<f'.sz:=by have:=(A0Q.1 hc).1;omega
    have:=Cz (show j-(E.im k).lo<n-(E.im k).lo by omega) Lq;exact⟨v,by rw[hget,if_pos (by omega)];exact v1,v2⟩
   .rw[A0S (by omega),hn]at hx'';obtain⟨g1,g2⟩:=n4 _ x' hx'';refine⟨by omega,λc y hc=>?_⟩;obtain⟨v,v1,v2⟩:=g2 c y hc;have Lq:c<f'.sz:=by have:=(A0Q.1 hc).1;omega
    have hjy:j-n<ys.length:=by have:=(A0Q.1 hx'').1;omega
    have h5:=Cz hjy Lq;have ej:(j-(E.im k).lo)*f'.sz=(n-(E.im k).lo)*f'.sz+(j-n)*f'.sz:=by
     rw[←A0Y];congr 1;omega
    refine⟨v,?_,v2⟩;rw[hget,ej,if_neg (by omega),if_pos (by rw[n1,←J4];omega)];rw[show (E.im k).o+((n-(E.im k).lo)*f'.sz+(j-n)*f'.sz)+c-((E.im k).o+(n-(E.im k).lo)*f'.sz)=(j-n)*i.size+c from by rw[←J4];omega];exact v1
  .simp only[VR,Env.setFam];refine⟨base,cap,{f' with xs:=f'.xs++ys},rfl,by simp[Dt],⟨by simp[hn],λ_=>?_⟩,λ_=>⟨l1,by omega,l3,l4,l5⟩⟩
   by_cases hc0:cap=0
   .exfalso;omega
   .exact⟨_,_,l5 hc0⟩
 ·-- there is none
  have hold:∃olds:List Value,olds.length=len*i.size/\(∀b,base=some b->∀(j:Nat) (u:Value),olds[j]?=some u->E.w.cell? (b.add j)=some u)/\KF E olds ((f'.xs.drop off).take len) i.size:=by
   have hll:((f'.xs.drop off).take len).length=len:=by simp;omega
   by_cases hl0:len=0
   .subst hl0;exact⟨[],by simp,λb _ j u h=>by simp at h,λj x h=>by simp at h⟩
   .obtain⟨ad',cx',g1,g2,g3⟩:=LZ hS (sz:=i.size) M2 e1' (ys:=(f'.xs.drop off).take len) (by simp only[AR,hfk];rw[if_pos ⟨hn,J4,by omega⟩]);obtain⟨b',q',rfl,g4⟩:=g3 (by intro h;rw[h]at hll;simp at hll;omega);obtain⟨olds,o1,o2,_,o4⟩:=Nx M2 g4;rw[e2]at g1;have:base=some ⟨b',q',none⟩:=by simp at g1;exact g1.1
    subst this;exact⟨olds,by rw[o1,hll],λb'' hb''=>by cases hb'';exact o2,o4⟩
  obtain⟨olds,o1,o2,o3⟩:=hold;have hll:((f'.xs.drop off).take len).length=len:=by simp;omega
  obtain⟨us,newCap,r1,r2,r3,r4,r5⟩:=Ri (P:=P) (ty:=o.type) ht hi q2 q3 (λe=>absurd e l4) hlencap o1 hll o2 o3 n1 n2 n4 (c:=cx) (by omega) (by omega) (by
   refine A0y (A0X _ ?_) hb;omega)
  have hE1:=ki hS;have hx1:=dq hS;refine⟨_,.slice (some ⟨E.w.heap.size,0,none⟩) (len+ys.length) newCap,({E with w:=E.w.drew}:Env).moveFam k us e off newCap {f' with xs:=f'.xs++ys},La ho h1 h2 ?_,.inl rfl,
   hx1.trans (RS hE1 hfk _ _ _ _ rfl (by simp;omega)),
   XZ hE1 hfk rfl (by simp;omega) (by simp;omega) (by simp;omega) r3 (by rw[J4];exact r4) ?_,rfl,?_⟩
  .rw[e2,f1,r1];rfl
  .intro j x' hj hx';have hx'':(f'.xs++ys)[j]?=some x':=hx';rw[J4];refine TK (Qu hx1 r5) (j-off) x' ?_;by_cases hjn:j<n
   .rw[A0R (by omega)]at hx'';rw[A0R (by omega),A0g,if_pos (by omega),A0f,show off+(j-off)=j from by omega];exact hx''
   .rw[A0S (by omega)]at hx'';rw[A0S (by omega),hll,show j-off-len=j-f'.xs.length from by omega];exact hx''
  .simp only[VR,Env.moveFam,u6];refine⟨_,_,{f' with xs:=f'.xs++ys},rfl,by simp[Dt],⟨by simp[hn],λ_=>⟨_,_,rfl⟩⟩,λ_=>⟨A0V _,by omega,by omega,(λh=>nomatch h),λ_=>by simp⟩⟩
end
section
variable {E:Env} {P:Program} {fr:Fr} {a:Act} {o:Oper}
theorem XJ (w:World) (x:Obj):(w.alloc x).heap[w.heap.size]?=some x:=(MapKept.heap_alloc w x).1
def Env.newMap (E:Env):Env :=
 {E with w:=E.w.alloc (.map #[] 0),nb:=wm E.nb E.h.boxes.length E.w.heap.size,h:={E.h with boxes:=E.h.boxes++[[.mbox [] []]]}}
theorem Xg (h:SR E):Ext E E.newMap:=by
 refine⟨λb o ho=>?_,by simp[Env.newMap],λi hi=>CW _ _ (by omega),A0V _,λk f f' hf hf'=>?_,rfl,rfl,⟨(Below.refl _ _).alloc h.basele _,A0V _⟩⟩
 .have A7:=UL h ho;refine⟨?_,LH (Below.heap_alloc _ _ _ A7)⟩;rcases ho with ho|⟨h1,_,h3,h4⟩
  .exact .inl ho
  .refine .inr ⟨h1,by simp[Env.newMap];omega,λi hi=>?_,h4⟩;by_cases hn:i=E.h.boxes.length
   .subst hn;simp only[Env.newMap,u6];intro e;omega
   .have Cw:i<E.h.boxes.length:=by simp[Env.newMap]at hi;omega
    simp only[Env.newMap,CW _ _ hn];intro e;obtain⟨cs',hcs'⟩:=h3 i Cw e;exact⟨cs',by rw[A0R Cw];exact hcs'⟩
 .have:f=f':=by have:=hf.symm.trans hf';simpa using this
  subst this;exact⟨rfl,A0V _,λ_=>rfl⟩
theorem nh (h:SR E):SR E.newMap:=by
 have hx:=Xg h;have B8:E.newMap.h.boxes.length=E.h.boxes.length+1:=by simp[Env.newMap]
 have hnb:∀i,i<E.h.boxes.length->E.newMap.nb i=E.nb i:=λi hi=>CW _ _ (by omega);have Cy:E.newMap.nb E.h.boxes.length=E.w.heap.size:=u6 _ _ _;refine⟨A0y h.basele (by simp[Env.newMap]),λi cs' hi=>?_,λk f hk=>?_,λi j hi hj he=>?_,h.injf,λi k hi hk=>?_⟩
 .by_cases hn:i=E.h.boxes.length
  .subst hn;have:cs'=[.mbox [] []]:=by simpa[Env.newMap]using hi.symm
   subst this;exact⟨by rw[Cy];exact h.basele,.inr (.inl ⟨[],[],#[],0,rfl,by rw[Cy];exact XJ _ _,by simp[Dg],by simp[Dg]⟩)⟩
  .have Cw:i<E.h.boxes.length:=by have:=(A0Q.1 hi).1;omega
   have Lq:E.h.boxes[i]?=some cs':=by
    simp only[Env.newMap]at hi
    rwa [A0R Cw]at hi
   exact(h.boxes i cs' Lq).ext hx Cw (Below.heap_alloc _ _ _ (h.nb_lt Cw).2)
 .have Dt:k<E.h.fams.length:=(A0Q.1 hk).1;exact(h.fams k f hk).ext hx rfl (Below.heap_alloc _ _ _ (h.im_lt Dt).2)
 .rw[B8]at hi hj;by_cases Cw:i<E.h.boxes.length<;>by_cases hj':j<E.h.boxes.length
  .rw[hnb i Cw,hnb j hj']at he;exact h.inj i j Cw hj' he
  .obtain rfl:j=E.h.boxes.length:=by omega
   rw[hnb i Cw,Cy]at he;have:=(h.nb_lt Cw).2;omega
  .obtain rfl:i=E.h.boxes.length:=by omega
   rw[hnb j hj',Cy]at he;have:=(h.nb_lt hj').2;omega
  .omega
 .rw[B8]at hi;have Dt:k<E.h.fams.length:=hk;by_cases Cw:i<E.h.boxes.length
  .rw[hnb i Cw];exact h.sep i k Cw Dt
  .obtain rfl:i=E.h.boxes.length:=by omega
   rw[Cy];have:=(h.im_lt Dt).2;simp only[Env.newMap];omega
theorem ue {t:TypeId} (hS:SR E) (ho:o.op=.makeMap t none):Pe P a o E (.mp E.h.boxes.length) {E.h with boxes:=E.h.boxes++[[.mbox [] []]]}:=by
 refine⟨_,.map (some E.w.heap.size),E.newMap,?_,.inl rfl,Xg hS,nh hS,rfl,?_⟩
 .simp[execOp,ho,Instr.makeMap,Env.newMap,Result.andThen]
 .simp only[VR,Env.newMap,u6];exact⟨by simp,trivial⟩
def Env.setMap (E:Env) (i:Nat) (es:Array MapEntry) (clk:Nat) (cs:List AV):Env :=
 {E with w:={E.w with heap:=E.w.heap.setIfInBounds (E.nb i) (.map es clk)},h:={E.h with boxes:=E.h.boxes.set i cs}}
theorem pt {w:World} {B g:Nat} (x:Obj) (hg:B<=g):Below B w {w with heap:=w.heap.setIfInBounds g x} :=
 ⟨rfl,rfl,rfl,by simp,λk hk=>by simp[A0e (show g≠k by omega)]⟩
theorem VQ (w:World) (g k:Nat) (x:Obj) (h:k≠g):({w with heap:=w.heap.setIfInBounds g x}:World).heap[k]?=w.heap[k]?:=by
 simp[A0e (Ne.symm h)]
theorem Tf (h:SR E) {i:Nat} (hi:i<E.h.boxes.length) {ks vs:G3} (hold:E.h.boxes[i]?=some [.mbox ks vs]) (es:Array MapEntry) (clk:Nat) (cs:G3):Ext E (E.setMap i es clk cs):=by
 have hb:=h.nb_lt hi;refine⟨λb o ho=>?_,by simp[Env.setMap],λ_ _=>rfl,A0V _,λk f f' hf hf'=>?_,rfl,rfl,⟨pt _ hb.1,A0V _⟩⟩
 .have P0:b≠E.nb i:=by
   rcases ho with ⟨ho,_⟩|⟨_,_,h3,_⟩
   .omega
   .intro e;obtain⟨cs',hcs'⟩:=h3 i hi e.symm;rw[hold]at hcs';cases hcs'
  refine⟨?_,LH (VQ _ _ _ _ P0)⟩;rcases ho with ho|⟨h1,h2,h3,h4⟩
  .exact .inl ho
  .refine .inr ⟨h1,by simpa[Env.setMap]using h2,λj hj e=>?_,h4⟩;obtain⟨cs',hcs'⟩:=h3 j (by simpa[Env.setMap]using hj) e;have hij:i≠j:=λe'=>P0 (by rw[e'];exact e.symm);exact⟨cs',by simpa[Env.setMap,A0b hij]using hcs'⟩
 .have:f=f':=by have:=hf.symm.trans hf';simpa using this
  subst this;exact⟨rfl,A0V _,λ_=>rfl⟩
theorem aS (h:SR E) {i:Nat} {ks vs ks' vs':G3} (hi:E.h.boxes[i]?=some [.mbox ks vs]) {es:Array MapEntry} {clk:Nat} (h1:Dg E.w E.ok ks' (es.toList.map (·.key))) (h2:Dg E.w E.ok vs' (es.toList.map (·.val))) :
  SR (E.setMap i es clk [.mbox ks' vs']):=by
 have Cw:=(A0Q.1 hi).1;have hx:=Tf h Cw hi es clk [.mbox ks' vs'];have B8:(E.setMap i es clk [.mbox ks' vs']).h.boxes.length=E.h.boxes.length:=by simp[Env.setMap]
 have hb1:=(h.boxes i _ hi).1;have A7:=h.nb_lt Cw;refine⟨by simpa[Env.setMap]using h.basele,λj cs' hj=>?_,λk f hk=>?_,λa b ha hb=>h.inj a b (by simpa[B8]using ha) (by simpa[B8]using hb),h.injf,λa k ha=>h.sep a k (by simpa[B8]using ha)⟩
 .by_cases hn:i=j
  .subst hn;have:cs'=[.mbox ks' vs']:=by simpa[Env.setMap,Cw]using hj.symm
   subst this;exact⟨hb1,.inr (.inl ⟨ks',vs',es,clk,rfl,by simp[Env.setMap,A7.2],d6 hx.cells _ _ h1,d6 hx.cells _ _ h2⟩)⟩
  .have hj':j<E.h.boxes.length:=by have:=(A0Q.1 hj).1;omega
   have Lq:E.h.boxes[j]?=some cs':=by simpa[Env.setMap,A0b hn]using hj
   exact(h.boxes j cs' Lq).ext hx hj' (VQ _ _ _ _ (λe=>hn (h.inj _ _ Cw hj' e.symm)))
 .have Dt:k<E.h.fams.length:=(A0Q.1 hk).1;exact(h.fams k f hk).ext hx rfl (VQ _ _ _ _ (λe=>h.sep i k Cw Dt e.symm))
theorem Vl {kt:TypeId} {str:Bool} (h:RN P kt=some str):(str=true/\P.underlying kt=some .string)\/(str=false/\∃k,P.underlying kt=some (.int k)):=by
 unfold RN at h;split at h
 .rename_i hu;cases h;exact .inl ⟨rfl,hu⟩
 .rename_i k hu;cases h;exact .inr ⟨rfl,k,hu⟩
 .cases h
theorem IJ {kt:TypeId} {str:Bool} (h:RN P kt=some str) (w:World) (v:Value) (e:Bool) (n:Nat):(Instr.checkKey e (n+1) kt v).run P w=.ok () w:=by
 rcases Vl h with ⟨_,hu⟩|⟨_,k,hu⟩<;>(unfold Instr.checkKey;simp only[Sem.run_bind,run_underlying hu,Result.andThen];cases v<;>rfl)
theorem Ve {w:World} {ok:Nat->Nat->Prop} {str:Bool} {d:TypeDesc} (hd:(str=true/\d=.string)\/(str=false/\∃k,d=.int k)) {x y:AV} {u v:Value} {b:Bool} (hx:VR E x u) (hy:PV w ok y v) (h:XC str x y=some b) :
  Instr.sameNow d u v=some b/\(b=true->u=v):=by
 unfold XC at h;split at h
 .simp only[VR]at hx;simp only[PV]at hy;subst hx hy;split at h
  .rename_i hs;cases h;rcases hd with ⟨_,rfl⟩|⟨h1,_⟩
   .exact⟨rfl,λe=>by rw[(MapKept.bytes_beq _ _).1 e]⟩
   .rw[h1]at hs;cases hs
  .cases h
 .simp only[VR]at hx;simp only[PV]at hy;subst hx hy;split at h
  .rename_i hs;cases h;rcases hd with ⟨h1,_⟩|⟨_,k',rfl⟩
   .rw[h1]at hs;simp at hs
   .obtain⟨_,rfl⟩:=hs;exact⟨by simp[Instr.sameNow],λe=>by rw[eq_of_beq e]⟩
  .cases h
 .cases h
theorem Lb {w:World} {ok:Nat->Nat->Prop} {str:Bool} {d:TypeDesc} (hd:(str=true/\d=.string)\/(str=false/\∃k,d=.int k)) {x:AV} {u:Value} (hx:VR E x u):∀{ks:G3} {es:List MapEntry} {i:Nat} {r:Option Nat},
  Dg w ok ks (es.map (·.key))->Mq str x ks i=some r ->
  (r=none/\Instr.findNow d u es i=some none)\/∃j e,r=some (i+j)/\es[j]?=some e/\Instr.findNow d u es i=some (some (i+j,e.val))/\u=e.key
 | [],es,i,r,hp,h=>by
  simp only[Mq]at h;cases h;cases es with
  |nil=>exact .inl ⟨rfl,rfl⟩
  |cons e es=>simp[Dg]at hp
 |y::ks,[],i,r,hp,h=>by simp[Dg]at hp
 |y::ks,e::es,i,r,hp,h=>by
  simp only[Dg,A0d]at hp;obtain⟨v,vs,he,h1,h2⟩:=hp;cases he;simp only[Mq]at h;split at h
  .rename_i hq;cases h;obtain⟨g1,g2⟩:=Ve hd hx h1 hq;exact .inr ⟨0,e,rfl,rfl,by simp[Instr.findNow,g1],g2 rfl⟩
  .rename_i hq;obtain⟨g1,g2⟩:=Ve hd hx h1 hq;rcases Lb hd hx h2 h with ⟨k1,k2⟩|⟨j,e',k1,k2,k3,k4⟩
   .exact .inl ⟨k1,by simp[Instr.findNow,g1,k2]⟩
   .refine .inr ⟨j+1,e',by rw[k1];congr 1;omega,by simpa using k2,?_,k4⟩;simp only[Instr.findNow,g1,k3];rw[show i+1+j=i+(j+1) by omega]
  .cases h
theorem Vk {kt:TypeId} {str:Bool} (h:RN P kt=some str):∃d,P.underlying kt=some d/\((str=true/\d=.string)\/(str=false/\∃k,d=.int k)):=by
 rcases Vl h with ⟨h1,hu⟩|⟨h1,k,hu⟩
 .exact⟨_,hu,.inl ⟨h1,rfl⟩⟩
 .exact⟨_,hu,.inr ⟨h1,k,rfl⟩⟩
theorem Ys (hS:SR E) {x:AV} {v:Value} {ks vs:G3} (hv:VR E x v) (h:GL E.h x=some (ks,vs)) :
  ∃es:Array MapEntry,Dg E.w E.ok ks (es.toList.map (·.key))/\Dg E.w E.ok vs (es.toList.map (·.val))/\((v=.map none/\es=#[])\/∃b clk,v=.map (some b)/\E.w.heap[b]?=some (.map es clk)):=by
 unfold GL at h;split at h
 .cases h;simp only[VR,PV]at hv;obtain⟨b,es,clk,rfl,_,h1,h2,h3⟩:=hv;exact⟨es,h2,h3,.inr ⟨b,clk,rfl,h1⟩⟩
 .split at h
  .rename_i ks' vs' hb;cases h;simp only[VR]at hv;obtain⟨_,rfl⟩:=hv;obtain⟨es,clk,h1,h2,h3⟩:=(hS.boxes _ _ hb).map;exact⟨es,h2,h3,.inr ⟨_,clk,rfl,h1⟩⟩
  .cases h
 .cases h;simp only[VR]at hv;subst hv;exact⟨#[],by simp[Dg],by simp[Dg],.inl ⟨rfl,rfl⟩⟩
 .cases h
theorem uf {t kt et:TypeId} {x k:Operand} {x' k':Opd} {ok str:Bool} {z v:AV} {h':AH} (hS:SR E) (hf:FR E fr a.tmps) (ho:o.op=.lookup t x k ok) (ht:P.underlying t=some (.map kt et)) (hk:RN P kt=some str) (hz:Program.zeroA P et=some z)
  (hx:D7 x=some x') (Tp:D7 k=some k') (G1:Gb str ok z E.h (get fr x') (get fr k')=some (v,h')):Pe P a o E v h':=by
 unfold Gb at G1;split at G1
 case isFalse=>cases G1
 split at G1
 case h_2=>cases G1
 rename_i ks vs hm;obtain⟨es,e1,e2,e3⟩:=Ys hS (D8 hf hx) hm;have hkv:=D8 hf Tp;obtain⟨d,hd,hd'⟩:=Vk hk;obtain⟨i,zv,z1,z2,z3,z4,z5⟩:=Iu hz;have hzv:VR E z zv:=FN _ _ (Fn z4);have pair:∀{y:AV} {u:Value} (b:Bool),VR E y u->VR E (if ok then .tup [y,.bool b]else y) (if ok then .tuple #[u,.bool b]else u):=by
  intro y u b hy;cases ok with
  |false=>exact hy
  |true =>
   simp only[if_true,VR];exact⟨_,rfl,by simp[Be,VR,hy]⟩
 have run:∀(r:Option (Nat×Value)),Instr.findNow d (a.eval k) es.toList 0=some r->∀(u:Value) (b:Bool),(match r with|some (_,v)=>u=v/\b=true|none=>u=zv/\b=false) ->
   (execOp a.eval o).run P E.w=.ok (.value (if ok then .tuple #[u,.bool b]else u)) E.w:=by
  intro r hr u b hu;rcases e3 with ⟨hm,rfl⟩|⟨bl,clk,hm,hb⟩
  .cases r with
   |some p=>simp[Instr.findNow]at hr
   |none =>
    obtain⟨rfl,rfl⟩:=hu;simp[execOp,ho,Instr.lookup,run_underlying ht,hm,IJ hk,MapKept.run_findKey hd hr,zeroValue,typeInfo,z1,z2,Result.andThen]
  .cases r with
   |some p =>
    obtain⟨q,v⟩:=p;obtain⟨rfl,rfl⟩:=hu;simp[execOp,ho,Instr.lookup,run_underlying ht,hm,MapKept.run_getObj_map hb,IJ hk,MapKept.run_findKey hd hr,Result.andThen]
   |none =>
    obtain⟨rfl,rfl⟩:=hu;simp[execOp,ho,Instr.lookup,run_underlying ht,hm,MapKept.run_getObj_map hb,IJ hk,MapKept.run_findKey hd hr,zeroValue,typeInfo,z1,z2,Result.andThen]
 split at G1
 .rename_i j hj;split at G1
  .rename_i y hy;cases G1;rcases Lb hd' hkv e1 hj with ⟨h1,_⟩|⟨q,e,h1,h2,h3,_⟩
   .cases h1
   .have hq:j=q:=by simpa using h1
    subst hq;obtain⟨hl,hg⟩:=JL e2;obtain⟨u,hu,hpu⟩:=hg hy;have hue:u=e.val:=by
     rw[A0c,h2]at hu;simpa using hu.symm
    subst hue;exact Dh.does hS ⟨_,run _ h3 e.val true ⟨rfl,rfl⟩,pair true (FN _ _ hpu)⟩
  .cases G1
 .rename_i hj;cases G1;rcases Lb hd' hkv e1 hj with ⟨_,h2⟩|⟨q,e,h1,_⟩
  .exact Dh.does hS ⟨_,run _ h2 zv false ⟨rfl,rfl⟩,pair false hzv⟩
  .cases h1
 .cases G1
theorem WC {α:Type} {x:α}:∀{l:List α} {j:Nat},l[j]?=some x->l.set j x=l
 | [],_,h=>by simp at h
 |y::l,0,h=>by simp at h;simp[h]
 |y::l,j+1,h=>by simp only[List.set_cons_succ];rw[WC (l:=l) (by simpa using h)]
theorem uN {w:World} {ok:Nat->Nat->Prop} {cs:G3} {us:List Value} (h:Dg w ok cs us) (i:Nat) {c:AV} {u:Value} (hc:PV w ok c u):Dg w ok (cs.set i c) (us.set i u):=by
 obtain⟨hl,hg⟩:=JL h;refine Up (by simp[hl]) λj x y hx hy=>?_;rw[A0i]at hx hy;by_cases e:i=j
 .subst e;rw[if_pos rfl]at hx hy;split at hx<;>split at hy<;>simp at hx hy;subst hx hy;exact hc
 .rw[if_neg e]at hx hy;obtain⟨y',h1,h2⟩:=hg hx;rw[hy]at h1;cases h1;exact h2
theorem dU {w:World} {ok:Nat->Nat->Prop} {cs:G3} {us:List Value} (h:Dg w ok cs us) {c:AV} {u:Value} (hc:PV w ok c u):Dg w ok (cs++[c]) (us++[u]):=by
 obtain⟨hl,hg⟩:=JL h;refine Up (by simp[hl]) λj x y hx hy=>?_;by_cases e:j<cs.length
 .rw[A0R e]at hx;rw[A0R (by omega)]at hy;obtain⟨y',h1,h2⟩:=hg hx;rw[hy]at h1;cases h1;exact h2
 .rw[A0S (by omega)]at hx hy;rw[hl]at hy;have:j-cs.length=0:=by
   have:=(A0Q.1 hx).1;simp at this;omega
  rw[this]at hx hy;simp at hx hy;subst hx hy;exact hc
theorem rC {x:AV} {v:Value} {str:Bool} (hv:VR E x v) (h:Sw str x=true):PV E.w E.ok x v/\∀n,Instr.sameBits n v v=true:=by
 unfold Sw at h;split at h
 .simp only[VR]at hv;subst hv;exact⟨by simp[PV],MapKept.sameBits_self (d:=.string) (by simp[MapKept.IsKey])⟩
 .rename_i k n;simp only[VR]at hv;subst hv;exact⟨by simp[PV],MapKept.sameBits_self (d:=.int k) (by simp[MapKept.IsKey])⟩
 .cases h
theorem wS {t kt et:TypeId} {m k x:Operand} {m' k' x':Opd} {str:Bool} {v:AV} {h':AH} (hS:SR E) (hf:FR E fr a.tmps) (ho:o.op=.mapUpdate t m k x\/o.op=.insert t m k x) (ht:P.underlying t=some (.map kt et)) (hk:RN P kt=some str)
  (hm:D7 m=some m') (Tp:D7 k=some k') (hx:D7 x=some x') (G1:Yt str E.h (get fr m') (get fr k') (get fr x')=some (v,h')):Pe P a o E v h':=by
 unfold Yt at G1;split at G1
 case h_2=>cases G1
 rename_i b hgm;split at G1
 case h_2=>cases G1
 rename_i ks vs u hb hu;split at G1
 case isFalse=>cases G1
 rename_i Bf;have hmv:=D8 hf hm;rw[hgm]at hmv;simp only[VR]at hmv;obtain⟨A7,hme⟩:=hmv;obtain⟨es,clk,b1,b2,b3⟩:=(hS.boxes b _ hb).map;have hkv:=D8 hf Tp;obtain⟨d,hd,hd'⟩:=Vk hk;obtain⟨hkp,hbits⟩:=rC hkv Bf.1;have hup:PV E.w E.ok u (a.eval x):=(Mh hS ⟨λ_ _ h=>h,λh=>by cases h⟩ (D8 hf hx) hu).1;have hex:(execOp a.eval o).run P E.w=((do Instr.mapUpdate t (a.eval m) (a.eval k) (a.eval x);pure Next.skip:Sem Next)).run P E.w:=by
  rcases ho with ho|ho<;>simp only[execOp,ho]
 split at G1
 .rename_i j hj;cases G1;rcases Lb hd' hkv b2 hj with ⟨h1,_⟩|⟨q,e,h1,h2,h3,h4⟩
  .cases h1
  .have hq:j=q:=by simpa using h1
   subst hq;have hj':es[j]?=some e:=by simpa using h2
   have hlist:(es.modify j λe=>{e with key:=a.eval k,val:=a.eval x}).toList=es.toList.set j {e with key:=a.eval k,val:=a.eval x}:=by
    apply A0p;intro i;rw[A0a,Array.getElem?_modify,A0i];by_cases hij:j=i
    .subst hij;have hl:j<es.size:=by have:=(A0Q.1 h2).1;simpa using this
     have hje:es[j]'hl=e:=by rw[Array.getElem?_eq_getElem hl]at hj';exact Option.some.inj hj'
     simp[hl,hje]
    .simp[hij]
   refine⟨.skip,undef,E.setMap b (es.modify j λe=>{e with key:=a.eval k,val:=a.eval x}) clk [.mbox ks (vs.set j u)],?_,.inr ⟨rfl,rfl⟩,Tf hS A7 hb _ _ _,aS hS hb ?_ ?_,rfl,by simp[FO]⟩
   .rw[hex];simp[Instr.mapUpdate,run_underlying ht,hme,MapKept.run_getObj_map b1,IJ hk,MapKept.run_findKey hd h3,hj',h4.symm,Instr.keyThatStays,hbits,MapKept.run_setObj_map _ b1,Result.andThen,Env.setMap]
   .rw[hlist,A0v];have:(es.toList.map (·.key)).set j (a.eval k)=es.toList.map (·.key):=WC (by rw[A0c,h2,h4];rfl);rw[this];exact b2
   .rw[hlist,A0v];exact uN b3 j hup
 .rename_i hj;cases G1;rcases Lb hd' hkv b2 hj with ⟨_,h2⟩|⟨q,e,h1,_⟩
  .refine⟨.skip,undef,E.setMap b (es.push {key:=a.eval k,val:=a.eval x,born:=clk}) (clk+1) [.mbox (ks++[get fr k']) (vs++[u])],?_,.inr ⟨rfl,rfl⟩,Tf hS A7 hb _ _ _,aS hS hb ?_ ?_,rfl,by simp[FO]⟩
   .rw[hex];simp[Instr.mapUpdate,run_underlying ht,hme,MapKept.run_getObj_map b1,IJ hk,MapKept.run_findKey hd h2,MapKept.run_setObj_map _ b1,Result.andThen,Env.setMap]
   .simp only[A0n,A0s,A0d,A0j];exact dU b2 hkp
   .simp only[A0n,A0s,A0d,A0j];exact dU b3 hup
  .cases h1
 .cases G1
def Env.setRo (E:Env) (i:Nat) (ys:List AV):Env:={E with h:={E.h with boxes:=E.h.boxes.set i [.rbox ys]}}
theorem aT (h:SR E) {i:Nat} (hi:i<E.h.boxes.length) (ys:G3):Ext E (E.setRo i ys):=by
 refine⟨λb o ho=>⟨?_,KG.refl _ _ _⟩,by simp[Env.setRo],λ_ _=>rfl,A0V _,λk f f' hf hf'=>?_,rfl,rfl,Bl.refl _ _⟩
 .rcases ho with ho|⟨h1,h2,h3,h4⟩
  .exact .inl ho
  .refine .inr ⟨h1,h2,λj hj e=>?_,h4⟩;by_cases hij:i=j
   .subst hij;exact⟨ys,by simp[Env.setRo,hi]⟩
   .obtain⟨cs',hcs'⟩:=h3 j (by simpa[Env.setRo]using hj) e;exact⟨cs',by simpa[Env.setRo,A0b hij]using hcs'⟩
 .have:f=f':=by have:=hf.symm.trans hf';simpa using this
  subst this;exact⟨rfl,A0V _,λ_=>rfl⟩
theorem Zb:∀{cs:G3} {us:List Value},Be E cs us->cs.all AV.flat=true->Dg E.w E.ok cs us
 | [],us,h,_=>by simpa[Be,Dg]using h
 |c::cs,us,h,hf=>by
  simp only[Be]at h;obtain⟨u,us',rfl,h1,h2⟩:=h;simp only[A0t,A0q]at hf;simp only[Dg];exact⟨u,us',rfl,WU h1 hf.1,Zb h2 hf.2⟩
theorem tP (h:SR E) {i:Nat} {cs:G3} (hi:E.h.boxes[i]?=some cs) (hmb:Es cs=false) (hf:cs.all AV.flat=true) :
  SR (E.setRo i cs)/\VR (E.setRo i cs) (.pv cs) (.pointer (some ⟨E.nb i,0,none⟩)):=by
 have Cw:=(A0Q.1 hi).1;have hx:=aT h Cw cs;have B8:(E.setRo i cs).h.boxes.length=E.h.boxes.length:=by simp[Env.setRo]
 have hb1:=(h.boxes i _ hi).1;have A7:=h.nb_lt Cw;obtain⟨cur,t,hc,hv,h1⟩:=(h.boxes i _ hi).row hmb;have hp:=Zb hv hf;have hp':Dg (E.setRo i cs).w (E.setRo i cs).ok cs cur.toList:=d6 hx.cells _ _ hp;refine⟨⟨h.basele,λj cs' hj=>?_,λk f hk=>?_,λa b ha hb=>h.inj a b (by simpa[B8]using ha) (by simpa[B8]using hb),h.injf,λa k ha=>h.sep a k (by simpa[B8]using ha)⟩,?_⟩
 .by_cases hn:i=j
  .subst hn;have:cs'=[.rbox cs]:=by simpa[Env.setRo,Cw]using hj.symm
   subst this;exact⟨hb1,.inr (.inr ⟨cs,cur,t,rfl,hc,hp',h1⟩)⟩
  .have hj':j<E.h.boxes.length:=by have:=(A0Q.1 hj).1;omega
   have Lq:E.h.boxes[j]?=some cs':=by simpa[Env.setRo,A0b hn]using hj
   exact(h.boxes j cs' Lq).ext hx hj' rfl
 .have Dt:k<E.h.fams.length:=(A0Q.1 hk).1;exact(h.fams k f hk).ext hx rfl rfl
 .simp only[VR,PV];refine⟨E.nb i,0,rfl,PC λj c hj=>?_⟩;obtain⟨hl,hg⟩:=JL hp';obtain⟨u,hu,hpu⟩:=hg hj;refine⟨u,.inr ⟨hb1,A7.2,λj' hj' e=>?_,λk f hk he=>?_⟩,?_,h1 u (List.mem_of_getElem? hu),hpu⟩
  .have:j'=i:=h.inj j' i (by simpa[B8]using hj') Cw e;subst this;exact⟨cs,by simp[Env.setRo,Cw]⟩
  .exact absurd he.symm (h.sep i k Cw (A0Q.1 hk).1)
  .rw[Nat.zero_add];show E.w.cell? ⟨E.nb i,j,none⟩=some u;rw[cell_of_row _ _ _ _ _ _ hc];simpa using hu
theorem QI:∀{xs:G3} {E:Env} {us:List Value} {ys:G3} {h':AH},SR E->Be E xs us->Bs E.h xs=some (ys,h')->∃E',E'.w=E.w/\Ext E E'/\SR E'/\E'.h=h'/\Be E' ys us
 | [],E,us,ys,h',hS,hv,h=>by
  simp only[Bs]at h;cases h;exact⟨E,rfl,Ext.refl E,hS,rfl,hv⟩
 |x::xs,E,us,ys,h',hS,hv,h=>by
  simp only[Be]at hv;obtain⟨u,us',rfl,h1,h2⟩:=hv;by_cases hp:∃b off,x=.ptr b off
  .obtain⟨b,off,rfl⟩:=hp;simp only[Bs]at h;split at h
   case isFalse=>cases h
   rename_i h0;subst h0;split at h
   case h_2=>cases h
   rename_i cs Lq;split at h
   case isFalse=>cases h
   rename_i hc;simp only[A0Z]at h;obtain⟨⟨ys',h''⟩,hr,he⟩:=h;cases he;simp only[VR]at h1;obtain⟨hb,rfl⟩:=h1;obtain⟨hS1,hv1⟩:=tP hS Lq hc.1 hc.2;have hx1:=aT hS hb cs;obtain⟨E',w',hx',hS',hh,Qp⟩:=QI (E:=E.setRo b cs) hS1 (OB hx1 _ _ h2) hr;refine⟨E',w',hx1.trans hx',hS',hh,?_⟩;simp only[Be];exact⟨_,_,rfl,ay hx' _ _ hv1,Qp⟩
  .have hr:Bs E.h (x::xs)=(Bs E.h xs).map λp=>(x::p.1,p.2):=by
    cases x<;>first|rfl|exact absurd ⟨_,_,rfl⟩ hp
   rw[hr]at h;simp only[A0Z]at h;obtain⟨⟨ys',h''⟩,hr,he⟩:=h;cases he;obtain⟨E',w',hx',hS',hh,Qp⟩:=QI hS h2 hr;refine⟨E',w',hx',hS',hh,?_⟩;simp only[Be];exact⟨_,_,rfl,ay hx' _ _ h1,Qp⟩
theorem qf {f:FuncId} {first caps:Array Operand} {cs:List Opd} {v:AV} {h':AH} (hS:SR E) (hf:FR E fr a.tmps) (ho:o.op=.makeFunc (.func f) first caps) (h0:first.size=0) (hc:KZ D7 caps.toList=some cs)
  (h:(Bs E.h (cs.map (get fr))).map (λp=>((.fn f p.1:AV),p.2))=some (v,h')):Pe P a o E v h':=by
 simp only[A0Z]at h;obtain⟨⟨ys,h''⟩,hr,he⟩:=h;cases he;have hv:=QB hf hc;obtain⟨E',w',hx',hS',hh,Qp⟩:=QI hS hv hr;have:first=#[]:=Array.size_eq_zero_iff.1 h0
 subst this;refine⟨_,.func (.func f) #[] (caps.map a.eval),E',?_,.inl rfl,hx',hS',hh,?_⟩
 .rw[w'];simp[execOp,ho,Instr.makeFunc]
 .simp only[VR];exact⟨_,rfl,Qp⟩
theorem Ty:∀{ys:G3} {ns:List Int},LW ys=some ns->ns.length=ys.length/\∀(i:Nat) (n:Int),ns[i]?=some n->ys[i]?=some (.int .u8 n)
 | [],ns,h=>by simp[LW]at h;subst h;simp
 |y::ys,ns,h=>by
  unfold LW at h;split at h
  .rename_i e;cases e
  .rename_i n xs e;cases e;simp only[A0Z]at h;obtain⟨ns',h1,rfl⟩:=h;obtain⟨h2,h3⟩:=Ty h1;refine⟨by simp[h2],λi m hi=>?_⟩;cases i with
   |zero=>simp at hi;subst hi;rfl
   |succ i=>simpa using h3 i m (by simpa using hi)
  .cases h
theorem yN {s d e:TypeId} {x:Operand} {x':Opd} {v:AV} {h':AH} (hS:SR E) (hf:FR E fr a.tmps) (ho:o.op=.convert s d x) (hs:P.underlying s=some (.slice e)) (hd:P.underlying d=some .string) (he:P.underlying e=some (.int .u8))
  (hx:D7 x=some x') (G1:Su E.h (get fr x')=some (v,h')):Pe P a o E v h':=by
 unfold Su at G1;split at G1
 case h_2=>cases G1
 rename_i ys WZ;split at G1
 case h_2=>cases G1
 rename_i ns hns;cases G1;obtain⟨ad,c,e1,e2,e3⟩:=LZ hS (by omega) (D8 hf hx) WZ;obtain⟨g1,g2⟩:=Ty hns;refine Dh.does hS ⟨.string (lk ns),?_,by simp[VR]⟩;have ex:(execOp a.eval o).run P E.w=(do let v ←convert s d (a.eval x);pure (Next.value v):Sem Next).run P E.w:=by simp[execOp,ho]
 rw[ex];have key:(convert s d (a.eval x)).run P E.w=.ok (.string (lk ns)) E.w:=by
  rw[e1];cases ad with
  |none =>
   have:ys=[]:=A0T (e2 rfl);subst this;have:ns=[]:=A0T g1;subst this;exact run_convert_bytes_nil E.w s e hs he _ _ d hd
  |some ad =>
   by_cases hy:ys=[]
   .subst hy;have:ns=[]:=A0T g1;subst this;rw[run_convert_bytes_string E.w s d e _ _ _ hs he hd];simp[Conv.bytesToString,loadCells,Result.andThen];rfl
   .obtain⟨b,q,h1,h2⟩:=e3 hy;cases h1;refine run_convert_bytes_arg E.w s e hs he b q ys.length c ns g1 (λi hi=>?_) d hd;have XK:ns[i]?=some (ns.getD i 0):=by rw[List.getD,A0W (by omega)];rfl
    have hyi:=g2 i _ XK;obtain⟨_,h4⟩:=h2 i _ hyi;obtain⟨u,h5,_,h6⟩:=h4 0 _ rfl;simp only[PV]at h6;subst h6;simpa using h5
 simp[key,Result.andThen]
end
theorem ZZ (h:AH) (am:Bool) {x:AV} (hx:x.flat=true):Ej h am x=some x:=by
 cases x<;>simp[AV.flat]at hx<;>simp only[Ej];rename_i f cs;subst hx;rfl
theorem Za (h:AH) (am:Bool):∀{xs:G3},xs.all AV.flat=true->TV h am xs=some xs
 | [],_=>rfl
 |x::xs,hx=>by
  simp only[A0t,A0q]at hx;simp[TV,ZZ h am hx.1,Za h am hx.2]
theorem RI (h:AH) (am:Bool) {x:AV} (hx:OD x=true):KH h am x=some x:=by
 unfold OD at hx;split at hx
 .rename_i cs;simp[KH,Za h am hx]
 .cases hx
 .rename_i h1 h2;have e:KH h am x=Ej h am x:=by
   unfold KH;split
   .exact absurd rfl (h1 _)
   .rfl
  rw[e,ZZ h am hx]
section
variable {E:Env} {P:Program} {fr:Fr} {a:Act} {o:Oper}
theorem TT {args:Array Operand} {ats:Array TypeId} {x:Operand} {t:TypeId} (ho:o.op=.call {callee:=.builtin .clear,args:=args,argTypes:=ats}) (h1:args.toList=[x]) (h2:ats.toList=[t]) {v:Value} {w w':World}
  (h:(Builtin.clear_ #[t] o.type #[a.eval x]).run P w=.ok v w'):(execOp a.eval o).run P w=.ok (.value v) w':=by
 have e1:args=#[x]:=by cases args;simp at h1;simp[h1]
 have e2:ats=#[t]:=by cases ats;simp at h2;simp[h2]
 rw[e1,e2]at ho;simp only[execOp,ho,resolve,invoke,builtin,Sem.run_bind,Sem.run_pure,Result.andThen_ok,A0r,A0d,A0j,h]
theorem A0O {args:Array Operand} {ats:Array TypeId} {x:Operand} {x':Opd} {t e:TypeId} {z v:AV} {h':AH} (hS:SR E) (hf:FR E fr a.tmps) (ho:o.op=.call {callee:=.builtin .clear,args:=args,argTypes:=ats})
  (h1:args.toList=[x]) (h2:ats.toList=[t]) (ht:P.underlying t=some (.slice e)) (hz:Program.zeroA P e=some z) (hx:D7 x=some x') (G1:Uz E.h z (get fr x')=some (v,h')):Pe P a o E v h':=by
 have hv:=D8 hf hx;unfold Uz at G1;split at G1
 .rename_i b q xs hg;split at G1
  .rename_i h0;cases G1;rw[hg]at hv;simp only[VR,PV]at hv;obtain⟨ad,len,cap,e1,e2,_⟩:=hv;have:len=0:=by omega
   subst this;refine⟨_,.tuple #[],E,TT ho h1 h2 ?_,.inl rfl,Ext.refl E,hS,rfl,FO E⟩;rw[e1];cases ad<;>simp[Builtin.clear_,run_underlying ht]
  .cases G1
 .rename_i k n off len hg;split at G1
  .rename_i f hfk;split at G1
   .rename_i hc;obtain⟨c1,c2,c3,c4⟩:=hc;cases G1;rw[hg]at hv;simp only[VR]at hv;obtain⟨base,cap,f',e1,hf',_,e5⟩:=hv;have:f'=f:=by rw[hfk]at hf';simpa using hf'.symm
    subst this;obtain⟨l1,l2,l3,l4,l5⟩:=e5 c1;cases len with
    |zero =>
     have Z8:E.h.fams.set k {f' with xs:=f'.xs.take off++A0U 0 z++f'.xs.drop (off+0)}=E.h.fams:=DH (by simpa using hfk)
     refine⟨_,.tuple #[],E,TT ho h1 h2 ?_,.inl rfl,Ext.refl E,hS,by rw[Z8],FO E⟩;rw[e1];cases base<;>simp[Builtin.clear_,run_underlying ht]
    |succ m =>
     have hF:=hS.fams k f' hfk;have BF:=hF.room;have hbase:=l5 (by omega);obtain⟨cur,t',k1,k2,k3⟩:=hF.cells;obtain⟨i,zv,q1,q2,q3,q4,q5⟩:=Iu hz;have J4:=hF.sz;obtain⟨zv',q2',xd,_,hrow,hone⟩:=SU (E:=E) hz (n:=m+1) q1 (by
      have hpv:=Fn (w:=E.w) (ok:=E.ok) q4;obtain⟨g1,_⟩:=Qs hpv q5;have:=(JL g1).1;simp at this;omega)
     rw[q2]at q2';cases q2';have hfi:f'.sz=i.size:=by omega
     have Cy:(Builtin.zeroCells zv.cells (m+1))=madeCells zv.cells ((m+1)*i.size):=by rw[←q3];rfl
     have hnl:(madeCells zv.cells ((m+1)*i.size)).toList.length=(m+1)*f'.sz:=by rw[hfi];simp[size_madeCells]
     have Dn:(E.im k).o+(off-(E.im k).lo)*f'.sz+(m+1)*f'.sz<=cur.size:=by
      have h3:(off-(E.im k).lo+(m+1))*f'.sz<=(E.im k).cap*f'.sz:=A0X _ (by omega);rw[A0Y]at h3;omega
     have Hg:=run_storeCells_at P (E.im k).b ((E.im k).o+(off-(E.im k).lo)*f'.sz) t' (madeCells zv.cells ((m+1)*i.size)).toList 0 cur E.w k1 (by rw[hnl];omega) hone;simp only[A0w]at Hg;obtain⟨us,WI⟩:∃us:Array Value,us=(cur.toList.take ((E.im k).o+(off-(E.im k).lo)*f'.sz)++(madeCells zv.cells ((m+1)*i.size)).toList++cur.toList.drop ((E.im k).o+(off-(E.im k).lo)*f'.sz+(madeCells zv.cells ((m+1)*i.size)).toList.length)).toArray:=⟨_,rfl⟩;rw[←WI]at Hg;have hget:∀j:Nat,us[j]?=if j<(E.im k).o+(off-(E.im k).lo)*f'.sz then cur[j]? else if j<(E.im k).o+(off-(E.im k).lo)*f'.sz+(m+1)*f'.sz then (madeCells zv.cells ((m+1)*i.size)).toList[j-((E.im k).o+(off-(E.im k).lo)*f'.sz)]? else cur[j]?:=by
      intro j;have:=Kl (l:=cur.toList) (off:=(E.im k).o+(off-(E.im k).lo)*f'.sz) (vs:=(madeCells zv.cells ((m+1)*i.size)).toList) (by rw[hnl];simpa using Dn) j;rw[hnl]at this;simp only[A0a]at this;rw[WI,A0k,hnl,this,A0a]
     have B8:f'.xs.length=({f' with xs:=f'.xs.take off++A0U (m+1) z++f'.xs.drop (off+(m+1))}:Fam).xs.length:=by
      show f'.xs.length=(f'.xs.take off++A0U (m+1) z++f'.xs.drop (off+(m+1))).length;simp only[A0h,List.length_take,List.length_replicate,List.length_drop];omega
     have hkeep:f'.wr=false->∀j,j<(E.im k).o+(f'.xs.length-(E.im k).lo)*f'.sz->us[j]?=cur[j]?:=λh=>by rw[c3]at h;cases h
     refine⟨_,.tuple #[],E.setFam k us {f' with xs:=f'.xs.take off++A0U (m+1) z++f'.xs.drop (off+(m+1))},TT ho h1 h2 ?_,.inl rfl,Ki hS hfk k1 rfl rfl (A0x B8) hkeep,
      PY hS hfk k1 rfl rfl (A0x B8) hkeep (by rw[←B8];exact BF) (by rw[WI];simp[hnl];omega) ?_,rfl,FO _⟩
     .rw[e1,hbase];have hzr:(zeroValue e).run P E.w=.ok zv E.w:=by simp[zeroValue,typeInfo,q1,q2]
      simp[Builtin.clear_,run_underlying ht,hzr,Cy,Hg,Env.setFam]
     .intro j x'' hj hx'';have qD:(f'.xs.take off++A0U (m+1) z++f'.xs.drop (off+(m+1)))[j]?=some x'':=hx'';have ho':off<=f'.xs.length:=by omega
      by_cases hj1:j<off
      .rw[A0o,A0R (by simp;omega),A0g,if_pos hj1]at qD;obtain⟨g1,g2⟩:=k3 j x'' hj qD;refine⟨g1,λc y hy=>?_⟩;obtain⟨w,w1,w2⟩:=g2 c y hy;have Lq:c<f'.sz:=by have:=(A0Q.1 hy).1;omega
       have:=Cz (show j-(E.im k).lo<off-(E.im k).lo by omega) Lq;exact⟨w,by rw[hget,if_pos (by omega)];exact w1,w2⟩
      .by_cases hj2:j<off+(m+1)
       .rw[A0o,A0S (by simp;omega),A0R (by simp;omega)]at qD;rw[show (f'.xs.take off).length=off from by simp;omega]at qD;obtain⟨g1,g2⟩:=hrow (j-off) x'' qD;refine⟨by omega,λc y hy=>?_⟩;obtain⟨w,w1,w2⟩:=g2 c y hy;have Lq:c<f'.sz:=by have:=(A0Q.1 hy).1;omega
        have M2:(E.im k).o+(j-(E.im k).lo)*f'.sz+c=(E.im k).o+(off-(E.im k).lo)*f'.sz+((j-off)*i.size+c):=by
         rw[show j-(E.im k).lo=(off-(E.im k).lo)+(j-off) from by omega,A0Y,hfi];omega
        have:=Cz (show j-off<m+1 by omega) Lq;refine⟨w,?_,w2⟩;rw[M2,hget,if_neg (by omega),if_pos (by rw[←hfi];omega),show (E.im k).o+(off-(E.im k).lo)*f'.sz+((j-off)*i.size+c)-((E.im k).o+(off-(E.im k).lo)*f'.sz)=(j-off)*i.size+c from by omega];exact w1
       .rw[A0S (by simp;omega),A0f]at qD;have hjj:off+(m+1)+(j-(f'.xs.take off++A0U (m+1) z).length)=j:=by simp;omega
        rw[hjj]at qD;obtain⟨g1,g2⟩:=k3 j x'' hj qD;refine⟨g1,λc y hy=>?_⟩;obtain⟨w,w1,w2⟩:=g2 c y hy;refine⟨w,?_,w2⟩;have hge:(off-(E.im k).lo)*f'.sz+(m+1)*f'.sz<=(j-(E.im k).lo)*f'.sz:=by
         rw[←A0Y];exact A0X _ (by omega)
        rw[hget,if_neg (by omega),if_neg (by omega)];exact w1
   .cases G1
  .cases G1
 .cases G1
theorem A0P {t e:TypeId} {l c:Operand} {l' c':Opd} {z v:AV} {i:TypeInfo} {h':AH} (hS:SR E) (hf:FR E fr a.tmps) (ho:o.op=.makeSlice t l c) (hu:P.underlying t=some (.slice e)) (hi:P.info? e=some i) (hz:Program.zeroA P e=some z)
  (M2:0<i.size) (hl:D7 l=some l') (hc:D7 c=some c') (G1:jO E.h z i.bytes (get fr l') (get fr c')=some (v,h')):Pe P a o E v h':=by
 unfold jO at G1;split at G1
 .rename_i k1 x k2 y hx hy;split at G1
  .rename_i hcc;obtain⟨h0,rfl,hb,hm⟩:=hcc;cases G1;have e1:=D8 hf hl;have e2:=D8 hf hc;rw[hx]at e1;rw[hy]at e2;simp only[VR]at e1 e2;obtain⟨zv,h2,xd,h3,hr,h1⟩:=SU (E:=E) hz (n:=x.toNat) hi M2;have hrun:=run_make (P:=P) E.w t e i zv hu hi h2 k1 k2 x x h0 (Int.le_refl _) (by rw[A0u];unfold H2 at hb;omega) (by unfold maxLen at hm;omega);have hpv:=eG (e:=e) hS (by rw[←xd]at M2;exact M2) (by rw[xd];exact hr) (by simp;omega);have hb:Bl E.w.heap.size E.w (E.w.alloc (.cells (madeCells zv.cells (x.toNat*i.size)) e)):=⟨(Below.refl _ _).alloc (A0V _) _,A0V _⟩;refine⟨_,.slice (some ⟨E.w.heap.size,0,none⟩) x.toNat x.toNat,{E with w:=E.w.alloc (.cells (madeCells zv.cells (x.toNat*i.size)) e)},?_,.inl rfl,Bk hS hb,HG hS hb,rfl,?_⟩
   .simp only[execOp,ho,e1,e2,Sem.run_bind,hrun,Result.andThen_ok,Sem.run_pure]
   .refine FN _ _ ?_;simpa using hpv
  .cases G1
 .cases G1
end
end Go.Abs
