/- A part of the proof. -/
import Derived.Test.YtnnjamknplefbaaGreatDoorTS6
import Derived.Lib.AppendStr
set_option linter.all false
open List renaming getElem?_eq_some_iff->zf0z,eq_nil_of_length_eq_zero->zf1z,getElem?_append_left->zf2z,getElem?_append_right->zf4z,getElem?_eq_getElem->zf6z,replicate->zf7z,getElem?_map->zf8z,length_append->zf9z,getElem?_toArray->zg3z,getElem?_range->zg4z,getElem?_drop->zg5z,getElem?_take->zg6z,append_nil->zg7z
open Nat renaming add_mul->zf3z,mul_le_mul_right->zf5z,eq_zero_or_pos->zg0z,add_zero->zg1z,mul_comm->zg8z,mul_one->zg9z,zero_le->zt0z
open Array renaming getElem?_toList->zg2z
set_option linter.all false
namespace Go.Abs
open Go.RowKit (Below)
section
variable {E:Env} {P:Program} {fr:Fr} {a:Act} {o:Oper}
theorem Mk{us:Array Value}{xs:I7}{sz:Nat}(h:Ee E us.toList xs sz)(i:Nat)(x:AV)(hx:xs[i]?=some x):MS E us (i*sz) sz x:=by
 obtain⟨h1,h2⟩:=h i x hx;exact⟨h1,λc y hc=>by obtain⟨v,v1,v2,v3⟩:=h2 c y hc;exact⟨v,by simpa using v1,v2,v3⟩⟩
theorem ke{t e:TypeId}{l c:Operand}{l' c':Opd}{z:AV}{i:TypeInfo}{k1 k2:IntKind}{x y:Int}(hS:SR E)(hf:FR E fr a.tmps)(ho:o.op=.makeSlice t l c)(hu:P.underlying t=some (.slice e))(hi:P.info? e=some i)(hz:Program.zeroA P e=some z)
  (Z6:0<i.size) (hl:C5 l=some l') (hc:C5 c=some c') (hx:get fr l'=.int k1 x) (hy:get fr c'=.int k2 y) (h0:0<=x) (hxy:x<=y) (hb:y*i.bytes<=P7) (hm:y<=maxLen) :
  Ed P a o E (.sl E.h.fams.length x.toNat 0 x.toNat) {E.h with fams:=E.h.fams++[⟨zf7z x.toNat z,z.cells.length,true⟩]}:=by
 have e1:=C4 hf hl;have e2:=C4 hf hc;rw[hx]at e1;rw[hy]at e2;simp only[VR]at e1 e2;obtain⟨zv,h2,Tt,h3,hr,h1⟩:=Jx (E:=E) hz (n:=y.toNat) hi Z6;have hrun:=run_make (P:=P) E.w t e i zv hu hi h2 k1 k2 x y h0 hxy (by rw[Int.mul_comm];unfold P7 at hb;omega) (by unfold maxLen at hm;omega);have J3:(zf7z x.toNat z).length=x.toNat:=by simp
 have LN:∀(j:Nat) (w:AV),(zf7z x.toNat z)[j]?=some w->MS E (madeCells zv.cells (y.toNat*i.size)) (j*z.cells.length) z.cells.length w:=by
  intro j w hw;rw[Tt];refine Mk hr j w ?_;rw[List.getElem?_replicate]at hw ⊢;split at hw
  .rename_i hj;cases hw;rw[if_pos (by omega)]
  .cases hw
 refine⟨_,.slice (some ⟨E.w.heap.size,0,none⟩) x.toNat y.toNat,E.newFam (madeCells zv.cells (y.toNat*i.size)) e y.toNat ⟨zf7z x.toNat z,z.cells.length,true⟩,?_,.inl rfl,FF hS _ _ _ _,
  II hS (by simpa[Tt]using Z6) (by simp;omega) (by omega) (by simp[size_madeCells,Tt]) LN,rfl,?_⟩
 .simp only[execOp,ho,e1,e2,Sem.run_bind,hrun,Result.andThen_ok,Sem.run_pure,Env.newFam]
 .simp only[VR,Env.newFam,V4];refine⟨_,_,⟨zf7z x.toNat z,z.cells.length,true⟩,rfl,by simp,⟨by simp,λ_=>⟨_,_,rfl⟩⟩,λ_=>⟨zt0z _,by simp,by simp,(λh=>nomatch h),λ_=>by simp⟩⟩
theorem gh{n sz j:Nat}(Y3:0<sz)(hj:j<n*sz):j / sz<n/\j % sz<sz/\j / sz*sz+j % sz=j :=
 ⟨Nat.div_lt_of_lt_mul (by rwa [zg8z]),Nat.mod_lt _ Y3,by rw[zg8z];exact Nat.div_add_mod j sz⟩
def nS(E:Env)(b q sz:Nat)(ys:List AV):Prop :=
 ∀(i:Nat) (x:AV),ys[i]?=some x->x.cells.length=sz/\∀(c:Nat) (y:AV),x.cells[c]?=some y->∃v,E.w.cell? ⟨b,q+i*sz+c,none⟩=some v/\v.oneCell'=true/\PV E.w E.ok y v
theorem Kx{b q sz:Nat}{ys:I7}(Y3:0<sz)(h:nS E b q sz ys) :
  ∃news:List Value,news.length=ys.length*sz/\(∀(j:Nat) (u:Value),news[j]?=some u->E.w.cell? ((⟨b,q,none⟩:Addr).add j)=some u)/\(∀u∈news,u.oneCell'=true)/\Ee E news ys sz:=by
 have hex:∀j,j<ys.length*sz->∃u,E.w.cell? ⟨b,q+j,none⟩=some u/\u.oneCell'=true/\∃y x,ys[j / sz]?=some x/\x.cells[j % sz]?=some y/\PV E.w E.ok y u:=by
  intro j hj;obtain⟨h1,h2,h3⟩:=gh Y3 hj;obtain⟨g1,g2⟩:=h (j / sz) _ (zf6z h1);obtain⟨v,v1,v2,v3⟩:=g2 (j % sz) _ (zf6z (by omega));rw[show q+j / sz*sz+j % sz=q+j from by omega]at v1;exact⟨v,v1,v2,_,_,zf6z h1,zf6z _,v3⟩
 have hpick:∃g:Nat->Value,∀j,j<ys.length*sz->E.w.cell? ⟨b,q+j,none⟩=some (g j)/\(g j).oneCell'=true/\∃y x,ys[j / sz]?=some x/\x.cells[j % sz]?=some y/\PV E.w E.ok y (g j):=by
  refine⟨λj=>if hj:j<ys.length*sz then Classical.choose (hex j hj)else default,λj hj=>?_⟩
  simp only[hj,dif_pos];exact Classical.choose_spec (hex j hj)
 obtain⟨g,hg⟩:=hpick;refine⟨(List.range (ys.length*sz)).map g,by simp,λj u hu=>?_,λu hu=>?_,λi x hx=>?_⟩
 .rw[zf8z]at hu;by_cases hj:j<ys.length*sz
  .rw[zg4z hj]at hu;simp at hu;subst hu;rw[Bj];exact(hg j hj).1
  .rw[List.getElem?_eq_none (by simpa using hj)]at hu;simp at hu
 .simp at hu;obtain⟨j,hj,rfl⟩:=hu;exact(hg j hj).2.1
 .obtain⟨g1,g2⟩:=h i x hx;refine⟨g1,λc y hc=>?_⟩;obtain⟨v,v1,v2,v3⟩:=g2 c y hc;have hi:i<ys.length:=(zf0z.1 hx).1;have o9:c<sz:=by have:=(zf0z.1 hc).1;omega
  have G9:=BM hi o9;refine⟨v,?_,v2,v3⟩;rw[zf8z,zg4z G9];have:=(hg _ G9).1;rw[show q+(i*sz+c)=q+i*sz+c from by omega]at this;rw[this]at v1;simpa using v1
theorem LJ(hS:SR E){sz:Nat}(Y3:0<sz){x:AV}{v:Value}{ys:I7}(hv:VR E x v)(h:elems E.h sz x=some ys) :
  ∃ad c,v=.slice ad ys.length c/\(ad=none->ys.length=0)/\(ys≠[]->∃b q,ad=some ⟨b,q,none⟩/\nS E b q sz ys):=by
 unfold elems at h;split at h
 .rename_i full z xs;split at h
  .rename_i hz;cases h;simp only[VR,PV]at hv;obtain⟨ad,len,cap,rfl,rfl,h2,h3,h4,h5,h6⟩:=hv;refine⟨ad,cap,rfl,λhn=>by have:=h5.1 hn;omega,λs9=>?_⟩;obtain⟨b,q,rfl,_,hels⟩:=h6 s9;have:z=sz:=by
    rcases hz with hz|hz
    .exact hz
    .exact absurd (zf1z hz) s9
   subst this;refine⟨b,q,rfl,λi x hx=>?_⟩;obtain⟨p1,p2⟩:=IM hels hx;refine⟨p1,λc y hc=>?_⟩;obtain⟨u,_,u2,u3,u4⟩:=Af p2 hc;exact⟨u,u2,u3,u4⟩
  .cases h
 .rename_i k n off len;split at h
  .rename_i f hfk;split at h
   .rename_i hc;cases h;obtain⟨hn,hz,ho⟩:=hc;simp only[VR]at hv;obtain⟨ad,cap,f',rfl,hf',_,hcc⟩:=hv;have:f'=f:=by rw[hfk]at hf';simpa using hf'.symm
    subst this;obtain⟨l1,l2,l3,l4,l5⟩:=hcc hn;have hF:=hS.fams k f' hfk;have n8:=hF.room;have J3:((f'.xs.drop off).take len).length=len:=by simp;omega
    refine⟨ad,cap,by rw[J3],λh=>absurd h l4,λs9=>?_⟩;have Z6:0<len:=by
     rcases zg0z len with h0|h0
     .subst h0;simp at s9
     .exact h0
    refine⟨_,_,l5 (by omega),λi x hx=>?_⟩;have hi:i<len:=by have:=(zf0z.1 hx).1;omega
    have hx':f'.xs[off+i]?=some x:=by
     rw[zg6z,if_pos hi,zg5z]at hx;exact hx
    obtain⟨cur,t,c1,c2,c3⟩:=hF.cells;obtain⟨e1,e2⟩:=c3 (off+i) x (by omega) hx';refine⟨by omega,λc y hc=>?_⟩;obtain⟨u,u1,u2,u3⟩:=e2 c y hc;refine⟨u,?_,u2,u3⟩;rw[cell_of_row _ _ _ _ _ _ c1];rw[show (E.im k).o+(off-(E.im k).lo)*f'.sz+i*sz+c=(E.im k).o+(off+i-(E.im k).lo)*f'.sz+c from by
     rw[show off+i-(E.im k).lo=(off-(E.im k).lo)+i from by omega,zf3z,hz];omega]
    exact u1
   .cases h
  .cases h
 .cases h
theorem Qp(t ty e:TypeId)(i:TypeInfo)(ht:P.underlying t=some (.slice e))(hi:P.info? e=some i)(base ad:Option Addr)(n c m:Nat)(hnc:n<=c)(w:World) :
  (Builtin.append_ #[t,t] ty #[.slice base n c,.slice ad 0 m]).run P w=.ok (.slice base n c) w:=by
 have hf:(Builtin.firstCells i.size 0 (.slice ad 0 m)).run P w=.ok #[] w:=by
  cases ad<;>simp[Builtin.firstCells,loadCells,loadCellsFrom]
 cases base<;>simp[Builtin.append_,run_underlying ht,sizeOf,typeInfo,hi,Builtin.lenOf,hnc,hf,storeCells]
theorem Ui(t ty e:TypeId)(i:TypeInfo)(ht:P.underlying t=some (.slice e))(hi:P.info? e=some i)
  (g q sLen sCap:Nat) (cur:Array Value) (t':TypeId) (w:World) (hg:w.heap[g]?=some (.cells cur t' (0,0)))
  (a:Addr) (m c:Nat) (news:List Value) (hl:news.length=m*i.size) (hnews:∀j u,news[j]?=some u->w.cell? (a.add j)=some u) (h1:∀u∈news,u.oneCell'=true)
  (n8:sLen+m<=sCap) (V6:q+sLen*i.size+news.length<=cur.size) :
  (Builtin.append_ #[t,t] ty #[.slice (some ⟨g,q,none⟩) sLen sCap,.slice (some a) m c]).run P w =
   .ok (.slice (some ⟨g,q,none⟩) (sLen+m) sCap) (w.setRow g (cur.toList.take (q+sLen*i.size)++news++cur.toList.drop (q+sLen*i.size+news.length)).toArray):=by
 have hf:=run_firstCells_some (P:=P) w i.size m a m c news hl hnews;have V8:=run_storeCells_at P g (q+sLen*i.size) t' news 0 cur w hg (by simpa using V6) h1;simp only[zg1z]at V8;simp[Builtin.append_,run_underlying ht,sizeOf,typeInfo,hi,Builtin.lenOf,n8,hf,Bj,V8]
theorem KT{B:Nat}(w:World):Bl B w w.drew:=⟨(Below.refl B w).drew,λ_=>Nat.le_succ _⟩
theorem Gp{us vs:List Value}{xs ys:I7}{sz:Nat}(h1:Ee E us xs sz)(hl:us.length=xs.length*sz)(h2:Ee E vs ys sz):Ee E (us++vs) (xs++ys) sz:=by
 intro i x hx;by_cases hi:i<xs.length
 .rw[zf2z hi]at hx;obtain⟨g1,g2⟩:=h1 i x hx;refine⟨g1,λc y hc=>?_⟩;obtain⟨v,v1,v2⟩:=g2 c y hc;exact⟨v,by rw[zf2z (zf0z.1 v1).1];exact v1,v2⟩
 .rw[zf4z (by omega)]at hx;obtain⟨g1,g2⟩:=h2 _ x hx;refine⟨g1,λc y hc=>?_⟩;obtain⟨v,v1,v2⟩:=g2 c y hc;refine⟨v,?_,v2⟩;have:xs.length*sz<=i*sz:=zf5z _ (by omega);rw[zf4z (by omega),hl,show i*sz+c-xs.length*sz=(i-xs.length)*sz+c from by rw[Nat.sub_mul];omega];exact v1
theorem kF{us vs:List Value}{xs:I7}{sz:Nat}(h1:Ee E us xs sz):Ee E (us++vs) xs sz:=by
 intro i x hx;obtain⟨g1,g2⟩:=h1 i x hx;refine⟨g1,λc y hc=>?_⟩;obtain⟨v,v1,v2⟩:=g2 c y hc;exact⟨v,by rw[zf2z (zf0z.1 v1).1];exact v1,v2⟩
theorem Kz{E':Env}(h:Ext E E'){us:List Value}{xs:I7}{sz:Nat}(h1:Ee E us xs sz):Ee E' us xs sz:=by
 intro i x hx;obtain⟨g1,g2⟩:=h1 i x hx;refine⟨g1,λc y hc=>?_⟩;obtain⟨v,v1,v2,v3⟩:=g2 c y hc;exact⟨v,v1,v2,x7 h.cells _ _ v3⟩
end
section
variable {E:Env} {P:Program} {fr:Fr} {a:Act} {o:Oper}
theorem Du{args:Array Operand}{ats:Array TypeId}{s x:Operand}{t u:TypeId}(ho:o.op=.call {callee:=.builtin .append,args:=args,argTypes:=ats})(h1:args.toList=[s,x])(h2:ats.toList=[t,u]){v:Value}{w w':World}
  (h:(Builtin.append_ #[t,u] o.type #[a.eval s,a.eval x]).run P w=.ok v w'):(execOp a.eval o).run P w=.ok (.value v) w':=by
 rw[Qz h1,Qz h2]at ho;simp only[execOp,ho,resolve,invoke,builtin,Sem.run_bind,Sem.run_pure,Result.andThen_ok,List.map_toArray,List.map_cons,List.map_nil,h]
theorem PY{us:List Value}{xs:I7}{sz n cap:Nat}(hr:Ee E us xs sz)(hl:us.length=n*sz)(z:Array Value)(hz:z.size=sz)(hcap:n<=cap) :
  Ee E (us.toArray++Builtin.zeroCells z (cap-n)).toList xs sz/\cap*sz<=(us.toArray++Builtin.zeroCells z (cap-n)).size:=by
 refine⟨?_,?_⟩
 .rw[Array.toList_append];exact kF hr
 .rw[Array.size_append,size_zeroCells,hz,List.size_toArray,hl,←zf3z];exact zf5z _ (by omega)
theorem TG{t ty e:TypeId}{i:TypeInfo}{z:Value}(ht:P.underlying t=some (.slice e))(hi:P.info? e=some i)(hz:i.zero=some z)(hzs:z.cells.size=i.size)
  {base:Option Addr} {n cap:Nat} {olds:List Value} {xs:List AV} (hb:base=none->cap=0) (hnc:n<=cap) (hold:olds.length=n*i.size) (wY:xs.length=n)
  (holds:∀b,base=some b->∀(j:Nat) (u:Value),olds[j]?=some u->E.w.cell? (b.add j)=some u) (hro:Ee E olds xs i.size)
  {ad:Addr} {ys:List AV} {c:Nat} {news:List Value} (hl:news.length=ys.length*i.size) (hnews:∀(j:Nat) (u:Value),news[j]?=some u->E.w.cell? (ad.add j)=some u) (hrn:Ee E news ys i.size)
  (hg:cap<n+ys.length) (hm:n+ys.length<=maxLen) (hbytes:(n+ys.length)*i.bytes<=P7) :
  ∃us newCap,(Builtin.append_ #[t,t] ty #[.slice base n cap,.slice (some ad) ys.length c]).run P E.w=.ok (.slice (some ⟨E.w.heap.size,0,none⟩) (n+ys.length) newCap) (E.w.drew.alloc (.cells us e)) /\
   n+ys.length<=newCap/\newCap<=maxLen/\newCap*i.size<=us.size/\Ee E us.toList (xs++ys) i.size:=by
 have V6:=growslice_fits hg hbytes;have h63:((n+ys.length:Nat):Int)<=9223372036854775807:=by unfold maxLen at hm;omega
 refine⟨(olds++news).toArray++Builtin.zeroCells z.cells (grownCap E.w (n+ys.length) cap e-(n+ys.length)),grownCap E.w (n+ys.length) cap e,?_,grownCap_ge _ _ _ _,grownCap_le_maxLen _ _ _ _ hm,?_,?_⟩
 rotate_left 1
 .exact(PY (us:=olds++news) (xs:=xs++ys) (n:=n+ys.length) (Gp hro (by rw[hold,wY]) hrn) (by rw[zf9z,hold,hl,zf3z]) z.cells hzs (grownCap_ge E.w _ cap e)).2
 .exact(PY (us:=olds++news) (xs:=xs++ys) (n:=n+ys.length) (Gp hro (by rw[hold,wY]) hrn) (by rw[zf9z,hold,hl,zf3z]) z.cells hzs (grownCap_ge E.w _ cap e)).1
 .cases base with
  |none =>
   have hc:=hb rfl;subst hc;have hn0:n=0:=by omega
   subst hn0;have ho0:olds=[]:=zf1z (by simpa using hold);subst ho0;have:=run_append_nil (P:=P) E.w t ty e i z ht hi hz ad ys.length c news hl hnews (by omega) (by simpa using h63) (by simp at hbytes;unfold P7 at hbytes;omega);simpa using this
  |some b =>
   have:=run_append_grow (P:=P) E.w t ty e i z ht hi hz b n cap olds hold (holds b rfl) ad ys.length c news hl hnews hg h63 V6;rw[this];simp
structure Src (P:Program) (E:Env) (t u e:TypeId) (i:TypeInfo) (x:Value) (ys:List AV) (news:List Value):Prop where
 len:news.length=ys.length*i.size
 one:∀v∈news,v.oneCell'=true
 row:Ee E news ys i.size
 zero:ys=[]->∀(ty:TypeId) (base:Option Addr) (n c:Nat),n<=c->(Builtin.append_ #[t,u] ty #[.slice base n c,x]).run P E.w=.ok (.slice base n c) E.w
 room:ys≠[]->∀(ty:TypeId) (g q sLen sCap:Nat) (cur:Array Value) (t':TypeId),E.w.heap[g]?=some (.cells cur t' (0,0))->sLen+ys.length<=sCap->q+sLen*i.size+news.length<=cur.size ->
  (Builtin.append_ #[t,u] ty #[.slice (some ⟨g,q,none⟩) sLen sCap,x]).run P E.w =
   .ok (.slice (some ⟨g,q,none⟩) (sLen+ys.length) sCap) (E.w.setRow g (cur.toList.take (q+sLen*i.size)++news++cur.toList.drop (q+sLen*i.size+news.length)).toArray)
 grow:ys≠[]->∀(ty:TypeId) (z:Value) (base:Option Addr) (n cap:Nat) (olds:List Value) (xs:List AV),i.zero=some z->z.cells.size=i.size->(base=none->cap=0)->n<=cap->olds.length=n*i.size->xs.length=n ->
  (∀b,base=some b->∀(j:Nat) (u:Value),olds[j]?=some u->E.w.cell? (b.add j)=some u)->Ee E olds xs i.size->cap<n+ys.length->n+ys.length<=maxLen->(n+ys.length)*i.bytes<=P7 ->
  ∃us newCap,(Builtin.append_ #[t,u] ty #[.slice base n cap,x]).run P E.w=.ok (.slice (some ⟨E.w.heap.size,0,none⟩) (n+ys.length) newCap) (E.w.drew.alloc (.cells us e)) /\
   n+ys.length<=newCap/\newCap<=maxLen/\newCap*i.size<=us.size/\Ee E us.toList (xs++ys) i.size
theorem mU(hS:SR E)(hf:FR E fr a.tmps){t e:TypeId}{i:TypeInfo}(ht:P.underlying t=some (.slice e))(hi:P.info? e=some i)(Z6:0<i.size){x:Operand}{x':Opd}{ys:I7}(hx:C5 x=some x')(Nc:elems E.h i.size (get fr x')=some ys) :
  ∃news,Src P E t t e i (a.eval x) ys news:=by
 obtain⟨ad,cx,f1,f2,f3⟩:=LJ hS Z6 (C4 hf hx) Nc;by_cases h0:ys=[]
 .subst h0;refine⟨[],by simp,by simp,λj x h=>by simp at h,λ_ ty base n c hnc=>?_,λh=>absurd rfl h,λh=>absurd rfl h⟩;rw[f1];exact Qp t _ e i ht hi base ad n c cx hnc E.w
 .obtain⟨b,q,rfl,f4⟩:=f3 h0;obtain⟨news,n1,n2,n3,n4⟩:=Kx Z6 f4;refine⟨news,n1,n3,n4,λh=>absurd h h0,λ_ ty g q' sLen sCap cur t' hg n8 V6=>?_,λ_ ty z base n cap olds xs hz hzs hb hnc hold wY holds hro hgr hm hby=>?_⟩
  .rw[f1];exact Ui (P:=P) t ty e i ht hi g q' sLen sCap cur t' E.w hg ⟨b,q,none⟩ ys.length cx news n1 n2 n3 n8 V6
  .rw[f1];exact TG (P:=P) ht hi hz hzs hb hnc hold wY holds hro n1 n2 n4 hgr hm hby
theorem Oh(str:AD):Ee E (Lib.strCells str) (JR str) 1:=by
 intro j x hj;unfold JR at hj;rw[zf8z,Option.map_eq_some_iff]at hj;obtain⟨b,hb,rfl⟩:=hj;refine⟨rfl,λc y hc=>?_⟩;cases c with
 |zero =>
  simp only[AV.cells,List.getElem?_cons_zero,Option.some.injEq]at hc;subst hc;refine⟨.int .u8 b.toNat,?_,rfl,by simp[PV]⟩;simp only[Lib.strCells,zg9z,zg1z,zf8z,hb,Option.map_some]
 |succ c=>simp[AV.cells]at hc
theorem dU(str:AD):(JR str).length=str.size:=by
 unfold JR;rw[List.length_map,Array.length_toList];rfl
theorem xk{t u e:TypeId}{i:TypeInfo}(ht:P.underlying t=some (.slice e))(hu:P.underlying u=some .string)(hi:P.info? e=some i)(hs1:i.size=1)(str:AD) :
  Src P E t u e i (.string str) (JR str) (Lib.strCells str):=by
 have hl:(Lib.strCells str).length=str.size:=Lib.strCells_length str;have hl':=dU str;refine⟨by rw[hs1,hl,hl',zg9z],Lib.strCells_oneCell str,by rw[hs1];exact Oh str,λh0 ty base n c hnc=>?_,λh0 ty g q sLen sCap cur t' hg n8 V6=>?_,λh0 ty z base n cap olds xs hz hzs hb hnc hold wY holds hro hgr hm hby=>?_⟩
 .have hz:str.size=0:=by rw[←hl',h0];rfl
  have he:str=.empty:=by
   obtain⟨⟨l⟩⟩:=str;cases l with
   |nil=>rfl
   |cons x l=>simp[ByteArray.size]at hz
  subst he;cases base<;>simp[Builtin.append_,run_underlying ht,run_underlying hu,sizeOf,typeInfo,hi,Builtin.lenOf,hnc,Builtin.firstCells,storeCells]
 .have hf:=Lib.run_firstCells_string (P:=P) E.w i.size str;have V8:=run_storeCells_at P g (q+sLen*i.size) t' (Lib.strCells str) 0 cur E.w hg (by simpa using V6) (Lib.strCells_oneCell str);simp only[zg1z]at V8;rw[hl']at n8 ⊢;rw[hs1]at V8 hf ⊢;simp[Builtin.append_,run_underlying ht,run_underlying hu,sizeOf,typeInfo,hi,hs1,Builtin.lenOf,n8,hf,Bj]at V8 ⊢;rw[V8];rfl
 .rw[hl']at hgr hm hby ⊢;have V6:=growslice_fits hgr hby;have h63:((n+str.size:Nat):Int)<=9223372036854775807:=by unfold maxLen at hm;omega
  have hrn:Ee E (Lib.strCells str) (JR str) i.size:=by rw[hs1];exact Oh str
  have hL:(olds++Lib.strCells str).length=(n+str.size)*i.size:=by rw[zf9z,hold,hl,zf3z,hs1];omega
  have hG:=PY (us:=olds++Lib.strCells str) (xs:=xs++JR str) (n:=n+str.size) (Gp hro (by rw[hold,wY]) hrn) hL z.cells hzs (grownCap_ge E.w (n+str.size) cap e);refine⟨(olds++Lib.strCells str).toArray++Builtin.zeroCells z.cells (grownCap E.w (n+str.size) cap e-(n+str.size)),grownCap E.w (n+str.size) cap e,?_,grownCap_ge _ _ _ _,grownCap_le_maxLen _ _ _ _ hm,hG.2,hG.1⟩;cases base with
  |none =>
   have hc:=hb rfl;subst hc;have hn0:n=0:=by omega
   subst hn0;have ho0:olds=[]:=zf1z (by simpa using hold);subst ho0;have:=run_append_nil_string (P:=P) E.w t u ty e i z ht hu hi hz str (by omega) (by simpa using h63) (by simp at hby;unfold P7 at hby;omega);rw[this];have hm:(List.map (λb:UInt8=>Value.int IntKind.u8 (b.toNat:Int)) str.data.toList).toArray=Array.map (λb=>Value.int IntKind.u8 (b.toNat:Int)) str.data:=by
    apply Array.ext';simp
   simp[Lib.strCells,hm]
  |some b =>
   have:=Lib.run_append_grow_string (P:=P) E.w t u ty e i z ht hu hi hz b n cap olds hold (holds b rfl) str hgr h63 V6;rw[this];simp
theorem Zj(hS:SR E):Ext E {E with w:=E.w.drew}:=AJ hS (KT _)
theorem gk(hS:SR E):SR {E with w:=E.w.drew}:=Cm hS (KT _)
theorem dZ{c:Ctx}{args:Array Operand}{ats:Array TypeId}{s x:Operand}{s':Opd}{t u e:TypeId}{i:TypeInfo}{z:AV}{z0:Nat}{xs ys:I7}(hS:SR E)(hf:FR E fr a.tmps)
  (ho:o.op=.call {callee:=.builtin .append,args:=args,argTypes:=ats}) (h1:args.toList=[s,x]) (h2:ats.toList=[t,u]) (ht:P.underlying t=some (.slice e)) (hi:P.info? e=some i) (hz:Program.zeroA P e=some z) (Z6:0<i.size)
  (hs:C5 s=some s') (hg:get fr s'=.vs true z0 xs) {news:List Value} (hsrc:Src P E t u e i (a.eval x) ys news) (s9:ys.length≠0) (hz0:z0=i.size\/xs.length=0)
  (hb:(xs.length+ys.length)*i.bytes<=P7) (hm:xs.length+ys.length<=maxLen) :
  Ed P a o E (.sl E.h.fams.length (xs.length+ys.length) 0 (xs.length+ys.length)) {E.h with fams:=E.h.fams++[⟨xs++ys,i.size,c.mutApp⟩]}:=by
 obtain⟨i',zv,q1,q2,q3,q4,q5⟩:=CH hz;rw[hi]at q1;cases q1;have e1:=C4 hf hs;rw[hg]at e1;simp only[VR,PV]at e1;obtain⟨base,len,cap,e2,rfl,e4,e5,e6,e7,e8⟩:=e1;have ecap:cap=xs.length:=e6 trivial;have n1:=hsrc.len;have n3:=hsrc.one;have n4:=hsrc.row;have hold:∃olds:List Value,olds.length=xs.length*i.size/\(∀b,base=some b->∀(j:Nat) (u:Value),olds[j]?=some u->E.w.cell? (b.add j)=some u)/\Ee E olds xs i.size:=by
  by_cases hxe:xs=[]
  .subst hxe;exact⟨[],by simp,λb _ j u h=>by simp at h,λj x h=>by simp at h⟩
  .obtain⟨b',q',rfl,_,hels⟩:=e8 hxe;have:z0=i.size:=by
    rcases hz0 with h|h
    .exact h
    .exact absurd (zf1z h) hxe
   subst this;obtain⟨olds,o1,o2,_,o4⟩:=Kx (E:=E) (b:=b') (q:=q') Z6 (ys:=xs) (λj x hj=>by
    obtain⟨p1,p2⟩:=IM hels hj;refine⟨p1,λc y hc=>?_⟩;obtain⟨u,_,u2,u3,u4⟩:=Af p2 hc;exact⟨u,u2,u3,u4⟩)
   exact⟨olds,o1,λb'' hb''=>by cases hb'';exact o2,o4⟩
 obtain⟨olds,o1,o2,o3⟩:=hold;obtain⟨us,newCap,r1,r2,r3,r4,r5⟩:=hsrc.grow (by intro h;subst h;simp at s9) o.type _ base _ cap olds xs q2 q3 e7.1 e4 o1 rfl o2 o3 (by omega) hm hb;have hE1:=gk hS;have hx1:=Zj hS;refine⟨_,.slice (some ⟨E.w.heap.size,0,none⟩) (xs.length+ys.length) newCap,({E with w:=E.w.drew}:Env).newFam us e newCap ⟨xs++ys,i.size,c.mutApp⟩,?_,.inl rfl,hx1.trans (FF hE1 _ _ _ _),
  II hE1 Z6 (by simpa using r2) r3 r4 (λj x hj=>Mk (Kz hx1 r5) j x hj),rfl,?_⟩
 .refine Du ho h1 h2 ?_;rw[e2,r1];rfl
 .simp only[VR,Env.newFam,V4];exact⟨_,_,⟨xs++ys,i.size,c.mutApp⟩,rfl,by simp,⟨by simp,λ_=>⟨_,_,rfl⟩⟩,λ_=>⟨zt0z _,by simp,by simp,(λh=>nomatch h),λ_=>by simp⟩⟩
theorem TL{α:Type}{l:List α}{k:Nat}{x:α}(h:l[k]?=some x):l.set k x=l:=by
 apply List.ext_getElem?;intro j;rw[List.getElem?_set];split
 .rename_i hj;subst hj;have:=(zf0z.1 h).1;rw[if_pos this];exact h.symm
 .rfl
theorem kc{args:Array Operand}{ats:Array TypeId}{s x:Operand}{s':Opd}{t u e:TypeId}{i:TypeInfo}{z:AV}{k n off len:Nat}{f:Fam}{ys:I7}(hS:SR E)(hf:FR E fr a.tmps)
  (ho:o.op=.call {callee:=.builtin .append,args:=args,argTypes:=ats}) (h1:args.toList=[s,x]) (h2:ats.toList=[t,u]) (ht:P.underlying t=some (.slice e)) (hi:P.info? e=some i) (hz:Program.zeroA P e=some z) (Z6:0<i.size)
  (hs:C5 s=some s') (hg:get fr s'=.sl k n off len) {news:List Value} (hsrc:Src P E t u e i (a.eval x) ys news) (hfk:E.h.fams[k]?=some f) (hn:f.xs.length=n) (Y3:f.sz=i.size) (hoff:off+len=n)
  (hb:(n+ys.length)*i.bytes<=P7) (hm:n+ys.length<=maxLen) :
  Ed P a o E (.sl k (n+ys.length) off (len+ys.length)) {E.h with fams:=E.h.fams.set k {f with xs:=f.xs++ys}}:=by
 obtain⟨i',zv,q1,q2,q3,q4,q5⟩:=CH hz;rw[hi]at q1;cases q1;have e1:=C4 hf hs;rw[hg]at e1;have e1':=e1;simp only[VR]at e1;obtain⟨base,cap,f',e2,hf',e4,e5⟩:=e1;have:f'=f:=by rw[hfk]at hf';simpa using hf'.symm
 subst this;obtain⟨l1,l2,l3,l4,l5⟩:=e5 hn;have hF:=hS.fams k f' hfk;have n8:=hF.room;have DB:=(zf0z.1 hfk).1;have n1:=hsrc.len;have n3:=hsrc.one;have n4:=hsrc.row;have hlencap:len<=cap:=by omega
 by_cases h0:ys=[]
 .subst h0;have qg:E.h.fams.set k {f' with xs:=f'.xs++[]}=E.h.fams:=TL (by rw[zg7z];exact hfk)
  refine⟨_,.slice base len cap,E,Du ho h1 h2 ?_,.inl rfl,Ext.refl E,hS,by rw[qg],by rw[e2]at e1';simpa using e1'⟩;rw[e2];exact hsrc.zero rfl _ base len cap hlencap
 have hylen:0<ys.length:=by
  rcases zg0z ys.length with h|h
  .exact absurd (zf1z h) h0
  .exact h
 by_cases ZG:len+ys.length<=cap
 ·-- there is room
  have hbase:=l5 (by omega);obtain⟨cur,t',c1,c2,c3⟩:=hF.cells;have hnl:off-(E.im k).lo+len=n-(E.im k).lo:=by omega
  have epos:(E.im k).o+(off-(E.im k).lo)*f'.sz+len*i.size=(E.im k).o+(n-(E.im k).lo)*f'.sz:=by
   rw[←hnl,zf3z,Y3];omega
  have V6:(E.im k).o+(n-(E.im k).lo)*f'.sz+news.length<=cur.size:=by
   have h3:(n-(E.im k).lo+ys.length)*f'.sz<=(E.im k).cap*f'.sz:=zf5z _ (by omega);rw[zf3z]at h3;rw[n1,←Y3];omega
  have hrun:=hsrc.room h0 o.type (E.im k).b ((E.im k).o+(off-(E.im k).lo)*f'.sz) len cap cur t' c1 ZG (by rw[epos];exact V6);rw[epos]at hrun;obtain⟨us,Nb⟩:∃us:Array Value,us=(cur.toList.take ((E.im k).o+(n-(E.im k).lo)*f'.sz)++news++cur.toList.drop ((E.im k).o+(n-(E.im k).lo)*f'.sz+news.length)).toArray:=⟨_,rfl⟩;rw[←Nb]at hrun;have hget:∀j:Nat,us[j]?=if j<(E.im k).o+(n-(E.im k).lo)*f'.sz then cur[j]? else if j<(E.im k).o+(n-(E.im k).lo)*f'.sz+news.length then news[j-((E.im k).o+(n-(E.im k).lo)*f'.sz)]? else cur[j]?:=by
   intro j;have:=EI (l:=cur.toList) (off:=(E.im k).o+(n-(E.im k).lo)*f'.sz) (vs:=news) (by simpa using V6) j;simp only[zg2z]at this;rw[Nb,zg3z,this]
  have hkeep:f'.wr=false->∀j,j<(E.im k).o+(f'.xs.length-(E.im k).lo)*f'.sz->us[j]?=cur[j]?:=by
   intro _ j hj;rw[hn]at hj;rw[hget,if_pos hj]
  refine⟨_,.slice base (len+ys.length) cap,E.setFam k us {f' with xs:=f'.xs++ys},Du ho h1 h2 ?_,.inl rfl,GS hS hfk c1 rfl rfl (by simp) hkeep,
   KI hS hfk c1 rfl rfl (by simp) hkeep (by simp;omega) (by rw[Nb];simp;omega) ?_,rfl,?_⟩
  .rw[e2,hbase,hrun];rfl
  .intro j x' hj hx';have hx'':(f'.xs++ys)[j]?=some x':=hx';by_cases hjn:j<n
   .rw[zf2z (by omega)]at hx'';obtain⟨g1,g2⟩:=c3 j x' hj hx'';refine⟨g1,λc y hc=>?_⟩;obtain⟨v,v1,v2⟩:=g2 c y hc;have o9:c<f'.sz:=by have:=(zf0z.1 hc).1;omega
    have:=BM (show j-(E.im k).lo<n-(E.im k).lo by omega) o9;exact⟨v,by rw[hget,if_pos (by omega)];exact v1,v2⟩
   .rw[zf4z (by omega),hn]at hx'';obtain⟨g1,g2⟩:=n4 _ x' hx'';refine⟨by omega,λc y hc=>?_⟩;obtain⟨v,v1,v2⟩:=g2 c y hc;have o9:c<f'.sz:=by have:=(zf0z.1 hc).1;omega
    have hjy:j-n<ys.length:=by have:=(zf0z.1 hx'').1;omega
    have h5:=BM hjy o9;have ej:(j-(E.im k).lo)*f'.sz=(n-(E.im k).lo)*f'.sz+(j-n)*f'.sz:=by
     rw[←zf3z];congr 1;omega
    refine⟨v,?_,v2⟩;rw[hget,ej,if_neg (by omega),if_pos (by rw[n1,←Y3];omega)];rw[show (E.im k).o+((n-(E.im k).lo)*f'.sz+(j-n)*f'.sz)+c-((E.im k).o+(n-(E.im k).lo)*f'.sz)=(j-n)*i.size+c from by rw[←Y3];omega];exact v1
  .simp only[VR,Env.setFam];refine⟨base,cap,{f' with xs:=f'.xs++ys},rfl,by simp[DB],⟨by simp[hn],λ_=>?_⟩,λ_=>⟨l1,by omega,l3,l4,l5⟩⟩
   by_cases hc0:cap=0
   .exfalso;omega
   .exact⟨_,_,l5 hc0⟩
 ·-- there is none
  have hold:∃olds:List Value,olds.length=len*i.size/\(∀b,base=some b->∀(j:Nat) (u:Value),olds[j]?=some u->E.w.cell? (b.add j)=some u)/\Ee E olds ((f'.xs.drop off).take len) i.size:=by
   have hll:((f'.xs.drop off).take len).length=len:=by simp;omega
   by_cases hl0:len=0
   .subst hl0;exact⟨[],by simp,λb _ j u h=>by simp at h,λj x h=>by simp at h⟩
   .obtain⟨ad',cx',g1,g2,g3⟩:=LJ hS (sz:=i.size) Z6 e1' (ys:=(f'.xs.drop off).take len) (by simp only[elems,hfk];rw[if_pos ⟨hn,Y3,by omega⟩]);obtain⟨b',q',rfl,g4⟩:=g3 (by intro h;rw[h]at hll;simp at hll;omega);obtain⟨olds,o1,o2,_,o4⟩:=Kx Z6 g4;rw[e2]at g1;have:base=some ⟨b',q',none⟩:=by simp at g1;exact g1.1
    subst this;exact⟨olds,by rw[o1,hll],λb'' hb''=>by cases hb'';exact o2,o4⟩
  obtain⟨olds,o1,o2,o3⟩:=hold;have hll:((f'.xs.drop off).take len).length=len:=by simp;omega
  obtain⟨us,newCap,r1,r2,r3,r4,r5⟩:=hsrc.grow h0 o.type _ base _ cap olds _ q2 q3 (λe=>absurd e l4) hlencap o1 hll o2 o3 (by omega) (by omega) (by
   refine Nat.le_trans (zf5z _ ?_) hb;omega)
  have hE1:=gk hS;have hx1:=Zj hS;refine⟨_,.slice (some ⟨E.w.heap.size,0,none⟩) (len+ys.length) newCap,({E with w:=E.w.drew}:Env).moveFam k us e off newCap {f' with xs:=f'.xs++ys},Du ho h1 h2 ?_,.inl rfl,
   hx1.trans (LQ hE1 hfk _ _ _ _ rfl (by simp;omega)),
   Sb hE1 hfk rfl (by simp;omega) (by simp;omega) (by simp;omega) r3 (by rw[Y3];exact r4) ?_,rfl,?_⟩
  .rw[e2,r1];rfl
  .intro j x' hj hx';have hx'':(f'.xs++ys)[j]?=some x':=hx';rw[Y3];refine Mk (Kz hx1 r5) (j-off) x' ?_;by_cases hjn:j<n
   .rw[zf2z (by omega)]at hx'';rw[zf2z (by omega),zg6z,if_pos (by omega),zg5z,show off+(j-off)=j from by omega];exact hx''
   .rw[zf4z (by omega)]at hx'';rw[zf4z (by omega),hll,show j-off-len=j-f'.xs.length from by omega];exact hx''
  .simp only[VR,Env.moveFam,V4];refine⟨_,_,{f' with xs:=f'.xs++ys},rfl,by simp[DB],⟨by simp[hn],λ_=>⟨_,_,rfl⟩⟩,λ_=>⟨Nat.le_refl _,by omega,by omega,(λh=>nomatch h),λ_=>by simp⟩⟩
theorem kZ{args:Array Operand}{ats:Array TypeId}{s x:Operand}{s':Opd}{t u e:TypeId}{i:TypeInfo}{z:AV}{k n off len:Nat}{f:Fam}{ys:I7}(hS:SR E)(hf:FR E fr a.tmps)
  (ho:o.op=.call {callee:=.builtin .append,args:=args,argTypes:=ats}) (h1:args.toList=[s,x]) (h2:ats.toList=[t,u]) (ht:P.underlying t=some (.slice e)) (hi:P.info? e=some i) (hz:Program.zeroA P e=some z) (Z6:0<i.size)
  (hs:C5 s=some s') (hg:get fr s'=.sl k n off len) {news:List Value} (hsrc:Src P E t u e i (a.eval x) ys news) (hfk:E.h.fams[k]?=some f) (hn:f.xs.length=n) (Y3:f.sz=i.size) (hwr:f.wr=true) (hfits:off+len+ys.length<=n) :
  Ed P a o E (.sl k n off (len+ys.length)) {E.h with fams:=E.h.fams.set k {f with xs:=f.xs.take (off+len)++ys++f.xs.drop (off+len+ys.length)}}:=by
 obtain⟨i',zv,q1,q2,q3,q4,q5⟩:=CH hz;rw[hi]at q1;cases q1;have e1:=C4 hf hs;rw[hg]at e1;have e1':=e1;simp only[VR]at e1;obtain⟨base,cap,f',e2,hf',e4,e5⟩:=e1;have:f'=f:=by rw[hfk]at hf';simpa using hf'.symm
 subst this;obtain⟨l1,l2,l3,l4,l5⟩:=e5 hn;have hF:=hS.fams k f' hfk;have n8:=hF.room;have DB:=(zf0z.1 hfk).1;have n1:=hsrc.len;have n3:=hsrc.one;have n4:=hsrc.row;have hlencap:len<=cap:=by omega
 by_cases h0:ys=[]
 .subst h0;have qg:E.h.fams.set k {f' with xs:=f'.xs.take (off+len)++[]++f'.xs.drop (off+len+0)}=E.h.fams:=TL (by rw[zg7z,zg1z,List.take_append_drop];exact hfk)
  refine⟨_,.slice base len cap,E,Du ho h1 h2 ?_,.inl rfl,Ext.refl E,hS,by rw[List.length_nil,qg],by rw[e2]at e1';simpa using e1'⟩;rw[e2];exact hsrc.zero rfl _ base len cap hlencap
 have hylen:0<ys.length:=by
  rcases zg0z ys.length with h|h
  .exact absurd (zf1z h) h0
  .exact h
 have ZG:len+ys.length<=cap:=by omega
 have hbase:=l5 (by omega);obtain⟨cur,t',c1,c2,c3⟩:=hF.cells;have hnl:off-(E.im k).lo+len=off+len-(E.im k).lo:=by omega
 have epos:(E.im k).o+(off-(E.im k).lo)*f'.sz+len*i.size=(E.im k).o+(off+len-(E.im k).lo)*f'.sz:=by
  rw[←hnl,zf3z,Y3];omega
 have V6:(E.im k).o+(off+len-(E.im k).lo)*f'.sz+news.length<=cur.size:=by
  have h3:(off+len-(E.im k).lo+ys.length)*f'.sz<=(E.im k).cap*f'.sz:=zf5z _ (by omega);rw[zf3z]at h3;rw[n1,←Y3];omega
 have hrun:=hsrc.room h0 o.type (E.im k).b ((E.im k).o+(off-(E.im k).lo)*f'.sz) len cap cur t' c1 ZG (by rw[epos];exact V6);rw[epos]at hrun;obtain⟨us,Nb⟩:∃us:Array Value,us=(cur.toList.take ((E.im k).o+(off+len-(E.im k).lo)*f'.sz)++news++cur.toList.drop ((E.im k).o+(off+len-(E.im k).lo)*f'.sz+news.length)).toArray:=⟨_,rfl⟩;rw[←Nb]at hrun;have hget:∀j:Nat,us[j]?=if j<(E.im k).o+(off+len-(E.im k).lo)*f'.sz then cur[j]? else if j<(E.im k).o+(off+len-(E.im k).lo)*f'.sz+news.length then news[j-((E.im k).o+(off+len-(E.im k).lo)*f'.sz)]? else cur[j]?:=by
  intro j;have:=EI (l:=cur.toList) (off:=(E.im k).o+(off+len-(E.im k).lo)*f'.sz) (vs:=news) (by simpa using V6) j;simp only[zg2z]at this;rw[Nb,zg3z,this]
 have hkeep:f'.wr=false->∀j,j<(E.im k).o+(f'.xs.length-(E.im k).lo)*f'.sz->us[j]?=cur[j]?:=λh=>by rw[hwr]at h;cases h
 obtain⟨zs,hzs⟩:∃zs,zs=f'.xs.take (off+len)++ys++f'.xs.drop (off+len+ys.length):=⟨_,rfl⟩;have Tt:zs.length=f'.xs.length:=by rw[hzs];simp;omega
 have hzget:∀j:Nat,zs[j]?=if j<off+len then f'.xs[j]? else if j<off+len+ys.length then ys[j-(off+len)]? else f'.xs[j]?:=by
  intro j;rw[hzs];exact EI (l:=f'.xs) (off:=off+len) (vs:=ys) (by omega) j
 rw[←hzs];refine⟨_,.slice base (len+ys.length) cap,E.setFam k us {f' with xs:=zs},Du ho h1 h2 ?_,.inl rfl,GS hS hfk c1 rfl rfl (by simp[Tt]) hkeep,
  KI hS hfk c1 rfl rfl (by simp[Tt]) hkeep (by simp[Tt];omega) (by rw[Nb];simp;omega) ?_,rfl,?_⟩
 .rw[e2,hbase,hrun];rfl
 .intro j x' hj hx';have hx'':zs[j]?=some x':=hx';rw[hzget]at hx'';by_cases hjn:j<off+len
  .rw[if_pos hjn]at hx'';obtain⟨g1,g2⟩:=c3 j x' hj hx'';refine⟨g1,λc y hc=>?_⟩;obtain⟨v,v1,v2⟩:=g2 c y hc;have o9:c<f'.sz:=by have:=(zf0z.1 hc).1;omega
   have:=BM (show j-(E.im k).lo<off+len-(E.im k).lo by omega) o9;exact⟨v,by rw[hget,if_pos (by omega)];exact v1,v2⟩
  .rw[if_neg hjn]at hx'';by_cases hjy:j<off+len+ys.length
   .rw[if_pos hjy]at hx'';obtain⟨g1,g2⟩:=n4 _ x' hx'';refine⟨by omega,λc y hc=>?_⟩;obtain⟨v,v1,v2⟩:=g2 c y hc;have o9:c<f'.sz:=by have:=(zf0z.1 hc).1;omega
    have hr:=BM (show j-(off+len)<ys.length by omega) o9;have ep:(E.im k).o+(j-(E.im k).lo)*f'.sz+c=(E.im k).o+(off+len-(E.im k).lo)*f'.sz+((j-(off+len))*f'.sz+c):=by
     rw[show j-(E.im k).lo=(off+len-(E.im k).lo)+(j-(off+len)) from by omega,zf3z];omega
    refine⟨v,?_,v2⟩;rw[hget,if_neg (by omega),if_pos (by rw[n1,←Y3];omega),ep,show (E.im k).o+(off+len-(E.im k).lo)*f'.sz+((j-(off+len))*f'.sz+c)-((E.im k).o+(off+len-(E.im k).lo)*f'.sz)=(j-(off+len))*f'.sz+c from by omega,Y3];exact v1
   .rw[if_neg hjy]at hx'';obtain⟨g1,g2⟩:=c3 j x' hj hx'';refine⟨g1,λc y hc=>?_⟩;obtain⟨v,v1,v2⟩:=g2 c y hc;have h3:(off+len-(E.im k).lo+ys.length)*f'.sz<=(j-(E.im k).lo)*f'.sz:=zf5z _ (by omega);rw[zf3z]at h3;exact⟨v,by rw[hget,if_neg (by omega),if_neg (by rw[n1,←Y3];omega)];exact v1,v2⟩
 .simp only[VR,Env.setFam];exact⟨base,cap,{f' with xs:=zs},rfl,by simp[DB],⟨by simp[Tt,hn],λ_=>⟨_,_,l5 (by omega)⟩⟩,λ_=>⟨l1,by omega,l3,l4,l5⟩⟩
theorem Uo{c:Ctx}{args:Array Operand}{ats:Array TypeId}{s x:Operand}{s':Opd}{t u e:TypeId}{i:TypeInfo}{z v:AV}{h':AH}{ys:I7}{news:List Value}(hS:SR E)(hf:FR E fr a.tmps)
  (ho:o.op=.call {callee:=.builtin .append,args:=args,argTypes:=ats}) (h1:args.toList=[s,x]) (h2:ats.toList=[t,u]) (ht:P.underlying t=some (.slice e)) (hi:P.info? e=some i) (hz:Program.zeroA P e=some z) (Z6:0<i.size)
  (hs:C5 s=some s') (hsrc:Src P E t u e i (a.eval x) ys news) (E5:Z2 c E.h i.size i.bytes (get fr s') ys=some (v,h')):Ed P a o E v h':=by
 unfold Z2 at E5;split at E5
 .rename_i z0 xs hg;split at E5
  .rename_i h0;cases E5;have e1:=C4 hf hs;have e1':=e1;rw[hg]at e1;simp only[VR,PV]at e1;obtain⟨base,len,cap,e2,_,e4,_⟩:=e1;refine⟨_,.slice base len cap,E,Du ho h1 h2 ?_,.inl rfl,Ext.refl E,hS,rfl,by rw[hg,e2]at e1';exact e1'⟩;rw[e2];exact hsrc.zero (zf1z h0) _ base len cap e4
  .rename_i h0;split at E5
   .rename_i hb;cases E5;exact dZ hS hf ho h1 h2 ht hi hz Z6 hs hg hsrc h0 hb.1 hb.2.1 hb.2.2
   .cases E5
 .rename_i k n off len hg;split at E5
  .rename_i f hfk;split at E5
   .rename_i hb;cases E5;exact kc hS hf ho h1 h2 ht hi hz Z6 hs hg hsrc hfk hb.1 hb.2.1 hb.2.2.1 hb.2.2.2.1 hb.2.2.2.2
   .split at E5
    .rename_i hb;cases E5;exact kZ hS hf ho h1 h2 ht hi hz Z6 hs hg hsrc hfk hb.1 hb.2.1 hb.2.2.1 hb.2.2.2
    .cases E5
  .cases E5
 .cases E5
end
end Go.Abs
