/- A part of the proof. -/
import Derived.Test.YtnnjamknplefbaaGreatDoorTN3
set_option linter.all false
open List renaming getElem?_eq_some_iff->zf0z,getElem?_append_left->zf1z,getElem?_append_right->zf2z,replicate->zf6z,getElem?_eq_getElem->zf7z,getElem?_set_self->zf9z,getElem?_set_ne->zg1z,mem_of_mem_drop->zg2z,mem_of_mem_take->zg3z,mem_append->zg4z,mem_of_getElem?->zg5z,eq_nil_of_length_eq_zero->zg7z,getElem?_drop->zg8z,getElem?_take->zg9z,length_append->zt0z,getElem?_map->zt1z,getElem?_replicate->zt2z,getElem?_eq_none->zt3z,getElem?_range->zt5z,append_assoc->A2u,length_cons->A2w,length_take->A2x,map_cons->A2z,drop->A22,take->A23
open Nat renaming le_refl->zf3z,mul_le_mul_right->zf4z,succ_mul->zg6z,add_zero->zt7z,lt_or_gt_of_ne->zt8z,mul_comm->zt9z,add_mul->A2v,lt_or_ge->A20,mod_lt->A21
open Option renaming map_eq_some_iff->zf5z,map_some->A2y
open Array renaming length_toList->zf8z,getElem?_toList->zg0z,getElem?_range->zt4z,getElem?_map->zt6z
set_option linter.all false
namespace Go.Abs
open Go.RowKit (Below)
section
variable {E:Env} {P:Program} {fr:Fr} {a:Act} {o:Oper}
theorem Yr{α:Type}{aas}{x:α}(h:aas.toList=[x]):aas=#[x]:=by cases aas;simp_all
theorem Ys{α:Type}{aas}{x y:α}(h:aas.toList=[x,y]):aas=#[x,y]:=by cases aas;simp_all
theorem xJ{args ats x t x' s}(hf:FR E fr a.tmps)(ho:o.op=.call {callee:=.builtin .len,args:=args,argTypes:=ats})(h1:args.toList=[x])(h2:ats.toList=[t])
  (hts:P.underlying t=some .string) (hx:C7 x=some x') (hs:get fr x'=.str s):DT P a o E (.int .i64 s.size):=by
 have hv:=C8 hf hx;rw[Yr h1,Yr h2]at ho;rw[hs]at hv;simp only[VR]at hv;exact⟨_,by simp[execOp,ho,resolve,invoke,builtin,Builtin.len_,hv,R5 hts,goInt],Jn _ _⟩
theorem q_len{args ats x t e x' v}(hf:FR E fr a.tmps)(ho:o.op=.call {callee:=.builtin .len,args:=args,argTypes:=ats})(h1:args.toList=[x])(h2:ats.toList=[t])
  (hts:P.underlying t=some (.slice e)) (hx:C7 x=some x')
  (h:(match get fr x' with | .vs _ _ xs=>some (AV.int .i64 xs.length,E.h) | .sl _ _ _ len=>some (.int .i64 len,E.h) | .bsl _ _ _ len=>some (.int .i64 len,E.h)|_=>none)=some (v,E.h)):DT P a o E v:=by
 have hv:=C8 hf hx;rw[Yr h1,Yr h2]at ho;split at h
 .rename_i full z xs hg;rw[hg]at hv;simp only[VR,PV]at hv;obtain⟨ad,len,cap,e1,rfl,_⟩:=hv;simp at h;subst h;exact⟨_,oA,Jn _ _⟩
 .rename_i k n off len hg;rw[hg]at hv;simp only[VR]at hv;obtain⟨ad,cap,f,e1,_⟩:=hv;simp at h;subst h;exact⟨_,oA,Jn _ _⟩
 .rename_i b s off len hg;rw[hg]at hv;simp only[VR]at hv;obtain⟨_,cap,e1,_⟩:=hv;simp at h;subst h;exact⟨_,oA,Jn _ _⟩
 .cases h
theorem q_max{args ats x y x' y' k k' i j}(hf:FR E fr a.tmps)(ho:o.op=.call {callee:=.builtin .max,args:=args,argTypes:=ats})(h1:args.toList=[x,y])
  (hx:C7 x=some x') (hy:C7 y=some y') (hi:get fr x'=.int k i) (hj:get fr y'=.int k' j):DT P a o E (.int k (if j > i then j else i)):=by
 have e1:=C8 hf hx;have e2:=C8 hf hy;rw[hi]at e1;rw[hj]at e2;simp only[VR]at e1 e2;rw[Ys h1]at ho;exact⟨_,by simp[execOp,ho,resolve,invoke,builtin,Builtin.max_,Builtin.max2,e1,e2],Jn _ _⟩
theorem q_min{args ats x y x' y' k k' i j}(hf:FR E fr a.tmps)(ho:o.op=.call {callee:=.builtin .min,args:=args,argTypes:=ats})(h1:args.toList=[x,y])
  (hx:C7 x=some x') (hy:C7 y=some y') (hi:get fr x'=.int k i) (hj:get fr y'=.int k' j):DT P a o E (.int k (if j<i then j else i)):=by
 have e1:=C8 hf hx;have e2:=C8 hf hy;rw[hi]at e1;rw[hj]at e2;simp only[VR]at e1 e2;rw[Ys h1]at ho;exact⟨_,by simp[execOp,ho,resolve,invoke,builtin,Builtin.min_,Builtin.min2,e1,e2],Jn _ _⟩
theorem yT{w ok sz b o xs}(h:Pk w ok sz b o xs)(l n):Pk w ok sz b (o+l*sz) ((xs.drop l).take n):=by
 refine VC λj x hx=>?_;have hj:(xs.drop l)[j]?=some x:=by
  rw[zg9z]at hx;split at hx
  .exact hx
  .cases hx
 rw[zg8z]at hj;have:=NL h hj
 rwa [show o+(l+j)*sz=o+l*sz+j*sz from by rw[A2v];omega]at this
theorem A1q{w ok full full' z sz xs ad len cap l h m}(hv:PV w ok (.vs full z xs) (.slice ad len cap))(hz:z=sz\/xs.length=0)
  (h1:l<=h) (h2:h<=len) (h3:h<=m) (h4:m<=cap) (hfull:full'=true->m=h) :
  PV w ok (.vs full' z ((xs.drop l).take (h-l))) (.slice (if m=l then ad else ad.map (·.add (l*sz))) (h-l) (m-l)):=by
 simp only[PV]at hv ⊢;obtain⟨ad',len',cap',e,e2,e3,e4,e5,e6,e7⟩:=hv;obtain⟨rfl,rfl,rfl⟩:ad=ad'/\len=len'/\cap=cap':=by simpa using e
 refine⟨_,_,_,rfl,f8,a_,a_,λhf=>by rw[hfull hf],?_,λAS=>?_⟩
 .have hnn:(if m=l then ad else ad.map (·.add (l*sz)))=none↔ad=none:=by split<;>simp
  refine⟨λhn=>?_,hnn.trans e6.2⟩;have:=e6.1 (hnn.1 hn);omega
 .have C2:l<h:=by
   rcases A20 l h with h' | h'
   .exact h'
   .exact absurd (by simp[show h-l=0 from by omega]) AS
  have wJ:xs≠[]:=by intro hn;subst hn;simp at e2;omega
  obtain⟨b,q,rfl,hp,hels⟩:=e7 wJ;rw[if_neg a_];have hzz:z=sz:=by
   rcases hz with hz|hz
   .exact hz
   .exact absurd (zg7z hz) wJ
  subst hzz;exact⟨b,q+l*z,by simp[Dl],hp,yT hels l (h-l)⟩
theorem xK{t x lo hi x' lo' BR s l u}(hf:FR E fr a.tmps)(ho:o.op=.slice t x lo hi none)(ht:P.underlying t=some .string)
  (hx:C7 x=some x') (Uv:Ib lo=some lo') (gO:Ib hi=some BR) (hg:get fr x'=.str s) (hl:AA fr lo'=some l) (hu:AA fr BR=some u)
  (h0:0<=l.getD 0) (h1:l.getD 0<=u.getD s.size) (h2:u.getD s.size<=s.size):DT P a o E (.str (s.extract (l.getD 0).toNat (u.getD s.size).toNat)):=by
 have hv:=C8 hf hx;rw[hg]at hv;simp only[VR]at hv;have hb:=QV (P:=P) (b:=false) E.w (T8 hf Uv hl) (T8 hf gO hu) h0 h1 h2 (zf3z _);exact⟨_,by simp[execOp,ho,Instr.sliceAt,Instr.slice,R5 ht,hv,hb],yY _⟩
theorem ly{t e x lo hi mx x' lo' BR mx' full full' z n xs l u m}(hf:FR E fr a.tmps)(ho:o.op=.slice t x lo hi mx)(ht:P.underlying t=some (.slice e))(hn:Program.size? P e=some n)
  (hx:C7 x=some x') (Uv:Ib lo=some lo') (gO:Ib hi=some BR) (hmx:Ib mx=some mx') (hg:get fr x'=.vs full z xs) (hl:AA fr lo'=some l) (hu:AA fr BR=some u) (hm:AA fr mx'=some m)
  (hz:z=n\/xs.length=0) (h0:0<=l.getD 0) (h1:l.getD 0<=u.getD xs.length)
  (hc:(m=none/\u.getD xs.length<=xs.length/\full'=(full&&decide (u.getD xs.length=xs.length)))\/(∃q,m=some q/\u.isSome=true/\u.getD xs.length<=q/\q<=xs.length/\full'=decide (q=u.getD xs.length))) :
  DT P a o E (.vs full' z ((xs.drop (l.getD 0).toNat).take (u.getD xs.length-l.getD 0).toNat)):=by
 have hv:=C8 hf hx;rw[hg]at hv;simp only[VR]at hv;have hv':=hv;simp only[PV]at hv';obtain⟨ad,len,cap,e1,e2,e3,e4,e5,e6,e7⟩:=hv';rw[e1]at hv;subst e2;have etn:(u.getD xs.length-l.getD 0).toNat=(u.getD (xs.length:Int)).toNat-(l.getD 0).toNat:=by omega
 rw[etn];rcases hc with ⟨rfl,h2,hfull⟩|⟨q,rfl,hs,h2,h3,hfull⟩
 .have hmn:mx.map a.eval=none:=by
   rcases T8 hf hmx hm with ⟨_,h⟩|⟨k,i,h,_⟩
   .exact h
   .cases h
  have hb:=QV (P:=P) (b:=true) (cap:=cap) E.w (T8 hf Uv hl) (T8 hf gO hu) h0 h1 h2 e3;refine⟨_,oL,?_⟩;simp only[VR];refine A1q hv hz a_ a_ a_ (zf3z _) λhf'=>?_;rw[hfull]at hf';simp at hf';have:=e5 hf'.1;omega
 .have hms:∃k,mx.map a.eval=some (.int k q):=by
   rcases T8 hf hmx hm with ⟨h,_⟩|⟨k,i,h,h'⟩
   .cases h
   .cases h;exact⟨k,h'⟩
  have hb:=Ku (P:=P) (b:=true) (len:=xs.length) (cap:=cap) E.w (T8 hf Uv hl) (T8 hf gO hu) hms hs h0 h1 h2 a_;refine⟨_,oO,?_⟩;simp only[VR];refine A1q hv hz a_ a_ a_ a_ λhf'=>?_;rw[hfull]at hf';simp at hf';omega
theorem WJ{t e x lo hi mx x' lo' BR mx' n k m off len f l u q v}(hS:SR E)(hf:FR E fr a.tmps)(ho:o.op=.slice t x lo hi mx)(ht:P.underlying t=some (.slice e))(hn:Program.size? P e=some n)
  (hx:C7 x=some x') (Uv:Ib lo=some lo') (gO:Ib hi=some BR) (hmx:Ib mx=some mx') (hg:get fr x'=.sl k m off len) (hl:AA fr lo'=some l) (hu:AA fr BR=some u) (hm:AA fr mx'=some q)
  (hfk:E.h.fams[k]?=some f) (hz:f.sz=n) (D6:f.xs.length=m)
  (hc:((q=none/\0<=l.getD 0/\l.getD 0<=u.getD len/\(u.getD len<=len\/off+u.getD len<=m)/\v=.sl k m (off+(l.getD 0).toNat) (u.getD len-l.getD 0).toNat)\/(q=some 0/\u.isSome=true/\l.getD 0=0/\u.getD len=0/\v=.vs true n [])) \/
   ∃q',q=some q'/\u.isSome=true/\0<=l.getD 0/\l.getD 0<=u.getD len/\u.getD len<=q'/\off+q'<=m/\v=.junk) :
  DT P a o E v:=by
 have hv:=C8 hf hx;rw[hg]at hv;simp only[VR]at hv;obtain⟨ad,cap,f',e1,e2,e3,e4⟩:=hv;have:f'=f:=by rw[hfk]at e2;simpa using e2.symm
 subst this;obtain⟨l1,l2,l3,l4,l5⟩:=e4 D6;have Am:=(hS.fams k f' hfk).room;rcases hc with (⟨rfl,h0,h1,h2,rfl⟩|⟨rfl,hs,h0,h1,rfl⟩)|⟨q',rfl,hs,h0,h1,h2,h3,rfl⟩
 .have hmn:mx.map a.eval=none:=by
   rcases T8 hf hmx hm with ⟨_,h⟩|⟨k,i,h,_⟩
   .exact h
   .cases h
  have hcap:u.getD (len:Int)<=cap:=by omega
  have hrow:off+(u.getD (len:Int))<=m:=by omega
  have hb:=Ym (P:=P) (len:=len) (cap:=cap) E.w (T8 hf Uv hl) (T8 hf gO hu) h0 h1 hcap;have etn:(u.getD len-l.getD 0).toNat=(u.getD (len:Int)).toNat-(l.getD 0).toNat:=by omega
  rw[etn];refine⟨_,oL,?_⟩;simp only[VR];refine⟨_,_,f',rfl,hfk,⟨e3.1,λhlen0=>?_⟩,λ_=>⟨a_,a_,a_,λhnone=>?_,λAS=>?_⟩⟩
  .have had:=l5 a_;rw[if_neg a_,had];simp only[A2y,Dl];exact⟨_,_,rfl⟩
  .split at hnone
   .exact l4 hnone
   .exact l4 (by simpa using hnone)
  .rw[if_neg a_,l5 a_];simp only[A2y,Dl];congr 2;rw[show off+(l.getD 0).toNat-(E.im k).lo=(off-(E.im k).lo)+(l.getD 0).toNat from by omega,A2v,hz];omega
 .have hms:∃k,mx.map a.eval=some (.int k 0):=by
   rcases T8 hf hmx hm with ⟨h,_⟩|⟨k,i,h,h'⟩
   .cases h
   .cases h;exact⟨k,h'⟩
  have hb:=Ku (P:=P) (b:=true) (len:=len) (cap:=cap) E.w (T8 hf Uv hl) (T8 hf gO hu) hms hs a_ a_ a_ a_;refine⟨.slice ad 0 0,by simp[execOp,ho,Instr.sliceAt,Instr.slice,R5 ht,e1,hb,GF hn,h0,h1],?_⟩;simp only[VR,PV];exact⟨_,_,_,rfl,rfl,zf3z _,e_,λ_=>rfl,⟨λ_=>rfl,⟨λe=>absurd e l4,λe=>absurd (hS.fams k f' hfk).sz a_⟩⟩,λh=>absurd rfl h⟩
 .have hms:∃k,mx.map a.eval=some (.int k q'):=by
   rcases T8 hf hmx hm with ⟨h,_⟩|⟨k,i,h,h'⟩
   .cases h
   .cases h;exact⟨k,h'⟩
  have hb:=Ku (P:=P) (b:=true) (len:=len) (cap:=cap) E.w (T8 hf Uv hl) (T8 hf gO hu) hms hs h0 h1 h2 a_;refine⟨_,oO,?_⟩;simp[VR,Value.oneCell']
end
section
variable {E:Env} {P:Program} {fr:Fr} {a:Act} {o:Oper}
def Ji(P:Program)(a:Act)(o:Oper)(E:Env)(v:AV)(h':AH):Prop :=
 ∃nx u E',(execOp a.eval o).run P E.w=.ok nx E'.w/\(nx=.value u\/(nx=.skip/\u=undef))/\Ext E E'/\SR E'/\E'.h=h'/\VR E' v u
theorem DT.does{v}(hS:SR E)(h:DT P a o E v):Ji P a o E v E.h:=by
 obtain⟨u,h1,h2⟩:=h;exact⟨_,u,E,h1,.inl rfl,Ext.refl E,hS,rfl,h2⟩
theorem UD{aas bs us vs}(h1:i7 E aas us)(h2:i7 E bs vs):i7 E (aas++bs) (us++vs):=by
 refine Rl (by simp[Hr h1,Hr h2]) λj c u hc hu=>?_;have e:=Hr h1;by_cases hj:j<aas.length
 .rw[zf1z hj]at hc;rw[zf1z a_]at hu;obtain⟨u',h3,h4⟩:=(EW h1).2 hc;rw[h3]at hu;cases hu;exact h4
 .rw[zf2z a_]at hc;rw[zf2z a_,e]at hu;obtain⟨u',h3,h4⟩:=(EW h2).2 hc;rw[h3]at hu;cases hu;exact h4
theorem UE{cs ds us vs}(h1:i7 E cs us)(h2:i7 E ds vs)(off):i7 E (j8 cs off ds) (us.take off++vs++us.drop (off+vs.length)):=by
 unfold j8;rw[Hr h2];exact UD (UD (jY h1 _) h2) (jX h1 _)
theorem Rj{w ok x v}(h:PV w ok x v)(ht:x.isTup=false):DV w ok x.cells v.cells.toList/\∀u∈v.cells.toList,u.oneCell'=true:=by
 cases x<;>simp only[PV]at h
 case tup=>simp[AV.isTup]at ht
 case agg cs=>obtain⟨us,rfl,h1,h2⟩:=h;exact⟨h2,h1⟩
 case junk =>
  have hc:v.cells=#[v]:=by cases v<;>simp_all [Value.oneCell',Value.cells]
  rw[hc];exact⟨by simp[AV.cells,DV,PV,h],oE⟩
 case vs=>obtain⟨ad,len,cap,rfl,h'⟩:=h;exact⟨by simp only[AV.cells,Value.cells,DV,PV];exact⟨_,_,rfl,⟨_,_,_,rfl,h'⟩,rfl⟩,oC⟩
 case pv=>obtain⟨b,q,rfl,h'⟩:=h;exact⟨by simp only[AV.cells,Value.cells,DV,PV];exact⟨_,_,rfl,⟨_,_,rfl,h'⟩,rfl⟩,oC⟩
 case fn=>obtain⟨us,rfl,h'⟩:=h;exact⟨by simp only[AV.cells,Value.cells,DV,PV];exact⟨_,_,rfl,⟨_,rfl,h'⟩,rfl⟩,oC⟩
 case vm=>obtain⟨b,es,clk,rfl,h1,h2,h3,h4⟩:=h;exact⟨by simp only[AV.cells,Value.cells,DV];exact⟨_,_,rfl,by simp only[PV];exact⟨b,es,clk,rfl,h1,h2,h3,h4⟩,rfl⟩,oC⟩
 all_goals (subst h;exact⟨by simp[AV.cells,Value.cells,DV,PV],oC⟩)
theorem Fn{t z}(h:Program.zeroA P t=some z):∃i zv,P.info? t=some i/\i.zero=some zv/\zv.cells.size=i.size/\Qg zv=some z/\z.isTup=false:=by
 unfold Program.zeroA at h;split at h
 .rename_i i hi;split at h
  .rename_i zv hz;split at h
   .rename_i x hx;split at h
    .rename_i hc;cases h;exact⟨i,zv,hi,hz,hc.1,hx,hc.2⟩
    .cases h
   .cases h
  .cases h
 .cases h
theorem d_box{t x x'}(hS:SR E)(hf:FR E fr a.tmps)(ho:o.op=.box t x)(hx:C7 x=some x')(ht:(get fr x').isTup=false) :
  Ji P a o E (.ptr E.h.boxes.length 0) {E.h with boxes:=E.h.boxes++[(get fr x').cells]}:=by
 obtain⟨h1,h2⟩:=NM (C8 hf hx) ht;refine⟨_,.pointer (some ⟨E.w.heap.size,0,none⟩),E.newBox (a.eval x).cells t (get fr x').cells,?_,.inl rfl,Hj hS _ _ _,XN hS h1 h2,rfl,?_⟩
 .simp only[execOp,ho,Instr.box,newVar,newRow,Sem.run_bind,run_newObj,Result.andThen_ok,Sem.run_pure,World.alloc_eq,Env.newBox]
 .simp only[VR];exact⟨Rz rfl (NN h1),by simp only[Env.newBox,X5]⟩
theorem d_alloc{t z}(hS:SR E)(ho:o.op=.alloc t)(hz:Program.zeroA P t=some z) :
  Ji P a o E (.ptr E.h.boxes.length 0) {E.h with boxes:=E.h.boxes++[(Mz t z).cells]}:=by
 obtain⟨i,zv,h1,h2,h3,h4,h5⟩:=Fn hz;obtain⟨h6,h7⟩:=NM (E:=E) (CR _ _ (EF h4)) h5;have run:(execOp a.eval o).run P E.w=.ok (.value (.pointer (some ⟨E.w.heap.size,0,none⟩))) (E.w.alloc (.cells zv.cells t)):=by
  simp only[execOp,ho,Instr.alloc,newVar,newRow,zeroValue,typeInfo,run_program,Sem.run_bind,h1,h2,run_newObj,Result.andThen_ok,Sem.run_pure,World.alloc_eq]
 unfold Mz;split
 .refine⟨_,.pointer (some ⟨E.w.heap.size,0,none⟩),E.newBox zv.cells t [.tbox t z.cells],run,.inl rfl,Hj hS _ _ _,aO hS (fW h6) h7,rfl,?_⟩;simp only[VR];exact⟨Rz rfl rfl,by simp only[Env.newBox,X5]⟩
 .refine⟨_,.pointer (some ⟨E.w.heap.size,0,none⟩),E.newBox zv.cells t z.cells,run,.inl rfl,Hj hS _ _ _,XN hS h6 h7,rfl,?_⟩;simp only[VR];exact⟨Rz rfl (NN h6),by simp only[Env.newBox,X5]⟩
theorem nn{E}(h:SR E){p old}(ho:E.h.boxes[p]?=some old)(hh:CU old=true){us t cs ys}(hform:cs=ys\/cs=[.tbox t ys])(hv:i7 E ys us.toList)(h1:∀v∈us.toList,v.oneCell'=true) :
  ∃E',E'.w=E.w.alloc (.cells us t)/\E'.nb p=E.w.heap.size/\E'.h={E.h with boxes:=E.h.boxes.set p cs}/\Ext E E'/\SR E'/\E'.Live p:=by
 have Au:CU cs=false:=by rcases hform with rfl|rfl<;>first|exact NN hv|rfl
 have hnl:¬E.Live p:=λhl=>by rw[hl.ne ho]at hh;cases hh
 have hp:=(zf0z.1 ho).1
 let E':Env:={E with w:=E.w.alloc (.cells us t),nb:=upd E.nb p E.w.heap.size,h:={E.h with boxes:=E.h.boxes.set p cs}}
 have Eg:E'.Live p:=⟨cs,by show (E.h.boxes.set p cs)[p]?=_;rw[zf9z hp],Au⟩;have hun:∀i,E'.Live i->E.Live i\/i=p:=λi hi=>JN (E:=E) (E':=E') rfl hi;have hnb:∀i,E.Live i->E'.nb i=E.nb i:=λi hi=>Cu _ _ λe=>hnl (e ▸ hi);have CN:E'.nb p=E.w.heap.size:=X5 _ _ _;have hx:Ext E E':=by
  refine⟨λb o hb=>?_,by simp[E'],λi hi=>⟨Va (E:=E) (E':=E') rfl Au hi,hnb i hi⟩,zf3z _,λk f f' hf hf'=>?_,rfl,rfl,⟨(Below.refl _ _).alloc h.basele _,λ_=>zf3z _⟩⟩
  .have C2:=Vy h hb;refine⟨?_,LB (Below.heap_alloc _ _ _ C2)⟩;rcases hb with hb|⟨g1,_,g3,g4⟩
   .exact .inl hb
   .refine .inr ⟨g1,by simp[E'];omega,λi hi e=>?_,g4⟩;rcases hun i hi with BR|rfl
    .rw[hnb i BR]at e;obtain⟨cs',hcs'⟩:=g3 i BR e;have AS:p≠i:=λe'=>hnl (e' ▸ BR);exact⟨cs',by show (E.h.boxes.set p cs)[i]?=_;rw[zg1z AS];exact hcs'⟩
    .rw[CN]at e;omega
  .have:f=f':=by have:=hf.symm.trans hf';simpa using this
   subst this;exact⟨rfl,zf3z _,λ_=>rfl⟩
 refine⟨E',rfl,CN,rfl,hx,⟨Nat.le_trans h.basele (by simp[E']),λi cs' hi hh'=>?_,λk f hk=>?_,λi j hi hj he=>?_,h.injf,λi k hi hk=>?_⟩,Eg⟩
 .by_cases hn:p=i
  .subst hn;have:cs'=cs:=by
    have BR:=hi;rw[zf9z hp]at BR;simpa using BR.symm
   subst this;refine⟨by rw[CN];exact h.basele,?_⟩;rcases hform with rfl|rfl
   .exact .inl ⟨us,t,oN,EV hx _ _ hv,h1⟩
   .exact .inr (.inr (.inr ⟨t,ys,us,rfl,oN,EV hx _ _ (fW hv),h1⟩))
  .have BR:E.h.boxes[i]?=some cs':=by
    have BR:=hi
    rwa [zg1z hn]at BR
   have hl:=EY BR hh';exact(h.boxes i cs' BR hh').ext hx hl (Below.heap_alloc _ _ _ (h.nb_lt hl).2)
 .have Ef:=(zf0z.1 hk).1;exact(h.fams k f hk).ext hx rfl (Below.heap_alloc _ _ _ (h.im_lt Ef).2)
 .rcases hun i hi with BR|rfl<;>rcases hun j hj with hj' | rfl
  .rw[hnb i BR,hnb j hj']at he;exact h.inj i j BR hj' he
  .rw[hnb i BR,CN]at he;have:=(h.nb_lt BR).2;omega
  .rw[hnb j hj',CN]at he;have:=(h.nb_lt hj').2;omega
  .rfl
 .rcases hun i hi with BR|rfl
  .rw[hnb i BR];exact h.sep i k BR hk
  .rw[CN];have:=(h.im_lt hk).2;show E.w.heap.size≠(E.im k).b;omega
theorem ve{t z v r h'}(hS:SR E)(ho:o.op=.alloc t)(hz:Program.zeroA P t=some z)(E3:AW E.h r (Mz t z)=some (v,h')) :
  Ji P a o E v h':=by
 unfold AW at E3;split at E3
 case h_2=>cases E3
 rename_i cs Au;split at E3
 case isFalse=>cases E3
 rename_i hh;cases E3;obtain⟨i,zv,h1,h2,h3,h4,h5⟩:=Fn hz;obtain⟨h6,h7⟩:=NM (E:=E) (CR _ _ (EF h4)) h5;obtain⟨E',k1,k2,k3,k4,k5,k6⟩:=nn hS Au hh (t:=t) (cs:=(Mz t z).cells) (ys:=z.cells) (by unfold Mz;split<;>simp[AV.cells]) h6 h7;refine⟨_,.pointer (some ⟨E.w.heap.size,0,none⟩),E',?_,.inl rfl,k4,k5,k3,?_⟩
 .simp only[execOp,ho,Instr.alloc,newVar,newRow,zeroValue,typeInfo,run_program,Sem.run_bind,h1,h2,run_newObj,Result.andThen_ok,Sem.run_pure,World.alloc_eq,k1]
 .simp only[VR];exact⟨k6,by rw[k2]⟩
theorem Qz{t b q v cur t' w n}(hn:Program.size? P t=some n)(hg:w.heap[b]?=some (.cells cur t' (0,0)))(hv:v.cells.size=n)(P5:q+n<=cur.size)
  (h1:∀u∈v.cells.toList,u.oneCell'=true) :
  (storeVar t ⟨b,q,none⟩ v).run P w=.ok () (w.setRow b (cur.toList.take q++v.cells.toList++cur.toList.drop (q+n)).toArray):=by
 have X8:=run_storeCells_at P b q t' v.cells.toList 0 cur w hg f8 h1;simp only[zt7z,zf8z,hv]at X8;unfold storeVar;simp[GF hn,hv,X8]
theorem zH{t x y x' y' n b off cs}(hS:SR E)(hf:FR E fr a.tmps)(ho:o.op=.store t x y)(hn:Program.size? P t=some n)(hx:C7 x=some x')(hy:C7 y=some y')
  (hg:get fr x'=.ptr b off) (Au:E.h.boxes[b]?=some cs) (hmb:BE cs=false) (ht:(get fr y').isTup=false) (hl:(get fr y').cells.length=n) (P5:off+n<=cs.length) :
  Ji P a o E B9 {E.h with boxes:=E.h.boxes.set b (j8 cs off (get fr y').cells)}:=by
 have hv:=C8 hf hx;rw[hg]at hv;simp only[VR]at hv;obtain⟨hb,e⟩:=hv;obtain⟨h1,h2⟩:=NM (C8 hf hy) ht;have hb1:=(hS.boxes b cs Au (DC hmb)).1;obtain⟨cur,t',hc1,hc2,hc3⟩:=(hS.boxes b cs Au (DC hmb)).row hmb;have X9:(a.eval y).cells.size=n:=by have:=Hr h1;simp at this;omega
 have IN:cur.size=cs.length:=by have:=Hr hc2;simpa using this
 have hrun:=Qz (P:=P) (q:=off) hn hc1 X9 a_ h2;have Ki:=UE hc2 h1 off;rw[show (a.eval y).cells.toList.length=n from by simp[X9]]at Ki;refine⟨_,undef,E.setBox b (cur.toList.take off++(a.eval y).cells.toList++cur.toList.drop (off+n)).toArray (j8 cs off (get fr y').cells),?_,.inr ⟨rfl,rfl⟩,bH hS Au hmb _ _ (NN Ki),xY hS Au hmb Ki ?_,rfl,Ig _⟩
 .simp only[execOp,ho,Instr.storeAt,e,Instr.sureAddr,Sem.run_bind,Sem.run_pure,Result.andThen_ok,hrun];rfl
 .intro u hu;simp only[zg4z]at hu;rcases hu with (hu|hu)|hu
  .exact hc3 u (zg3z hu)
  .exact h2 u hu
  .exact hc3 u (zg2z hu)
theorem Hk{α:Type}{l:List α}{off vs}(P5:off+vs.length<=l.length)(j) :
  (l.take off++vs++l.drop (off+vs.length))[j]?=if j<off then l[j]? else if j<off+vs.length then vs[j-off]? else l[j]?:=by
 have hl:(l.take off).length=off:=by simp;omega
 by_cases h1:j<off
 .rw[if_pos h1,A2u,zf1z a_,zg9z,if_pos h1]
 .rw[if_neg h1];by_cases h2:j<off+vs.length
  .rw[if_pos h2,A2u,zf2z a_,hl,zf1z a_]
  .rw[if_neg h2,zf2z f8,zg8z];congr 1;simp;omega
theorem vk{t T x y x' y' n b off cs}(hS:SR E)(hf:FR E fr a.tmps)(ho:o.op=.store t x y)(hn:Program.size? P t=some n)(hx:C7 x=some x')(hy:C7 y=some y')
  (hg:get fr x'=.ptr b off) (Au:E.h.boxes[b]?=some [.tbox T cs]) (ht:(get fr y').isTup=false) (hl:(get fr y').cells.length=n) (P5:off+n<=cs.length) :
  Ji P a o E B9 {E.h with boxes:=E.h.boxes.set b [.tbox T (j8 cs off (get fr y').cells)]}:=by
 have hv:=C8 hf hx;rw[hg]at hv;simp only[VR]at hv;obtain⟨hb,e⟩:=hv;obtain⟨h1,h2⟩:=NM (C8 hf hy) ht;obtain⟨cur,hc1,hc2,hc3⟩:=(hS.boxes b _ Au rfl).typ;have X9:(a.eval y).cells.size=n:=by have:=Hr h1;simp at this;omega
 have IN:cs.length<=cur.size:=by have:=Hr hc2;simp at this;omega
 have hrun:=Qz (P:=P) (q:=off) hn hc1 X9 a_ h2;have Ki:=UE hc2 h1 off;rw[show (a.eval y).cells.toList.length=n from by simp[X9]]at Ki;have dv:(j8 cs off (get fr y').cells).length=cs.length:=by unfold j8;simp[hl];omega
 have hvl:(a.eval y).cells.toList.length=n:=by simp[X9]
 have hcut:(cur.toList.take cs.length).take off++(a.eval y).cells.toList++(cur.toList.take cs.length).drop (off+n)=(cur.toList.take off++(a.eval y).cells.toList++cur.toList.drop (off+n)).take (j8 cs off (get fr y').cells).length:=by
  have hto:(cur.toList.take off).length=off:=by rw[A2x];simp;omega
  rw[dv,List.take_append,zt0z,hto,hvl,List.take_of_length_le (l:=cur.toList.take off++(a.eval y).cells.toList) (by rw[zt0z,hto,hvl];exact P5),List.take_take,Nat.min_eq_left a_,List.drop_take]
 rw[hcut]at Ki;obtain⟨k1,k2⟩:=qW hS Au (us:=(cur.toList.take off++(a.eval y).cells.toList++cur.toList.drop (off+n)).toArray) Ki (by
  intro v hv;simp only[zg4z]at hv;rcases hv with (hv|hv)|hv
  .exact hc3 v (zg3z hv)
  .exact h2 v hv
  .exact hc3 v (zg2z hv))
 refine⟨_,undef,E.setBox b (cur.toList.take off++(a.eval y).cells.toList++cur.toList.drop (off+n)).toArray [.tbox T (j8 cs off (get fr y').cells)],?_,.inr ⟨rfl,rfl⟩,k2,k1,rfl,Ig _⟩;simp only[execOp,ho,Instr.storeAt,e,Instr.sureAddr,Sem.run_bind,Sem.run_pure,Result.andThen_ok,hrun];rfl
theorem zI{t x y x' y' n k m i c sz f el u z}(hS:SR E)(hf:FR E fr a.tmps)(ho:o.op=.store t x y)(hn:Program.size? P t=some n)(hx:C7 x=some x')(hy:C7 y=some y')
  (hg:get fr x'=.ep k m i c sz) (hfk:E.h.fams[k]?=some f) (hm:f.xs.length=m) (hmz:f.sz=sz) (hw:f.wr=true) (Ry:f.xs[i]?=some el) (hu:frz E.h false (get fr y')=some u)
  (hl:u.cells.length=n) (P5:c+n<=el.cells.length) (hzc:z.cells=j8 el.cells c u.cells) :
  Ji P a o E B9 {E.h with fams:=E.h.fams.set k {f with xs:=f.xs.set i z}}:=by
 have hv:=C8 hf hx;rw[hg]at hv;simp only[VR]at hv;obtain⟨b0,o0,f',e,hfk',_,had⟩:=hv;have:f'=f:=by rw[hfk]at hfk';simpa using hfk'.symm
 subst this;obtain⟨Uv,hbo⟩:=had ⟨hm,hmz⟩;rw[hbo]at e;have hF:=hS.fams k f' hfk;obtain⟨cur,t',c1,c2,c3⟩:=hF.cells;obtain⟨e1,e2⟩:=c3 i el Uv Ry;obtain⟨hPu,hut⟩:=NF hS (am:=false) (ok':=E.ok) ⟨λ_ _ h=>h,λh=>by cases h⟩ (C8 hf hy) hu;obtain⟨h1,h2⟩:=Rj hPu hut;obtain⟨hul,hug⟩:=Jl h1;have X9:(a.eval y).cells.size=n:=by simp at hul;omega
 have hi:=(zf0z.1 Ry).1;have Am:=hF.room;have V5:(E.im k).o+(i-(E.im k).lo)*f'.sz+f'.sz<=cur.size:=by
  have h3:(i-(E.im k).lo+1)*f'.sz<=(E.im k).cap*f'.sz:=zf4z _ a_;rw[zg6z]at h3;omega
 have hrun:=Qz (P:=P) (q:=(E.im k).o+(i-(E.im k).lo)*f'.sz+c) hn c1 X9 a_ h2;obtain⟨us,Wk⟩:∃us:Array Value,us=(cur.toList.take ((E.im k).o+(i-(E.im k).lo)*f'.sz+c)++(a.eval y).cells.toList++cur.toList.drop ((E.im k).o+(i-(E.im k).lo)*f'.sz+c+n)).toArray:=⟨_,rfl⟩;rw[←Wk]at hrun;have hget:∀j:Nat,us[j]?=if j<(E.im k).o+(i-(E.im k).lo)*f'.sz+c then cur[j]? else if j<(E.im k).o+(i-(E.im k).lo)*f'.sz+c+n then (a.eval y).cells[j-((E.im k).o+(i-(E.im k).lo)*f'.sz+c)]? else cur[j]?:=by
  intro j;have:=Hk (l:=cur.toList) (off:=(E.im k).o+(i-(E.im k).lo)*f'.sz+c) (vs:=(a.eval y).cells.toList) f8 j;simp only[zf8z,X9,zg0z]at this;rw[Wk,List.getElem?_toArray,this]
 have hussz:us.size=cur.size:=by rw[Wk];simp;omega
 refine⟨_,undef,E.setFam k us {f' with xs:=f'.xs.set i z},?_,.inr ⟨rfl,rfl⟩,
  Kt hS hfk c1 rfl rfl e_ (λh=>by rw[hw]at h;cases h),QU hS hfk c1 rfl rfl e_ (λh=>by rw[hw]at h;cases h) (by simpa using Am) hussz ?_,rfl,Ig _⟩
 .simp only[execOp,ho,Instr.storeAt,e,Instr.sureAddr,Sem.run_bind,Sem.run_pure,Result.andThen_ok,hrun];rfl
 .intro j x' hj hx';have hx'':=hx';by_cases hij:i=j
  .subst hij;rw[zf9z hi]at hx'';cases hx'';refine⟨by rw[hzc];simp[j8];omega,λq y' hq=>?_⟩;rw[hzc]at hq;unfold j8 at hq;rw[Hk a_]at hq;have hq':q<f'.sz:=by
    rcases A20 q f'.sz with h|h
    .exact h
    .rw[if_neg a_,if_neg a_,zt3z a_]at hq;cases hq
   rw[hget];by_cases hqc:q<c
   .rw[if_pos hqc]at hq;rw[if_pos a_];obtain⟨v,v1,v2,v3⟩:=e2 q y' hq;exact⟨v,by simpa using v1,v2,v3⟩
   .rw[if_neg hqc]at hq;by_cases hqn:q<c+u.cells.length
    .rw[if_pos hqn]at hq;rw[if_neg a_,if_pos a_];obtain⟨v,v1,v2⟩:=hug hq;refine⟨v,?_,h2 v (zg5z v1),v2⟩;rw[show (E.im k).o+(i-(E.im k).lo)*f'.sz+q-((E.im k).o+(i-(E.im k).lo)*f'.sz+c)=q-c from by omega];simpa using v1
    .rw[if_neg hqn]at hq;rw[if_neg a_,if_neg a_];obtain⟨v,v1,v2,v3⟩:=e2 q y' hq;exact⟨v,by simpa using v1,v2,v3⟩
  .rw[zg1z hij]at hx'';obtain⟨g1,g2⟩:=c3 j x' hj hx'';refine⟨g1,λq y' hq=>?_⟩;obtain⟨v,v1,v2,v3⟩:=g2 q y' hq;refine⟨v,?_,v2,v3⟩;have hqs:q<f'.sz:=by have:=(zf0z.1 hq).1;omega
   rw[hget];rcases zt8z (show j≠i from λe=>hij e.symm)with C2|hgt
   .have h3:(j-(E.im k).lo+1)*f'.sz<=(i-(E.im k).lo)*f'.sz:=zf4z _ a_;rw[zg6z]at h3;rw[if_pos a_];simpa using v1
   .have h3:(i-(E.im k).lo+1)*f'.sz<=(j-(E.im k).lo)*f'.sz:=zf4z _ a_;rw[zg6z]at h3;rw[if_neg a_,if_neg a_];simpa using v1
end
section
variable {E:Env} {P:Program} {fr:Fr} {a:Act} {o:Oper}
theorem kJ(off):∀(l:List Value) (k:Nat) (cells:Array Value),off+k+l.length<=cells.size ->
  ((l.zipIdx k).foldl (λcs (x:Value×Nat)=>cs.setIfInBounds (off+x.2) x.1) cells).toList=cells.toList.take (off+k)++l++cells.toList.drop (off+k+l.length)
 | [],k,cells,_=>by simp
 |v::l,k,cells,h=>by
  simp only[A2w]at h;simp only[List.zipIdx_cons,List.foldl_cons];rw[kJ off l (k+1) _ f8];have:=list_seg_step cells.toList (off+k) v l f8;simp only[Array.toList_setIfInBounds,A2w];rw[show off+(k+1)=off+k+1 from by omega];exact this
theorem dj{place cells i off size v rest}(hp:place i=some (off,size))(hs:v.cells.size=size)(P5:off+size<=cells.size) :
  Instr.fill place cells ((i,v)::rest)=Instr.fill place (cells.toList.take off++v.cells.toList++cells.toList.drop (off+size)).toArray rest:=by
 have h:=kJ off v.cells.toList 0 cells f8;simp only[zt7z,zf8z,hs]at h;have h2:(v.cells.zipIdx.foldl (λcs (x:Value×Nat)=>cs.setIfInBounds (off+x.2) x.1) cells)=(cells.toList.take off++v.cells.toList++cells.toList.drop (off+size)).toArray:=by
  apply Array.ext';rw[←h,←Array.foldl_toList];simp
 simp only[Instr.fill,hp,hs];rw[if_neg f8];exact congrArg (λc=>Instr.fill place c rest) h2
theorem Xq(hf:FR E fr a.tmps){fs places}(hpl:∀(j:Nat) (f:Field) (n:Nat),fs[j]?=some f->Program.size? P f.type=some n->places j=some (f.offset,n)) :
  ∀{parts:List (Nat×Operand)} {ps:List (Nat×Nat×Opd)} {qs:List (Nat×AV)} {cells:Array Value} {zs:List AV},IW (WO P fs) parts=some ps->B5 fr zs.length ps=some qs->i7 E zs cells.toList->(∀u∈cells.toList,u.oneCell'=true) ->
   ∃us,Instr.fill places cells (parts.map λp=>(p.1,a.eval p.2))=some us/\i7 E (C0 zs qs) us.toList/\∀u∈us.toList,u.oneCell'=true
 | [],ps,qs,cells,zs,hp,hq,hz,h1=>by
  simp[IW]at hp;subst hp;simp[B5]at hq;subst hq;exact⟨cells,rfl,hz,h1⟩
 |(i,x)::parts,ps,qs,cells,zs,hp,hq,hz,h1=>by
  simp only[IW]at hp;split at hp
  .rename_i y ys hy Uw;cases hp;obtain⟨off,n,x'⟩:=y;unfold WO at hy;split at hy
   .rename_i f xx hfi hxx;split at hy
    .rename_i n' hn';simp at hy;obtain⟨rfl,rfl,rfl⟩:=hy;simp only[B5]at hq;split at hq
     .rename_i hc;simp only[zf5z]at hq;obtain⟨qs',hqs',rfl⟩:=hq;obtain⟨g1,g2⟩:=NM (C8 hf hxx) hc.1;have X9:(a.eval x).cells.size=n':=by have:=Hr g1;simp at this;omega
      have IN:cells.size=zs.length:=by have:=Hr hz;simpa using this
      have hstep:=dj (place:=places) (cells:=cells) (rest:=parts.map λp=>(p.1,a.eval p.2)) (hpl i f n' hfi hn') X9 a_;have Ki:=UE hz g1 f.offset;rw[show (a.eval x).cells.toList.length=n' from by simp[X9]]at Ki;have D6:(j8 zs f.offset (get fr xx).cells).length=zs.length:=by simp[j8];omega
      obtain⟨us,k1,k2,k3⟩:=Xq hf hpl (cells:=(cells.toList.take f.offset++(a.eval x).cells.toList++cells.toList.drop (f.offset+n')).toArray) (zs:=j8 zs f.offset (get fr xx).cells) Uw (by rw[D6];exact hqs') (by simpa using Ki) (by
       intro u hu;simp only[zg4z]at hu;rcases hu with (hu|hu)|hu
       .exact h1 u (zg3z hu)
       .exact g2 u hu
       .exact h1 u (zg2z hu))
      refine⟨us,?_,?_,k3⟩
      .simp only[A2z];rw[hstep];exact k1
      .simpa[C0]using k2
     .cases hq
    .cases hy
   .cases hy
  .cases hp
theorem lF{α β:Type}{f}:∀{l:List α} {r:List β},l.mapM f=some r->∀{j:Nat} {x:α},l[j]?=some x->∃y,f x=some y/\r[j]?=some y
 | [],r,_,j,x,hx=>by simp at hx
 |b::l,r,h,j,x,hx=>by
  simp only[List.mapM_cons,Option.bind_eq_bind,Option.pure_def,Option.bind_eq_some_iff]at h;obtain⟨y,hy,ys,Uw,hr⟩:=h;cases hr;cases j with
  |zero=>simp at hx;subst hx;exact⟨y,hy,rfl⟩
  |succ j=>simpa using lF Uw (j:=j) (x:=x) (by simpa using hx)
theorem q_build{t parts fs zs ps qs}(hf:FR E fr a.tmps)(ho:o.op=.build t parts)(hu:P.underlying t=some (.struct fs))(hz:Program.zeroA P t=some (.agg zs))
  (hs:(fs.toList.mapM λf=>(P.info? f.type).map λi=>(f.offset,i.size)).isSome=true) (hp:IW (WO P fs) parts.toList=some ps) (hq:B5 fr zs.length ps=some qs):DT P a o E (.agg (C0 zs qs)):=by
 obtain⟨i,zv,h1,h2,h3,h4,h5⟩:=Fn hz;obtain⟨places,hpl⟩:=Option.isSome_iff_exists.1 hs;obtain⟨g1,g2⟩:=NM (E:=E) (CR _ _ (EF h4)) h5;obtain⟨us,k1,k2,k3⟩:=Xq (E:=E) (P:=P) hf (places:=λj=>places.toArray[j]?) (λj f n hj hn=>by
  obtain⟨y,hy,hy'⟩:=lF hpl (j:=j) (x:=f) k_;unfold Program.size? at hn;simp only[zf5z]at hn hy;obtain⟨i',BR,rfl⟩:=hn;obtain⟨i'',hi'',rfl⟩:=hy;rw[BR]at hi'';cases hi'';simpa using hy') hp hq g1 g2
 have hb:P.built t (parts.map λ(i,x)=>(i,a.eval x)).toList=some us:=by
  unfold Program.built;simp only[h1,hu,h2,hpl,Array.toList_map];exact k1
 refine⟨.agg us,?_,?_⟩
 .simp only[execOp,ho,Sem.run_bind,run_build E.w t _ us hb,Result.andThen_ok,Sem.run_pure]
 .simp only[VR];exact⟨us,rfl,k3,k2⟩
def IV(E:Env)(us:List Value)(xs:List AV)(sz:Nat):Prop :=
 ∀(i:Nat) (x:AV),xs[i]?=some x->x.cells.length=sz/\∀(c:Nat) (y:AV),x.cells[c]?=some y->∃v,us[i*sz+c]?=some v/\v.oneCell'=true/\PV E.w E.ok y v
theorem cr(z n i c)(hc:c<z.size)(hi:i<n):(madeCells z (n*z.size))[i*z.size+c]?=some z[c]:=by
 have C2:=DE hi hc;unfold madeCells;rw[zt6z,zt4z,if_pos C2];have:(i*z.size+c) % z.size=c:=by rw[Nat.add_comm,zt9z,Nat.add_mul_mod_self_left,Nat.mod_eq_of_lt hc]
 simp[this,getElem!_pos,hc]
theorem Pv{t z}(hz:Program.zeroA P t=some z){n i}(hi:P.info? t=some i)(V5:0<i.size):∃zv,i.zero=some zv/\z.cells.length=i.size/\zv.cells.size=i.size/\IV E (madeCells zv.cells (n*i.size)).toList (zf6z n z) i.size/\∀u∈(madeCells zv.cells (n*i.size)).toList,u.oneCell'=true:=by
 obtain⟨i',zv,h1,h2,h3,h4,h5⟩:=Fn hz;rw[hi]at h1;cases h1;have hpv:=EF (w:=E.w) (ok:=E.ok) h4;obtain⟨g1,g2⟩:=Rj hpv h5;obtain⟨gl,gg⟩:=Jl g1;have hl:z.cells.length=i.size:=by simp at gl;omega
 refine⟨zv,h2,hl,h3,λj x hx=>?_,λu hu=>?_⟩
 .rw[zt2z]at hx;split at hx
  .rename_i hj;cases hx;refine⟨hl,λc y hy=>?_⟩;have hc:c<zv.cells.size:=by have:=(zf0z.1 hy).1;omega
   obtain⟨v,v1,v2⟩:=gg hy;have:=cr zv.cells n j c hc hj;rw[h3]at this;refine⟨zv.cells[c],by rw[zg0z];exact this,g2 _ e_,?_⟩;have e:v=zv.cells[c]:=by
    rw[zg0z,Array.getElem?_eq_getElem hc]at v1;simpa using v1.symm
   rw[←e];exact v2
  .cases hx
 .obtain⟨j,hj⟩:=List.getElem?_of_mem hu;rw[zg0z]at hj;unfold madeCells at hj;rw[zt6z,zt4z]at hj;split at hj
  .simp at hj;have hm:j % zv.cells.size<zv.cells.size:=A21 _ a_;rw[getElem!_pos zv.cells _ hm]at hj;subst hj;exact g2 _ e_
  .simp at hj
theorem pq(hS:SR E){x y v}(hv:VR E x v)(h:(frz E.h false x).or (VX E.h x)=some y):PV E.w E.ok y v/\y.isTup=false:=by
 cases he:frz E.h false x with
 |some z =>
  rw[he]at h;cases h;obtain⟨h1,h2⟩:=NF hS (am:=false) (ok':=E.ok) ⟨λ_ _ h=>h,λh=>by cases h⟩ hv he;exact⟨h1,h2⟩
 |none =>
  rw[he,Option.none_or]at h;unfold VX at h;split at h
  .rename_i cs;cases h;simp only[VR]at hv;obtain⟨us,rfl,h1,hu⟩:=hv;obtain⟨hl,hg⟩:=EW hu;refine⟨?_,rfl⟩;simp only[PV];refine⟨us,rfl,h1,ZN (by rw[hl,List.length_map]) λj c u hc' hu'=>?_⟩;rw[zt1z,zf5z]at hc';obtain⟨c0,hc0,rfl⟩:=hc';obtain⟨u',h3,h4⟩:=hg hc0;have:u'=u:=by rw[hu']at h3;simpa using h3.symm
   subst this;cases hz:Cr E.h false c0 with
   |some z=>exact(UL hS ⟨λ_ _ h=>h,λh=>by cases h⟩ h4 hz).1
   |none =>
    simp only[Option.getD_none,PV];exact h1 _ (zg5z hu')
  .cases h
theorem YS(hS:SR E)(hf:FR E fr a.tmps){sz}(V5:0<sz) :
  ∀{parts:List (Nat×Operand)} {ps:List (Nat×Opd)} {xs ys:List AV} {cells:Array Value},IW WN parts=some ps->A9 fr E.h xs ps=some ys->IV E cells.toList xs sz->cells.size=xs.length*sz->(∀u∈cells.toList,u.oneCell'=true) ->
   ∃us,Instr.fill (λi=>some (i*sz,sz)) cells (parts.map λp=>(p.1,a.eval p.2))=some us/\IV E us.toList ys sz/\us.size=ys.length*sz/\ys.length=xs.length
 | [],ps,xs,ys,cells,hp,hq,hr,hs,_=>by
  simp[IW]at hp;subst hp;simp[A9]at hq;subst hq;exact⟨cells,rfl,hr,hs,rfl⟩
 |(i,x)::parts,ps,xs,ys,cells,hp,hq,hr,hs,h1=>by
  simp only[IW]at hp;split at hp
  .rename_i y yr hy hyr;cases hp;unfold WN at hy;simp only[zf5z]at hy;obtain⟨x',hx',rfl⟩:=hy;simp only[A9]at hq;split at hq
   .rename_i z y hz hyy;split at hq
    .rename_i hc;obtain⟨hPu,hut⟩:=pq hS (C8 hf hx') hyy;obtain⟨g1,g2⟩:=Rj hPu hut;obtain⟨gl,gg⟩:=Jl g1;obtain⟨r1,r2⟩:=hr i z hz;have hi:i<xs.length:=(zf0z.1 hz).1;have X9:(a.eval x).cells.size=sz:=by simp at gl;omega
     have P5:i*sz+sz<=cells.size:=by
      have:(i+1)*sz<=xs.length*sz:=zf4z _ hi;rw[zg6z]at this;omega
     have hstep:=dj (place:=λi=>some (i*sz,sz)) (cells:=cells) (i:=i) (rest:=parts.map λp=>(p.1,a.eval p.2)) rfl X9 P5;have hget:=λj=>Hk (l:=cells.toList) (off:=i*sz) (vs:=(a.eval x).cells.toList) f8 j;simp only[zf8z,X9]at hget;obtain⟨us,k1,k2,k3,k4⟩:=YS hS hf V5 (parts:=parts) (xs:=xs.set i y) (cells:=(cells.toList.take (i*sz)++(a.eval x).cells.toList++cells.toList.drop (i*sz+sz)).toArray) hyr hq (λj w hw=>by
      by_cases hij:i=j
      .subst hij;rw[zf9z hi]at hw;cases hw;refine⟨a_,λc q hq'=>?_⟩;obtain⟨v,v1,v2⟩:=gg hq';have Au:c<sz:=by have:=(zf0z.1 hq').1;omega
       refine⟨v,?_,g2 v (zg5z v1),v2⟩;show (A23 _ _++_++A22 _ _)[_]?=some v;rw[hget,if_neg a_,if_pos a_,show i*sz+c-i*sz=c from by omega];exact v1
      .rw[zg1z hij]at hw;obtain⟨s1,s2⟩:=hr j w hw;refine⟨s1,λc q hq'=>?_⟩;obtain⟨v,v1,v2,v3⟩:=s2 c q hq';refine⟨v,?_,v2,v3⟩;have Au:c<sz:=by have:=(zf0z.1 hq').1;omega
       show (A23 _ _++_++A22 _ _)[_]?=some v;rw[hget];rcases zt8z (show j≠i from λe=>hij e.symm)with C2|hgt
       .have:=DE C2 Au;rw[if_pos this];exact v1
       .have h3:(i+1)*sz<=j*sz:=zf4z _ hgt;rw[zg6z]at h3;rw[if_neg a_,if_neg a_];exact v1) (by
       simp only[List.size_toArray,zt0z,A2x,List.length_drop,zf8z,X9,List.length_set];omega) (by
       intro u hu;simp only[zg4z]at hu;rcases hu with (hu|hu)|hu
       .exact h1 u (zg3z hu)
       .exact g2 u hu
       .exact h1 u (zg2z hu))
     exact⟨us,by simp only[A2z];rw[hstep];exact k1,k2,k3,by simpa using k4⟩
    .cases hq
   .cases hq
  .cases hp
theorem kN(hS:SR E){us e xs sz}(V5:0<sz)(hr:IV E us.toList xs sz)(hm:xs.length<=maxLen) :
  PV (E.w.alloc (.cells us e)) ({E with w:=E.w.alloc (.cells us e)}:Env).ok (.vs true sz xs) (.slice (some ⟨E.w.heap.size,0,none⟩) xs.length xs.length):=by
 have hb:Bl E.w.heap.size E.w (E.w.alloc (.cells us e)):=⟨(Below.refl _ _).alloc (zf3z _) _,λ_=>zf3z _⟩;have hx:=Bi hS hb;simp only[PV];refine⟨_,_,_,rfl,rfl,zf3z _,hm,λ_=>rfl,⟨(λh=>nomatch h),⟨(λh=>nomatch h),λe=>absurd V5 a_⟩⟩,λ_=>⟨_,_,rfl,V5,VC λj x hj=>?_⟩⟩;obtain⟨r1,r2⟩:=hr j x hj;refine⟨r1,NB λc y hc=>?_⟩;obtain⟨v,v1,v2,v3⟩:=r2 c y hc;refine⟨v,?_,?_,v2,BS hx.cells _ _ v3⟩
 .refine .inr ⟨hS.basele,e_,λi hi=>?_,λk f hk he=>?_⟩
  .have:=(hS.nb_lt hi).2;intro e;have e':E.nb i=E.w.heap.size:=e;omega
  .have:=(hS.im_lt (zf0z.1 hk).1).2;have he':(E.im k).b=E.w.heap.size:=he;omega
 .rw[Nat.zero_add,cell_of_row _ _ _ _ _ _ (heap_alloc_new _ _)];simpa using v1
theorem zF{t e len parts z n ps xs}(hS:SR E)(hf:FR E fr a.tmps)(ho:o.op=.buildSlice t len parts)(hu:P.underlying t=some (.slice e))(hz:Program.zeroA P e=some z)(hn:Program.size? P e=some n)
  (V5:0<n) (hlim:len*n<=2 ^ 24) (hp:IW WN parts.toList=some ps) (hq:A9 fr E.h (zf6z len z) ps=some xs):Ji P a o E (.vs true z.cells.length xs) E.h:=by
 have hn':=hn;unfold Program.size? at hn';simp only[zf5z]at hn';obtain⟨i,hi,rfl⟩:=hn';obtain⟨zv,h2,hl,h3,hr,h1⟩:=Pv (E:=E) hz (n:=len) hi V5;obtain⟨us,k1,k2,k3,k4⟩:=YS hS hf V5 hp hq hr (by simp[madeCells]) h1;have D6:xs.length=len:=by simpa using k4
 have hmax:xs.length<=maxLen:=by
  have:len*1<=len*i.size:=Nat.mul_le_mul_left _ V5;rw[D6];unfold maxLen;omega
 have hpv:=kN (e:=e) hS V5 k2 hmax;have hb:Bl E.w.heap.size E.w (E.w.alloc (.cells us e)):=⟨(Below.refl _ _).alloc (zf3z _) _,λ_=>zf3z _⟩;rw[hl];refine⟨_,.slice (some ⟨E.w.heap.size,0,none⟩) xs.length xs.length,{E with w:=E.w.alloc (.cells us e)},?_,.inl rfl,Bi hS hb,FO hS hb,rfl,?_⟩
 .have Td:(sizeOf e).run P E.w=.ok i.size E.w:=GF hn _;by_cases h0:len*i.size=0
  .have hc0:madeCells zv.cells (len*i.size)=#[]:=by simp[h0,madeCells]
   rw[hc0]at k1;simp[execOp,ho,Instr.buildSlice,R5 hu,Td,h0,newRow,D6,Array.range_zero',k1]
  .simp[execOp,ho,Instr.buildSlice,R5 hu,Td,h0,show ¬(16777216<len*i.size) from by omega,zeroValue,typeInfo,hi,h2,newRow,D6];unfold madeCells at k1;simp[k1]
 .simp only[VR];exact hpv
end
section
variable {E:Env} {P:Program} {fr:Fr} {a:Act} {o:Oper}
theorem UC{us xs sz}(h:IV E us.toList xs sz)(i x)(hx:xs[i]?=some x):TT E us (i*sz) sz x:=by
 obtain⟨h1,h2⟩:=h i x hx;exact⟨h1,λc y hc=>by obtain⟨v,v1,v2,v3⟩:=h2 c y hc;exact⟨v,by simpa using v1,v2,v3⟩⟩
theorem vj{t e l c l' c' z i k1 k2 x y}(hS:SR E)(hf:FR E fr a.tmps)(ho:o.op=.makeSlice t l c)(hu:P.underlying t=some (.slice e))(hi:P.info? e=some i)(hz:Program.zeroA P e=some z)
  (V5:0<i.size) (hl:C7 l=some l') (hc:C7 c=some c') (hx:get fr l'=.int k1 x) (hy:get fr c'=.int k2 y) (h0:0<=x) (hxy:x<=y) (hb:y*i.bytes<=K7) (hm:y<=maxLen) :
  Ji P a o E (.sl E.h.fams.length x.toNat 0 x.toNat) {E.h with fams:=E.h.fams++[⟨zf6z x.toNat z,z.cells.length,true⟩]}:=by
 have e1:=C8 hf hl;have e2:=C8 hf hc;rw[hx]at e1;rw[hy]at e2;simp only[VR]at e1 e2;obtain⟨zv,h2,cM,h3,hr,h1⟩:=Pv (E:=E) hz (n:=y.toNat) hi V5;have hrun:=run_make (P:=P) E.w t e i zv hu hi h2 k1 k2 x y h0 hxy (by rw[Int.mul_comm];unfold K7 at hb;omega) (by unfold maxLen at hm;omega);have D6:(zf6z x.toNat z).length=x.toNat:=by simp
 have Ry:∀(j:Nat) (w:AV),(zf6z x.toNat z)[j]?=some w->TT E (madeCells zv.cells (y.toNat*i.size)) (j*z.cells.length) z.cells.length w:=by
  intro j w hw;rw[cM];refine UC hr j w ?_;rw[zt2z]at hw ⊢;split at hw
  .rename_i hj;cases hw;rw[if_pos a_]
  .cases hw
 refine⟨_,.slice (some ⟨E.w.heap.size,0,none⟩) x.toNat y.toNat,E.newFam (madeCells zv.cells (y.toNat*i.size)) e y.toNat ⟨zf6z x.toNat z,z.cells.length,true⟩,?_,.inl rfl,JQ hS _ _ _ _,
  NI hS (by simpa[cM]using V5) f8 a_ (by simp[size_madeCells,cM]) Ry,rfl,?_⟩
 .simp only[execOp,ho,e1,e2,Sem.run_bind,hrun,Result.andThen_ok,Sem.run_pure,Env.newFam]
 .simp only[VR,Env.newFam,X5];refine⟨_,_,⟨zf6z x.toNat z,z.cells.length,true⟩,rfl,e_,⟨e_,λ_=>⟨_,_,rfl⟩⟩,λ_=>⟨Nat.zero_le _,e_,e_,(λh=>nomatch h),λ_=>by simp⟩⟩
theorem sE{n sz j}(X9:0<sz)(hj:j<n*sz):j / sz<n/\j % sz<sz/\j / sz*sz+j % sz=j :=
 ⟨Nat.div_lt_of_lt_mul (by rwa [zt9z]),A21 _ X9,by rw[zt9z];exact Nat.div_add_mod j sz⟩
def yS(E:Env)(b q sz:Nat)(ys:List AV):Prop :=
 ∀(i:Nat) (x:AV),ys[i]?=some x->x.cells.length=sz/\∀(c:Nat) (y:AV),x.cells[c]?=some y->∃v,E.w.cell? ⟨b,q+i*sz+c,none⟩=some v/\v.oneCell'=true/\PV E.w E.ok y v
theorem Ri{b q sz ys}(X9:0<sz)(h:yS E b q sz ys) :
  ∃news,news.length=ys.length*sz/\(∀(j:Nat) (u:Value),news[j]?=some u->E.w.cell? ((⟨b,q,none⟩:Addr).add j)=some u)/\(∀u∈news,u.oneCell'=true)/\IV E news ys sz:=by
 have hex:∀j,j<ys.length*sz->∃u,E.w.cell? ⟨b,q+j,none⟩=some u/\u.oneCell'=true/\∃y x,ys[j / sz]?=some x/\x.cells[j % sz]?=some y/\PV E.w E.ok y u:=by
  intro j hj;obtain⟨h1,h2,h3⟩:=sE X9 hj;obtain⟨g1,g2⟩:=h (j / sz) _ (zf7z h1);obtain⟨v,v1,v2,v3⟩:=g2 (j % sz) _ (zf7z a_);rw[show q+j / sz*sz+j % sz=q+j from by omega]at v1;exact⟨v,v1,v2,_,_,zf7z h1,zf7z _,v3⟩
 have hpick:∃g:Nat->Value,∀j,j<ys.length*sz->E.w.cell? ⟨b,q+j,none⟩=some (g j)/\(g j).oneCell'=true/\∃y x,ys[j / sz]?=some x/\x.cells[j % sz]?=some y/\PV E.w E.ok y (g j):=by
  refine⟨λj=>if hj:j<ys.length*sz then Classical.choose (hex j hj)else default,λj hj=>?_⟩
  simp only[hj,dif_pos];exact Classical.choose_spec (hex j hj)
 obtain⟨g,hg⟩:=hpick;refine⟨(List.range (ys.length*sz)).map g,e_,λj u hu=>?_,λu hu=>?_,λi x hx=>?_⟩
 .rw[zt1z]at hu;by_cases hj:j<ys.length*sz
  .rw[zt5z hj]at hu;simp at hu;subst hu;rw[Dl];exact(hg j hj).1
  .rw[zt3z k_]at hu;simp at hu
 .simp at hu;obtain⟨j,hj,rfl⟩:=hu;exact(hg j hj).2.1
 .obtain⟨g1,g2⟩:=h i x hx;refine⟨g1,λc y hc=>?_⟩;obtain⟨v,v1,v2,v3⟩:=g2 c y hc;have hi:=(zf0z.1 hx).1;have Au:c<sz:=by have:=(zf0z.1 hc).1;omega
  have C2:=DE hi Au;refine⟨v,?_,v2,v3⟩;rw[zt1z,zt5z C2];have:=(hg _ C2).1;rw[show q+(i*sz+c)=q+i*sz+c from by omega]at this;rw[this]at v1;simpa using v1
theorem Rq(hS:SR E){sz}(X9:0<sz){x v ys}(hv:VR E x v)(h:elems E.h sz x=some ys) :
  ∃ad c,v=.slice ad ys.length c/\(ad=none->ys.length=0)/\(ys≠[]->∃b q,ad=some ⟨b,q,none⟩/\yS E b q sz ys):=by
 unfold elems at h;split at h
 .rename_i full z xs;split at h
  .rename_i hz;cases h;simp only[VR,PV]at hv;obtain⟨ad,len,cap,rfl,rfl,h2,h3,h4,h5,h6⟩:=hv;refine⟨ad,cap,rfl,λhn=>by have:=h5.1 hn;omega,λAS=>?_⟩;obtain⟨b,q,rfl,_,hels⟩:=h6 AS;have:z=sz:=by
    rcases hz with hz|hz
    .exact hz
    .exact absurd (zg7z hz) AS
   subst this;refine⟨b,q,rfl,λi x hx=>?_⟩;obtain⟨p1,p2⟩:=NL hels hx;refine⟨p1,λc y hc=>?_⟩;obtain⟨u,_,u2,u3,u4⟩:=CM p2 hc;exact⟨u,u2,u3,u4⟩
  .cases h
 .rename_i k n off len;split at h
  .rename_i f hfk;split at h
   .rename_i hc;cases h;obtain⟨hn,hz,ho⟩:=hc;simp only[VR]at hv;obtain⟨ad,cap,f',rfl,hf',_,hcc⟩:=hv;have:f'=f:=by rw[hfk]at hf';simpa using hf'.symm
    subst this;obtain⟨l1,l2,l3,l4,l5⟩:=hcc hn;have hF:=hS.fams k f' hfk;have Am:=hF.room;have D6:((f'.xs.drop off).take len).length=len:=by simp;omega
    refine⟨ad,cap,by rw[D6],λh=>absurd h l4,λAS=>?_⟩;have V5:0<len:=by
     rcases Nat.eq_zero_or_pos len with h0|h0
     .subst h0;simp at AS
     .exact h0
    refine⟨_,_,l5 a_,λi x hx=>?_⟩;have hi:i<len:=by have:=(zf0z.1 hx).1;omega
    have hx':f'.xs[off+i]?=some x:=by
     rw[zg9z,if_pos hi,zg8z]at hx;exact hx
    obtain⟨cur,t,c1,c2,c3⟩:=hF.cells;obtain⟨e1,e2⟩:=c3 (off+i) x a_ hx';refine⟨a_,λc y hc=>?_⟩;obtain⟨u,u1,u2,u3⟩:=e2 c y hc;refine⟨u,?_,u2,u3⟩;rw[cell_of_row _ _ _ _ _ _ c1];rw[show (E.im k).o+(off-(E.im k).lo)*f'.sz+i*sz+c=(E.im k).o+(off+i-(E.im k).lo)*f'.sz+c from by
     rw[show off+i-(E.im k).lo=(off-(E.im k).lo)+i from by omega,A2v,hz];omega]
    exact u1
   .cases h
  .cases h
 .cases h
theorem Yk(t ty e i)(ht:P.underlying t=some (.slice e))(hi:P.info? e=some i)(base ad n c m)(hnc:n<=c)(w) :
  (Builtin.append_ #[t,t] ty #[.slice base n c,.slice ad 0 m]).run P w=.ok (.slice base n c) w:=by
 have hf:(Builtin.firstCells i.size 0 (.slice ad 0 m)).run P w=.ok #[] w:=by
  cases ad<;>simp[Builtin.firstCells,loadCells,loadCellsFrom]
 cases base<;>simp[Builtin.append_,run_underlying ht,sizeOf,typeInfo,hi,Builtin.lenOf,hnc,hf,storeCells]
theorem dJ(t ty e i)(ht:P.underlying t=some (.slice e))(hi:P.info? e=some i)
  (g q sLen sCap cur t' w) (hg:w.heap[g]?=some (.cells cur t' (0,0)))
  (a m c news) (hl:news.length=m*i.size) (hnews:∀j u,news[j]?=some u->w.cell? (a.add j)=some u) (h1:∀u∈news,u.oneCell'=true)
  (Am:sLen+m<=sCap) (P5:q+sLen*i.size+news.length<=cur.size) :
  (Builtin.append_ #[t,t] ty #[.slice (some ⟨g,q,none⟩) sLen sCap,.slice (some a) m c]).run P w =
   .ok (.slice (some ⟨g,q,none⟩) (sLen+m) sCap) (w.setRow g (cur.toList.take (q+sLen*i.size)++news++cur.toList.drop (q+sLen*i.size+news.length)).toArray):=by
 have hf:=run_firstCells_some (P:=P) w i.size m a m c news hl hnews;have X8:=run_storeCells_at P g (q+sLen*i.size) t' news 0 cur w hg (by simpa using P5) h1;simp only[zt7z]at X8;simp[Builtin.append_,run_underlying ht,sizeOf,typeInfo,hi,Builtin.lenOf,Am,hf,Dl,X8]
theorem Qh{B}(w):Bl B w w.drew:=⟨(Below.refl B w).drew,λ_=>Nat.le_succ _⟩
theorem LX{us vs xs ys sz}(h1:IV E us xs sz)(hl:us.length=xs.length*sz)(h2:IV E vs ys sz):IV E (us++vs) (xs++ys) sz:=by
 intro i x hx;by_cases hi:i<xs.length
 .rw[zf1z hi]at hx;obtain⟨g1,g2⟩:=h1 i x hx;refine⟨g1,λc y hc=>?_⟩;obtain⟨v,v1,v2⟩:=g2 c y hc;exact⟨v,by rw[zf1z (zf0z.1 v1).1];exact v1,v2⟩
 .rw[zf2z a_]at hx;obtain⟨g1,g2⟩:=h2 _ x hx;refine⟨g1,λc y hc=>?_⟩;obtain⟨v,v1,v2⟩:=g2 c y hc;refine⟨v,?_,v2⟩;have:xs.length*sz<=i*sz:=zf4z _ a_;rw[zf2z a_,hl,show i*sz+c-xs.length*sz=(i-xs.length)*sz+c from by rw[Nat.sub_mul];omega];exact v1
theorem vK{us vs xs sz}(h1:IV E us xs sz):IV E (us++vs) xs sz:=by
 intro i x hx;obtain⟨g1,g2⟩:=h1 i x hx;refine⟨g1,λc y hc=>?_⟩;obtain⟨v,v1,v2⟩:=g2 c y hc;exact⟨v,by rw[zf1z (zf0z.1 v1).1];exact v1,v2⟩
theorem Rk{E'}(h:Ext E E'){us xs sz}(h1:IV E us xs sz):IV E' us xs sz:=by
 intro i x hx;obtain⟨g1,g2⟩:=h1 i x hx;refine⟨g1,λc y hc=>?_⟩;obtain⟨v,v1,v2,v3⟩:=g2 c y hc;exact⟨v,v1,v2,BS h.cells _ _ v3⟩
end
end Go.Abs
