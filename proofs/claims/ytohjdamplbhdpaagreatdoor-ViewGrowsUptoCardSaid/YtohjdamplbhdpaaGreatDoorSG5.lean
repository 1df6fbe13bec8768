/- A part of the proof. -/
import Derived.Test.YtohjdamplbhdpaaGreatDoorSG4
set_option linter.all false
open List renaming getElem?_eq_some_iff->xk,getElem?_append_left->xl,getElem?_append_right->xm,eq_nil_of_length_eq_zero->xo,replicate->xp,getElem?_eq_getElem->xq,length_append->xz,getElem?_replicate->yA,mem_of_mem_drop->yC,mem_of_mem_take->yD,map_cons->yE,getElem?_range->yF,getElem?_drop->yH,getElem?_take->yI,getElem?_map->yL,size_toArray->yM,length_cons->yN,mem_append->yO,drop->yT,take->yU
open Nat renaming mul_le_mul_right->xn,add_mul->xu,le_refl->xw,eq_zero_or_pos->yJ,mul_comm->yK,add_zero->yP,succ_mul->yQ,zero_le->yR,mod_lt->yS
open Option renaming map_eq_some_iff->xr
open Array renaming getElem?_toList->xt,length_toList->xy,getElem?_range->yB,getElem?_map->yG
namespace Go.Abs
open Go.RowKit (Below)
section
variable {E:Env} {P:Program} {fr:Fr} {a:Act} {o:Oper}
theorem XC (off:Nat):∀(l:List Value) (k:Nat) (cells:Array Value),off+k+l.length<=cells.size ->
  ((l.zipIdx k).foldl (λcs (x:Value×Nat)=>cs.setIfInBounds (off+x.2) x.1) cells).toList=cells.toList.take (off+k)++l++cells.toList.drop (off+k+l.length)
 | [],k,cells,_=>by simp
 |v::l,k,cells,h=>by
  simp only[yN]at h;simp only[List.zipIdx_cons,List.foldl_cons];rw[XC off l (k+1) _ (by simp;omega)];have:=list_seg_step cells.toList (off+k) v l (by simp;omega);simp only[Array.toList_setIfInBounds,yN];rw[show off+(k+1)=off+k+1 from by omega];exact this
theorem UB {place:Nat->Option (Nat×Nat)} {cells:Array Value} {i off size:Nat} {v:Value} {rest:List (Nat×Value)} (hp:place i=some (off,size)) (hs:v.cells.size=size) (BU:off+size<=cells.size) :
  Instr.fill place cells ((i,v)::rest)=Instr.fill place (cells.toList.take off++v.cells.toList++cells.toList.drop (off+size)).toArray rest:=by
 have h:=XC off v.cells.toList 0 cells (by simp;omega);simp only[yP,xy,hs]at h;have h2:(v.cells.zipIdx.foldl (λcs (x:Value×Nat)=>cs.setIfInBounds (off+x.2) x.1) cells)=(cells.toList.take off++v.cells.toList++cells.toList.drop (off+size)).toArray:=by
  apply Array.ext';rw[←h,←Array.foldl_toList];simp
 simp only[Instr.fill,hp,hs];rw[if_neg (by simp;omega)];exact congrArg (λc=>Instr.fill place c rest) h2
theorem QO (hf:FR E fr a.tmps) {fs:Array Field} {places:Nat->Option (Nat×Nat)} (hpl:∀(j:Nat) (f:Field) (n:Nat),fs[j]?=some f->Program.size? P f.type=some n->places j=some (f.offset,n)) :
  ∀{parts:List (Nat×Operand)} {ps:List (Nat×Nat×Opd)} {qs:List (Nat×AV)} {cells:Array Value} {zs:List AV},GZ (RL P fs) parts=some ps->D2 fr zs.length ps=some qs->x6 E zs cells.toList->(∀u∈cells.toList,u.oneCell'=true) ->
   ∃us,Instr.fill places cells (parts.map λp=>(p.1,a.eval p.2))=some us/\x6 E (E8 zs qs) us.toList/\∀u∈us.toList,u.oneCell'=true
 | [],ps,qs,cells,zs,hp,hq,hz,h1=>by
  simp[GZ]at hp;subst hp;simp[D2]at hq;subst hq;exact⟨cells,rfl,hz,h1⟩
 |(i,x)::parts,ps,qs,cells,zs,hp,hq,hz,h1=>by
  simp only[GZ]at hp;split at hp
  .rename_i y ys hy OQ;cases hp;obtain⟨off,n,x'⟩:=y;unfold RL at hy;split at hy
   .rename_i f xx hfi fD;split at hy
    .rename_i n' hn';simp at hy;obtain⟨rfl,rfl,rfl⟩:=hy;simp only[D2]at hq;split at hq
     .rename_i hc;simp only[xr]at hq;obtain⟨qs',hqs',rfl⟩:=hq;obtain⟨g1,g2⟩:=Ly (C6 hf fD) hc.1;have K4:(a.eval x).cells.size=n':=by have:=FW g1;simp at this;omega
      have Cc:cells.size=zs.length:=by have:=FW hz;simpa using this
      have hstep:=UB (place:=places) (cells:=cells) (rest:=parts.map λp=>(p.1,a.eval p.2)) (hpl i f n' hfi hn') K4 (by omega);have Lg:=RX hz g1 f.offset;rw[show (a.eval x).cells.toList.length=n' from by simp[K4]]at Lg;have C2:(I9 zs f.offset (get fr xx).cells).length=zs.length:=by simp[I9];omega
      obtain⟨us,k1,k2,k3⟩:=QO hf hpl (cells:=(cells.toList.take f.offset++(a.eval x).cells.toList++cells.toList.drop (f.offset+n')).toArray) (zs:=I9 zs f.offset (get fr xx).cells) OQ (by rw[C2];exact hqs') (by simpa using Lg) (by
       intro u hu;simp only[yO]at hu;rcases hu with (hu|hu)|hu
       .exact h1 u (yD hu)
       .exact g2 u hu
       .exact h1 u (yC hu))
      refine⟨us,?_,?_,k3⟩
      .simp only[yE];rw[hstep];exact k1
      .simpa[E8]using k2
     .cases hq
    .cases hy
   .cases hy
  .cases hp
theorem Xd {α β:Type} {f:α->Option β}:∀{l:List α} {r:List β},l.mapM f=some r->∀{j:Nat} {x:α},l[j]?=some x->∃y,f x=some y/\r[j]?=some y
 | [],r,_,j,x,hx=>by simp at hx
 |b::l,r,h,j,x,hx=>by
  simp only[List.mapM_cons,Option.bind_eq_bind,Option.pure_def,Option.bind_eq_some_iff]at h;obtain⟨y,hy,ys,OQ,hr⟩:=h;cases hr;cases j with
  |zero=>simp at hx;subst hx;exact⟨y,hy,rfl⟩
  |succ j=>simpa using Xd OQ (j:=j) (x:=x) (by simpa using hx)
theorem lD {t:TypeId} {parts:Array (Nat×Operand)} {fs:Array Field} {zs:E6} {ps:List (Nat×Nat×Opd)} {qs:List (Nat×AV)} (hf:FR E fr a.tmps) (ho:o.op=.build t parts) (hu:P.underlying t=some (.struct fs)) (hz:Program.zeroA P t=some (.agg zs))
  (hs:(fs.toList.mapM λf=>(P.info? f.type).map λi=>(f.offset,i.size)).isSome=true) (hp:GZ (RL P fs) parts.toList=some ps) (hq:D2 fr zs.length ps=some qs):Bd P a o E (.agg (E8 zs qs)):=by
 obtain⟨i,zv,h1,h2,h3,h4,h5⟩:=FH hz;obtain⟨places,hpl⟩:=Option.isSome_iff_exists.1 hs;obtain⟨g1,g2⟩:=Ly (E:=E) (Bk _ _ (Cq h4)) h5;obtain⟨us,k1,k2,k3⟩:=QO (E:=E) (P:=P) hf (places:=λj=>places.toArray[j]?) (λj f n hj hn=>by
  obtain⟨y,hy,hy'⟩:=Xd hpl (j:=j) (x:=f) (by simpa using hj);unfold Program.size? at hn;simp only[xr]at hn hy;obtain⟨i',BV,rfl⟩:=hn;obtain⟨i'',hi'',rfl⟩:=hy;rw[BV]at hi'';cases hi'';simpa using hy') hp hq g1 g2
 have hb:P.built t (parts.map λ(i,x)=>(i,a.eval x)).toList=some us:=by
  unfold Program.built;simp only[h1,hu,h2,hpl,Array.toList_map];exact k1
 refine⟨.agg us,?_,?_⟩
 .simp only[execOp,ho,Sem.run_bind,run_build E.w t _ us hb,Result.andThen_ok,Sem.run_pure]
 .simp only[VR];exact⟨us,rfl,k3,k2⟩
def GI (E:Env) (us:List Value) (xs:List AV) (sz:Nat):Prop :=
 ∀(i:Nat) (x:AV),xs[i]?=some x->x.cells.length=sz/\∀(c:Nat) (y:AV),x.cells[c]?=some y->∃v,us[i*sz+c]?=some v/\v.oneCell'=true/\PV E.w E.ok y v
theorem TQ (z:Array Value) (n:Nat) (i c:Nat) (hc:c<z.size) (hi:i<n):(madeCells z (n*z.size))[i*z.size+c]?=some z[c]:=by
 have A6:=BE hi hc;unfold madeCells;rw[yG,yB,if_pos A6];have:(i*z.size+c) % z.size=c:=by rw[Nat.add_comm,yK,Nat.add_mul_mod_self_left,Nat.mod_eq_of_lt hc]
 simp[this,getElem!_pos,hc]
theorem KK {t:TypeId} {z:AV} (hz:Program.zeroA P t=some z) {n:Nat} {i:TypeInfo} (hi:P.info? t=some i) (N7:0<i.size):∃zv,i.zero=some zv/\z.cells.length=i.size/\zv.cells.size=i.size/\GI E (madeCells zv.cells (n*i.size)).toList (xp n z) i.size/\∀u∈(madeCells zv.cells (n*i.size)).toList,u.oneCell'=true:=by
 obtain⟨i',zv,h1,h2,h3,h4,h5⟩:=FH hz;rw[hi]at h1;cases h1;have hpv:=Cq (w:=E.w) (ok:=E.ok) h4;obtain⟨g1,g2⟩:=Lv hpv h5;obtain⟨gl,gg⟩:=Ei g1;have hl:z.cells.length=i.size:=by simp at gl;omega
 refine⟨zv,h2,hl,h3,λj x hx=>?_,λu hu=>?_⟩
 .rw[yA]at hx;split at hx
  .rename_i hj;cases hx;refine⟨hl,λc y hy=>?_⟩;have hc:c<zv.cells.size:=by have:=(xk.1 hy).1;omega
   obtain⟨v,v1,v2⟩:=gg hy;have:=TQ zv.cells n j c hc hj;rw[h3]at this;refine⟨zv.cells[c],by rw[xt];exact this,g2 _ (by simp),?_⟩;have e:v=zv.cells[c]:=by
    rw[xt,Array.getElem?_eq_getElem hc]at v1;simpa using v1.symm
   rw[←e];exact v2
  .cases hx
 .obtain⟨j,hj⟩:=List.getElem?_of_mem hu;rw[xt]at hj;unfold madeCells at hj;rw[yG,yB]at hj;split at hj
  .simp at hj;have hm:j % zv.cells.size<zv.cells.size:=yS _ (by omega);rw[getElem!_pos zv.cells _ hm]at hj;subst hj;exact g2 _ (by simp)
  .simp at hj
theorem Ql (hS:SR E) (hf:FR E fr a.tmps) {sz:Nat} (N7:0<sz) :
  ∀{parts:List (Nat×Operand)} {ps:List (Nat×Opd)} {xs ys:List AV} {cells:Array Value},GZ RK parts=some ps->A4 fr E.h xs ps=some ys->GI E cells.toList xs sz->cells.size=xs.length*sz->(∀u∈cells.toList,u.oneCell'=true) ->
   ∃us,Instr.fill (λi=>some (i*sz,sz)) cells (parts.map λp=>(p.1,a.eval p.2))=some us/\GI E us.toList ys sz/\us.size=ys.length*sz/\ys.length=xs.length
 | [],ps,xs,ys,cells,hp,hq,hr,hs,_=>by
  simp[GZ]at hp;subst hp;simp[A4]at hq;subst hq;exact⟨cells,rfl,hr,hs,rfl⟩
 |(i,x)::parts,ps,xs,ys,cells,hp,hq,hr,hs,h1=>by
  simp only[GZ]at hp;split at hp
  .rename_i y yr hy hyr;cases hp;unfold RK at hy;simp only[xr]at hy;obtain⟨x',hx',rfl⟩:=hy;simp only[A4]at hq;split at hq
   .rename_i z y hz xf;split at hq
    .rename_i hc;obtain⟨hPu,hut⟩:=IC hS (am:=false) (ok':=E.ok) ⟨λ_ _ h=>h,λh=>by cases h⟩ (C6 hf hx') xf;obtain⟨g1,g2⟩:=Lv hPu hut;obtain⟨gl,gg⟩:=Ei g1;obtain⟨r1,r2⟩:=hr i z hz;have hi:i<xs.length:=(xk.1 hz).1;have K4:(a.eval x).cells.size=sz:=by simp at gl;omega
     have BU:i*sz+sz<=cells.size:=by
      have:(i+1)*sz<=xs.length*sz:=xn _ hi;rw[yQ]at this;omega
     have hstep:=UB (place:=λi=>some (i*sz,sz)) (cells:=cells) (i:=i) (rest:=parts.map λp=>(p.1,a.eval p.2)) rfl K4 BU;have hget:=λj=>Gh (l:=cells.toList) (off:=i*sz) (vs:=(a.eval x).cells.toList) (by simp;omega) j;simp only[xy,K4]at hget;obtain⟨us,k1,k2,k3,k4⟩:=Ql hS hf N7 (parts:=parts) (xs:=xs.set i y) (cells:=(cells.toList.take (i*sz)++(a.eval x).cells.toList++cells.toList.drop (i*sz+sz)).toArray) hyr hq (λj w hw=>by
      by_cases hij:i=j
      .subst hij;rw[List.getElem?_set_self hi]at hw;cases hw;refine⟨by omega,λc q hq'=>?_⟩;obtain⟨v,v1,v2⟩:=gg hq';have HM:c<sz:=by have:=(xk.1 hq').1;omega
       refine⟨v,?_,g2 v (List.mem_of_getElem? v1),v2⟩;show (yU _ _++_++yT _ _)[_]?=some v;rw[hget,if_neg (by omega),if_pos (by omega),show i*sz+c-i*sz=c from by omega];exact v1
      .rw[List.getElem?_set_ne hij]at hw;obtain⟨s1,s2⟩:=hr j w hw;refine⟨s1,λc q hq'=>?_⟩;obtain⟨v,v1,v2,v3⟩:=s2 c q hq';refine⟨v,?_,v2,v3⟩;have HM:c<sz:=by have:=(xk.1 hq').1;omega
       show (yU _ _++_++yT _ _)[_]?=some v;rw[hget];rcases Nat.lt_or_gt_of_ne (show j≠i from λe=>hij e.symm)with A6|hgt
       .have:=BE A6 HM;rw[if_pos this];exact v1
       .have h3:(i+1)*sz<=j*sz:=xn _ hgt;rw[yQ]at h3;rw[if_neg (by omega),if_neg (by omega)];exact v1) (by
       simp only[yM,xz,List.length_take,List.length_drop,xy,K4,List.length_set];omega) (by
       intro u hu;simp only[yO]at hu;rcases hu with (hu|hu)|hu
       .exact h1 u (yD hu)
       .exact g2 u hu
       .exact h1 u (yC hu))
     exact⟨us,by simp only[yE];rw[hstep];exact k1,k2,k3,by simpa using k4⟩
    .cases hq
   .cases hq
  .cases hp
theorem XD (hS:SR E) {us:Array Value} {e:TypeId} {xs:E6} {sz:Nat} (N7:0<sz) (hr:GI E us.toList xs sz) (hm:xs.length<=maxLen) :
  PV (E.w.alloc (.cells us e)) ({E with w:=E.w.alloc (.cells us e)}:Env).ok (.vs true sz xs) (.slice (some ⟨E.w.heap.size,0,none⟩) xs.length xs.length):=by
 have hb:Bl E.w.heap.size E.w (E.w.alloc (.cells us e)):=⟨(Below.refl _ _).alloc (xw _) _,xw _⟩;have hx:=AJ hS hb;simp only[PV];refine⟨_,_,_,rfl,rfl,xw _,hm,λ_=>rfl,⟨(λh=>nomatch h),⟨(λh=>nomatch h),λe=>absurd N7 (by omega)⟩⟩,λ_=>⟨_,_,rfl,N7,OY λj x hj=>?_⟩⟩;obtain⟨r1,r2⟩:=hr j x hj;refine⟨r1,IA λc y hc=>?_⟩;obtain⟨v,v1,v2,v3⟩:=r2 c y hc;refine⟨v,?_,?_,v2,Bi hx.cells _ _ v3⟩
 .refine .inr ⟨hS.basele,by simp,λi hi=>?_,λk f hk he=>?_⟩
  .have:=(hS.nb_lt hi).2;intro e;have e':E.nb i=E.w.heap.size:=e;omega
  .have:=(hS.im_lt (xk.1 hk).1).2;have he':(E.im k).b=E.w.heap.size:=he;omega
 .rw[Nat.zero_add,cell_of_row _ _ _ _ _ _ (heap_alloc_new _ _)];simpa using v1
theorem fi {t e:TypeId} {len:Nat} {parts:Array (Nat×Operand)} {z:AV} {n:Nat} {ps:List (Nat×Opd)} {xs:E6} (hS:SR E) (hf:FR E fr a.tmps) (ho:o.op=.buildSlice t len parts) (hu:P.underlying t=some (.slice e)) (hz:Program.zeroA P e=some z) (hn:Program.size? P e=some n)
  (N7:0<n) (hlim:len*n<=2 ^ 24) (hp:GZ RK parts.toList=some ps) (hq:A4 fr E.h (xp len z) ps=some xs):JZ P a o E (.vs true z.cells.length xs) E.h:=by
 have hn':=hn;unfold Program.size? at hn';simp only[xr]at hn';obtain⟨i,hi,rfl⟩:=hn';obtain⟨zv,h2,hl,h3,hr,h1⟩:=KK (E:=E) hz (n:=len) hi N7;obtain⟨us,k1,k2,k3,k4⟩:=Ql hS hf N7 hp hq hr (by simp[madeCells]) h1;have C2:xs.length=len:=by simpa using k4
 have hmax:xs.length<=maxLen:=by
  have:len*1<=len*i.size:=Nat.mul_le_mul_left _ N7;rw[C2];unfold maxLen;omega
 have hpv:=XD (e:=e) hS N7 k2 hmax;have hb:Bl E.w.heap.size E.w (E.w.alloc (.cells us e)):=⟨(Below.refl _ _).alloc (xw _) _,xw _⟩;rw[hl];refine⟨_,.slice (some ⟨E.w.heap.size,0,none⟩) xs.length xs.length,{E with w:=E.w.alloc (.cells us e)},?_,.inl rfl,AJ hS hb,Do hS hb,rfl,?_⟩
 .have UP:(sizeOf e).run P E.w=.ok i.size E.w:=Db hn _;by_cases h0:len*i.size=0
  .have hc0:madeCells zv.cells (len*i.size)=#[]:=by simp[h0,madeCells]
   rw[hc0]at k1;simp[execOp,ho,Instr.buildSlice,K2 hu,UP,h0,newRow,C2,Array.range_zero',k1]
  .simp[execOp,ho,Instr.buildSlice,K2 hu,UP,h0,show ¬(16777216<len*i.size) from by omega,zeroValue,typeInfo,hi,h2,newRow,C2];unfold madeCells at k1;simp[k1]
 .simp only[VR];exact hpv
end
section
variable {E:Env} {P:Program} {fr:Fr} {a:Act} {o:Oper}
theorem Np {us:Array Value} {xs:E6} {sz:Nat} (h:GI E us.toList xs sz) (i:Nat) (x:AV) (hx:xs[i]?=some x):JE E us (i*sz) sz x:=by
 obtain⟨h1,h2⟩:=h i x hx;exact⟨h1,λc y hc=>by obtain⟨v,v1,v2,v3⟩:=h2 c y hc;exact⟨v,by simpa using v1,v2,v3⟩⟩
theorem cn {t e:TypeId} {l c:Operand} {l' c':Opd} {z:AV} {i:TypeInfo} {k1 k2:IntKind} {x y:Int} (hS:SR E) (hf:FR E fr a.tmps) (ho:o.op=.makeSlice t l c) (hu:P.underlying t=some (.slice e)) (hi:P.info? e=some i) (hz:Program.zeroA P e=some z)
  (N7:0<i.size) (hl:C5 l=some l') (hc:C5 c=some c') (hx:get fr l'=.int k1 x) (hy:get fr c'=.int k2 y) (h0:0<=x) (hxy:x<=y) (hb:y*i.bytes<=G4) (hm:y<=maxLen) :
  JZ P a o E (.sl E.h.fams.length x.toNat 0 x.toNat) {E.h with fams:=E.h.fams++[⟨xp x.toNat z,z.cells.length,true⟩]}:=by
 have e1:=C6 hf hl;have e2:=C6 hf hc;rw[hx]at e1;rw[hy]at e2;simp only[VR]at e1 e2;obtain⟨zv,h2,XI,h3,hr,h1⟩:=KK (E:=E) hz (n:=y.toNat) hi N7;have hrun:=run_make (P:=P) E.w t e i zv hu hi h2 k1 k2 x y h0 hxy (by rw[Int.mul_comm];unfold G4 at hb;omega) (by unfold maxLen at hm;omega);have C2:(xp x.toNat z).length=x.toNat:=by simp
 have Pj:∀(j:Nat) (w:AV),(xp x.toNat z)[j]?=some w->JE E (madeCells zv.cells (y.toNat*i.size)) (j*z.cells.length) z.cells.length w:=by
  intro j w hw;rw[XI];refine Np hr j w ?_;rw[yA]at hw ⊢;split at hw
  .rename_i hj;cases hw;rw[if_pos (by omega)]
  .cases hw
 refine⟨_,.slice (some ⟨E.w.heap.size,0,none⟩) x.toNat y.toNat,E.newFam (madeCells zv.cells (y.toNat*i.size)) e y.toNat ⟨xp x.toNat z,z.cells.length,true⟩,?_,.inl rfl,Gc hS _ _ _ _,
  KN hS (by simpa[XI]using N7) (by simp;omega) (by omega) (by simp[size_madeCells,XI]) Pj,rfl,?_⟩
 .simp only[execOp,ho,e1,e2,Sem.run_bind,hrun,Result.andThen_ok,Sem.run_pure,Env.newFam]
 .simp only[VR,Env.newFam,X3];refine⟨_,_,⟨xp x.toNat z,z.cells.length,true⟩,rfl,by simp,⟨by simp,λ_=>⟨_,_,rfl⟩⟩,λ_=>⟨yR _,by simp,by simp,(λh=>nomatch h),λ_=>by simp⟩⟩
theorem ai {n sz j:Nat} (K4:0<sz) (hj:j<n*sz):j / sz<n/\j % sz<sz/\j / sz*sz+j % sz=j :=
 ⟨Nat.div_lt_of_lt_mul (by rwa [yK]),yS _ K4,by rw[yK];exact Nat.div_add_mod j sz⟩
def fM (E:Env) (b q sz:Nat) (ys:List AV):Prop :=
 ∀(i:Nat) (x:AV),ys[i]?=some x->x.cells.length=sz/\∀(c:Nat) (y:AV),x.cells[c]?=some y->∃v,E.w.cell? ⟨b,q+i*sz+c,none⟩=some v/\v.oneCell'=true/\PV E.w E.ok y v
theorem JF {b q sz:Nat} {ys:E6} (K4:0<sz) (h:fM E b q sz ys) :
  ∃news:List Value,news.length=ys.length*sz/\(∀(j:Nat) (u:Value),news[j]?=some u->E.w.cell? ((⟨b,q,none⟩:Addr).add j)=some u)/\(∀u∈news,u.oneCell'=true)/\GI E news ys sz:=by
 have hex:∀j,j<ys.length*sz->∃u,E.w.cell? ⟨b,q+j,none⟩=some u/\u.oneCell'=true/\∃y x,ys[j / sz]?=some x/\x.cells[j % sz]?=some y/\PV E.w E.ok y u:=by
  intro j hj;obtain⟨h1,h2,h3⟩:=ai K4 hj;obtain⟨g1,g2⟩:=h (j / sz) _ (xq h1);obtain⟨v,v1,v2,v3⟩:=g2 (j % sz) _ (xq (by omega));rw[show q+j / sz*sz+j % sz=q+j from by omega]at v1;exact⟨v,v1,v2,_,_,xq h1,xq _,v3⟩
 have hpick:∃g:Nat->Value,∀j,j<ys.length*sz->E.w.cell? ⟨b,q+j,none⟩=some (g j)/\(g j).oneCell'=true/\∃y x,ys[j / sz]?=some x/\x.cells[j % sz]?=some y/\PV E.w E.ok y (g j):=by
  refine⟨λj=>if hj:j<ys.length*sz then Classical.choose (hex j hj)else default,λj hj=>?_⟩
  simp only[hj,dif_pos];exact Classical.choose_spec (hex j hj)
 obtain⟨g,hg⟩:=hpick;refine⟨(List.range (ys.length*sz)).map g,by simp,λj u hu=>?_,λu hu=>?_,λi x hx=>?_⟩
 .rw[yL]at hu;by_cases hj:j<ys.length*sz
  .rw[yF hj]at hu;simp at hu;subst hu;rw[Bm];exact(hg j hj).1
  .rw[List.getElem?_eq_none (by simpa using hj)]at hu;simp at hu
 .simp at hu;obtain⟨j,hj,rfl⟩:=hu;exact(hg j hj).2.1
 .obtain⟨g1,g2⟩:=h i x hx;refine⟨g1,λc y hc=>?_⟩;obtain⟨v,v1,v2,v3⟩:=g2 c y hc;have hi:i<ys.length:=(xk.1 hx).1;have HM:c<sz:=by have:=(xk.1 hc).1;omega
  have A6:=BE hi HM;refine⟨v,?_,v2,v3⟩;rw[yL,yF A6];have:=(hg _ A6).1;rw[show q+(i*sz+c)=q+i*sz+c from by omega]at this;rw[this]at v1;simpa using v1
theorem HI (hS:SR E) {sz:Nat} (K4:0<sz) {x:AV} {v:Value} {ys:E6} (hv:VR E x v) (h:elems E.h sz x=some ys) :
  ∃ad c,v=.slice ad ys.length c/\(ad=none->ys.length=0)/\(ys≠[]->∃b q,ad=some ⟨b,q,none⟩/\fM E b q sz ys):=by
 unfold elems at h;split at h
 .rename_i full z xs;split at h
  .rename_i hz;cases h;simp only[VR,PV]at hv;obtain⟨ad,len,cap,rfl,rfl,h2,h3,h4,h5,h6⟩:=hv;refine⟨ad,cap,rfl,λhn=>by have:=h5.1 hn;omega,λM5=>?_⟩;obtain⟨b,q,rfl,_,hels⟩:=h6 M5;have:z=sz:=by
    rcases hz with hz|hz
    .exact hz
    .exact absurd (xo hz) M5
   subst this;refine⟨b,q,rfl,λi x hx=>?_⟩;obtain⟨p1,p2⟩:=Lu hels hx;refine⟨p1,λc y hc=>?_⟩;obtain⟨u,_,u2,u3,u4⟩:=GU p2 hc;exact⟨u,u2,u3,u4⟩
  .cases h
 .rename_i k n off len;split at h
  .rename_i f hfk;split at h
   .rename_i hc;cases h;obtain⟨hn,hz,ho⟩:=hc;simp only[VR]at hv;obtain⟨ad,cap,f',rfl,hf',_,hcc⟩:=hv;have:f'=f:=by rw[hfk]at hf';simpa using hf'.symm
    subst this;obtain⟨l1,l2,l3,l4,l5⟩:=hcc hn;have hF:=hS.fams k f' hfk;have t6:=hF.room;have C2:((f'.xs.drop off).take len).length=len:=by simp;omega
    refine⟨ad,cap,by rw[C2],λh=>absurd h l4,λM5=>?_⟩;have N7:0<len:=by
     rcases yJ len with h0|h0
     .subst h0;simp at M5
     .exact h0
    refine⟨_,_,l5 (by omega),λi x hx=>?_⟩;have hi:i<len:=by have:=(xk.1 hx).1;omega
    have hx':f'.xs[off+i]?=some x:=by
     rw[yI,if_pos hi,yH]at hx;exact hx
    obtain⟨cur,t,c1,c2,c3⟩:=hF.cells;obtain⟨e1,e2⟩:=c3 (off+i) x (by omega) hx';refine⟨by omega,λc y hc=>?_⟩;obtain⟨u,u1,u2,u3⟩:=e2 c y hc;refine⟨u,?_,u2,u3⟩;rw[cell_of_row _ _ _ _ _ _ c1];rw[show (E.im k).o+(off-(E.im k).lo)*f'.sz+i*sz+c=(E.im k).o+(off+i-(E.im k).lo)*f'.sz+c from by
     rw[show off+i-(E.im k).lo=(off-(E.im k).lo)+i from by omega,xu,hz];omega]
    exact u1
   .cases h
  .cases h
 .cases h
theorem Lj (t ty e:TypeId) (i:TypeInfo) (ht:P.underlying t=some (.slice e)) (hi:P.info? e=some i) (base ad:Option Addr) (n c m:Nat) (hnc:n<=c) (w:World) :
  (Builtin.append_ #[t,t] ty #[.slice base n c,.slice ad 0 m]).run P w=.ok (.slice base n c) w:=by
 have hf:(Builtin.firstCells i.size 0 (.slice ad 0 m)).run P w=.ok #[] w:=by
  cases ad<;>simp[Builtin.firstCells,loadCells,loadCellsFrom]
 cases base<;>simp[Builtin.append_,run_underlying ht,sizeOf,typeInfo,hi,Builtin.lenOf,hnc,hf,storeCells]
theorem Tc (t ty e:TypeId) (i:TypeInfo) (ht:P.underlying t=some (.slice e)) (hi:P.info? e=some i)
  (g q sLen sCap:Nat) (cur:Array Value) (t':TypeId) (w:World) (hg:w.heap[g]?=some (.cells cur t' (0,0)))
  (a:Addr) (m c:Nat) (news:List Value) (hl:news.length=m*i.size) (hnews:∀j u,news[j]?=some u->w.cell? (a.add j)=some u) (h1:∀u∈news,u.oneCell'=true)
  (t6:sLen+m<=sCap) (BU:q+sLen*i.size+news.length<=cur.size) :
  (Builtin.append_ #[t,t] ty #[.slice (some ⟨g,q,none⟩) sLen sCap,.slice (some a) m c]).run P w =
   .ok (.slice (some ⟨g,q,none⟩) (sLen+m) sCap) (w.setRow g (cur.toList.take (q+sLen*i.size)++news++cur.toList.drop (q+sLen*i.size+news.length)).toArray):=by
 have hf:=run_firstCells_some (P:=P) w i.size m a m c news hl hnews;have DH:=run_storeCells_at P g (q+sLen*i.size) t' news 0 cur w hg (by simpa using BU) h1;simp only[yP]at DH;simp[Builtin.append_,run_underlying ht,sizeOf,typeInfo,hi,Builtin.lenOf,t6,hf,Bm,DH]
theorem Nv {B:Nat} (w:World):Bl B w w.drew:=⟨(Below.refl B w).drew,Nat.le_succ _⟩
theorem JH {us vs:List Value} {xs ys:E6} {sz:Nat} (h1:GI E us xs sz) (hl:us.length=xs.length*sz) (h2:GI E vs ys sz):GI E (us++vs) (xs++ys) sz:=by
 intro i x hx;by_cases hi:i<xs.length
 .rw[xl hi]at hx;obtain⟨g1,g2⟩:=h1 i x hx;refine⟨g1,λc y hc=>?_⟩;obtain⟨v,v1,v2⟩:=g2 c y hc;exact⟨v,by rw[xl (xk.1 v1).1];exact v1,v2⟩
 .rw[xm (by omega)]at hx;obtain⟨g1,g2⟩:=h2 _ x hx;refine⟨g1,λc y hc=>?_⟩;obtain⟨v,v1,v2⟩:=g2 c y hc;refine⟨v,?_,v2⟩;have:xs.length*sz<=i*sz:=xn _ (by omega);rw[xm (by omega),hl,show i*sz+c-xs.length*sz=(i-xs.length)*sz+c from by rw[Nat.sub_mul];omega];exact v1
theorem cJ {us vs:List Value} {xs:E6} {sz:Nat} (h1:GI E us xs sz):GI E (us++vs) xs sz:=by
 intro i x hx;obtain⟨g1,g2⟩:=h1 i x hx;refine⟨g1,λc y hc=>?_⟩;obtain⟨v,v1,v2⟩:=g2 c y hc;exact⟨v,by rw[xl (xk.1 v1).1];exact v1,v2⟩
theorem Lx {E':Env} (h:Ext E E') {us:List Value} {xs:E6} {sz:Nat} (h1:GI E us xs sz):GI E' us xs sz:=by
 intro i x hx;obtain⟨g1,g2⟩:=h1 i x hx;refine⟨g1,λc y hc=>?_⟩;obtain⟨v,v1,v2,v3⟩:=g2 c y hc;exact⟨v,v1,v2,Bi h.cells _ _ v3⟩
end
section
variable {E:Env} {P:Program} {fr:Fr} {a:Act} {o:Oper}
theorem HJ {args:Array Operand} {ats:Array TypeId} {s x:Operand} {t:TypeId} (ho:o.op=.call {callee:=.builtin .append,args:=args,argTypes:=ats}) (h1:args.toList=[s,x]) (h2:ats.toList=[t,t]) {v:Value} {w w':World}
  (h:(Builtin.append_ #[t,t] o.type #[a.eval s,a.eval x]).run P w=.ok v w'):(execOp a.eval o).run P w=.ok (.value v) w':=by
 rw[VE h1,VE h2]at ho;simp only[execOp,ho,resolve,invoke,builtin,Sem.run_bind,Sem.run_pure,Result.andThen_ok,List.map_toArray,yE,List.map_nil,h]
theorem UM {us:List Value} {xs:E6} {sz n cap:Nat} (hr:GI E us xs sz) (hl:us.length=n*sz) (z:Array Value) (hz:z.size=sz) (hcap:n<=cap) :
  GI E (us.toArray++Builtin.zeroCells z (cap-n)).toList xs sz/\cap*sz<=(us.toArray++Builtin.zeroCells z (cap-n)).size:=by
 refine⟨?_,?_⟩
 .rw[Array.toList_append];exact cJ hr
 .rw[Array.size_append,size_zeroCells,hz,yM,hl,←xu];exact xn _ (by omega)
theorem Mj {t ty e:TypeId} {i:TypeInfo} {z:Value} (ht:P.underlying t=some (.slice e)) (hi:P.info? e=some i) (hz:i.zero=some z) (hzs:z.cells.size=i.size)
  {base:Option Addr} {n cap:Nat} {olds:List Value} {xs:List AV} (hb:base=none->cap=0) (hnc:n<=cap) (hold:olds.length=n*i.size) (rd:xs.length=n)
  (holds:∀b,base=some b->∀(j:Nat) (u:Value),olds[j]?=some u->E.w.cell? (b.add j)=some u) (hro:GI E olds xs i.size)
  {ad:Addr} {ys:List AV} {c:Nat} {news:List Value} (hl:news.length=ys.length*i.size) (hnews:∀(j:Nat) (u:Value),news[j]?=some u->E.w.cell? (ad.add j)=some u) (hrn:GI E news ys i.size)
  (hg:cap<n+ys.length) (hm:n+ys.length<=maxLen) (hbytes:(n+ys.length)*i.bytes<=G4) :
  ∃us newCap,(Builtin.append_ #[t,t] ty #[.slice base n cap,.slice (some ad) ys.length c]).run P E.w=.ok (.slice (some ⟨E.w.heap.size,0,none⟩) (n+ys.length) newCap) (E.w.drew.alloc (.cells us e)) /\
   n+ys.length<=newCap/\newCap<=maxLen/\newCap*i.size<=us.size/\GI E us.toList (xs++ys) i.size:=by
 have BU:=growslice_fits hg hbytes;have h63:((n+ys.length:Nat):Int)<=9223372036854775807:=by unfold maxLen at hm;omega
 refine⟨(olds++news).toArray++Builtin.zeroCells z.cells (grownCap E.w (n+ys.length) cap e-(n+ys.length)),grownCap E.w (n+ys.length) cap e,?_,grownCap_ge _ _ _ _,grownCap_le_maxLen _ _ _ _ hm,?_,?_⟩
 rotate_left 1
 .exact(UM (us:=olds++news) (xs:=xs++ys) (n:=n+ys.length) (JH hro (by rw[hold,rd]) hrn) (by rw[xz,hold,hl,xu]) z.cells hzs (grownCap_ge E.w _ cap e)).2
 .exact(UM (us:=olds++news) (xs:=xs++ys) (n:=n+ys.length) (JH hro (by rw[hold,rd]) hrn) (by rw[xz,hold,hl,xu]) z.cells hzs (grownCap_ge E.w _ cap e)).1
 .cases base with
  |none =>
   have hc:=hb rfl;subst hc;have hn0:n=0:=by omega
   subst hn0;have ho0:olds=[]:=xo (by simpa using hold);subst ho0;have:=run_append_nil (P:=P) E.w t ty e i z ht hi hz ad ys.length c news hl hnews (by omega) (by simpa using h63) (by simp at hbytes;unfold G4 at hbytes;omega);simpa using this
  |some b =>
   have:=run_append_grow (P:=P) E.w t ty e i z ht hi hz b n cap olds hold (holds b rfl) ad ys.length c news hl hnews hg h63 BU;rw[this];simp
theorem Wo (hS:SR E):Ext E {E with w:=E.w.drew}:=AJ hS (Nv _)
theorem aj (hS:SR E):SR {E with w:=E.w.drew}:=Do hS (Nv _)
theorem ZG {c:Ctx} {args:Array Operand} {ats:Array TypeId} {s x:Operand} {s' x':Opd} {t e:TypeId} {i:TypeInfo} {z:AV} {z0:Nat} {xs ys:E6} (hS:SR E) (hf:FR E fr a.tmps)
  (ho:o.op=.call {callee:=.builtin .append,args:=args,argTypes:=ats}) (h1:args.toList=[s,x]) (h2:ats.toList=[t,t]) (ht:P.underlying t=some (.slice e)) (hi:P.info? e=some i) (hz:Program.zeroA P e=some z) (N7:0<i.size)
  (hs:C5 s=some s') (hx:C5 x=some x') (hg:get fr s'=.vs true z0 xs) (OQ:elems E.h i.size (get fr x')=some ys) (M5:ys.length≠0) (hz0:z0=i.size\/xs.length=0)
  (hb:(xs.length+ys.length)*i.bytes<=G4) (hm:xs.length+ys.length<=maxLen) :
  JZ P a o E (.sl E.h.fams.length (xs.length+ys.length) 0 (xs.length+ys.length)) {E.h with fams:=E.h.fams++[⟨xs++ys,i.size,c.mutApp⟩]}:=by
 obtain⟨i',zv,q1,q2,q3,q4,q5⟩:=FH hz;rw[hi]at q1;cases q1;have e1:=C6 hf hs;rw[hg]at e1;simp only[VR,PV]at e1;obtain⟨base,len,cap,e2,rfl,e4,e5,e6,e7,e8⟩:=e1;have ecap:cap=xs.length:=e6 trivial;obtain⟨ad,cx,f1,f2,f3⟩:=HI hS N7 (C6 hf hx) OQ;obtain⟨b,q,rfl,f4⟩:=f3 (by intro h;subst h;simp at M5);obtain⟨news,n1,n2,_,n4⟩:=JF N7 f4;have hold:∃olds:List Value,olds.length=xs.length*i.size/\(∀b,base=some b->∀(j:Nat) (u:Value),olds[j]?=some u->E.w.cell? (b.add j)=some u)/\GI E olds xs i.size:=by
  by_cases hxe:xs=[]
  .subst hxe;exact⟨[],by simp,λb _ j u h=>by simp at h,λj x h=>by simp at h⟩
  .obtain⟨b',q',rfl,_,hels⟩:=e8 hxe;have:z0=i.size:=by
    rcases hz0 with h|h
    .exact h
    .exact absurd (xo h) hxe
   subst this;obtain⟨olds,o1,o2,_,o4⟩:=JF (E:=E) (b:=b') (q:=q') N7 (ys:=xs) (λj x hj=>by
    obtain⟨p1,p2⟩:=Lu hels hj;refine⟨p1,λc y hc=>?_⟩;obtain⟨u,_,u2,u3,u4⟩:=GU p2 hc;exact⟨u,u2,u3,u4⟩)
   exact⟨olds,o1,λb'' hb''=>by cases hb'';exact o2,o4⟩
 obtain⟨olds,o1,o2,o3⟩:=hold;obtain⟨us,newCap,r1,r2,r3,r4,r5⟩:=Mj (P:=P) (ty:=o.type) ht hi q2 q3 e7.1 e4 o1 rfl o2 o3 n1 n2 n4 (c:=cx) (by omega) hm hb;have hE1:=aj hS;have hx1:=Wo hS;refine⟨_,.slice (some ⟨E.w.heap.size,0,none⟩) (xs.length+ys.length) newCap,({E with w:=E.w.drew}:Env).newFam us e newCap ⟨xs++ys,i.size,c.mutApp⟩,?_,.inl rfl,hx1.trans (Gc hE1 _ _ _ _),
  KN hE1 N7 (by simpa using r2) r3 r4 (λj x hj=>Np (Lx hx1 r5) j x hj),rfl,?_⟩
 .refine HJ ho h1 h2 ?_;rw[e2,f1,r1];rfl
 .simp only[VR,Env.newFam,X3];exact⟨_,_,⟨xs++ys,i.size,c.mutApp⟩,rfl,by simp,⟨by simp,λ_=>⟨_,_,rfl⟩⟩,λ_=>⟨yR _,by simp,by simp,(λh=>nomatch h),λ_=>by simp⟩⟩
theorem Ck {α:Type} {l:List α} {k:Nat} {x:α} (h:l[k]?=some x):l.set k x=l:=by
 apply List.ext_getElem?;intro j;rw[List.getElem?_set];split
 .rename_i hj;subst hj;have:=(xk.1 h).1;rw[if_pos this];exact h.symm
 .rfl
theorem cl {args:Array Operand} {ats:Array TypeId} {s x:Operand} {s' x':Opd} {t e:TypeId} {i:TypeInfo} {z:AV} {k n off len:Nat} {f:Fam} {ys:E6} (hS:SR E) (hf:FR E fr a.tmps)
  (ho:o.op=.call {callee:=.builtin .append,args:=args,argTypes:=ats}) (h1:args.toList=[s,x]) (h2:ats.toList=[t,t]) (ht:P.underlying t=some (.slice e)) (hi:P.info? e=some i) (hz:Program.zeroA P e=some z) (N7:0<i.size)
  (hs:C5 s=some s') (hx:C5 x=some x') (hg:get fr s'=.sl k n off len) (OQ:elems E.h i.size (get fr x')=some ys) (hfk:E.h.fams[k]?=some f) (hn:f.xs.length=n) (K4:f.sz=i.size) (hoff:off+len=n)
  (hb:(n+ys.length)*i.bytes<=G4) (hm:n+ys.length<=maxLen) :
  JZ P a o E (.sl k (n+ys.length) off (len+ys.length)) {E.h with fams:=E.h.fams.set k {f with xs:=f.xs++ys}}:=by
 obtain⟨i',zv,q1,q2,q3,q4,q5⟩:=FH hz;rw[hi]at q1;cases q1;have e1:=C6 hf hs;rw[hg]at e1;have e1':=e1;simp only[VR]at e1;obtain⟨base,cap,f',e2,hf',e4,e5⟩:=e1;have:f'=f:=by rw[hfk]at hf';simpa using hf'.symm
 subst this;obtain⟨l1,l2,l3,l4,l5⟩:=e5 hn;have hF:=hS.fams k f' hfk;have t6:=hF.room;have CH:=(xk.1 hfk).1;obtain⟨ad,cx,f1,f2,f3⟩:=HI hS N7 (C6 hf hx) OQ;have hlencap:len<=cap:=by omega
 by_cases h0:ys=[]
 .subst h0;have IK:E.h.fams.set k {f' with xs:=f'.xs++[]}=E.h.fams:=Ck (by rw[List.append_nil];exact hfk)
  refine⟨_,.slice base len cap,E,HJ ho h1 h2 ?_,.inl rfl,Ext.refl E,hS,by rw[IK],by rw[e2]at e1';simpa using e1'⟩;rw[e2,f1];exact Lj t _ e i ht hi base ad len cap cx hlencap E.w
 have hylen:0<ys.length:=by
  rcases yJ ys.length with h|h
  .exact absurd (xo h) h0
  .exact h
 obtain⟨b,q,rfl,f4⟩:=f3 h0;obtain⟨news,n1,n2,n3,n4⟩:=JF N7 f4;by_cases Yt:len+ys.length<=cap
 ·-- there is room
  have hbase:=l5 (by omega);obtain⟨cur,t',c1,c2,c3⟩:=hF.cells;have hnl:off-(E.im k).lo+len=n-(E.im k).lo:=by omega
  have epos:(E.im k).o+(off-(E.im k).lo)*f'.sz+len*i.size=(E.im k).o+(n-(E.im k).lo)*f'.sz:=by
   rw[←hnl,xu,K4];omega
  have BU:(E.im k).o+(n-(E.im k).lo)*f'.sz+news.length<=cur.size:=by
   have h3:(n-(E.im k).lo+ys.length)*f'.sz<=(E.im k).cap*f'.sz:=xn _ (by omega);rw[xu]at h3;rw[n1,←K4];omega
  have hrun:=Tc (P:=P) t o.type e i ht hi (E.im k).b ((E.im k).o+(off-(E.im k).lo)*f'.sz) len cap cur t' E.w c1 ⟨b,q,none⟩ ys.length cx news n1 n2 n3 Yt (by rw[epos];exact BU);rw[epos]at hrun;obtain⟨us,Qq⟩:∃us:Array Value,us=(cur.toList.take ((E.im k).o+(n-(E.im k).lo)*f'.sz)++news++cur.toList.drop ((E.im k).o+(n-(E.im k).lo)*f'.sz+news.length)).toArray:=⟨_,rfl⟩;rw[←Qq]at hrun;have hget:∀j:Nat,us[j]?=if j<(E.im k).o+(n-(E.im k).lo)*f'.sz then cur[j]? else if j<(E.im k).o+(n-(E.im k).lo)*f'.sz+news.length then news[j-((E.im k).o+(n-(E.im k).lo)*f'.sz)]? else cur[j]?:=by
   intro j;have:=Gh (l:=cur.toList) (off:=(E.im k).o+(n-(E.im k).lo)*f'.sz) (vs:=news) (by simpa using BU) j;simp only[xt]at this;rw[Qq,List.getElem?_toArray,this]
  have hkeep:f'.wr=false->∀j,j<(E.im k).o+(f'.xs.length-(E.im k).lo)*f'.sz->us[j]?=cur[j]?:=by
   intro _ j hj;rw[hn]at hj;rw[hget,if_pos hj]
  refine⟨_,.slice base (len+ys.length) cap,E.setFam k us {f' with xs:=f'.xs++ys},HJ ho h1 h2 ?_,.inl rfl,Gf hS hfk c1 rfl rfl (by simp) hkeep,
   KT hS hfk c1 rfl rfl (by simp) hkeep (by simp;omega) (by rw[Qq];simp;omega) ?_,rfl,?_⟩
  .rw[e2,f1,hbase,hrun];rfl
  .intro j x' hj hx';have hx'':(f'.xs++ys)[j]?=some x':=hx';by_cases hjn:j<n
   .rw[xl (by omega)]at hx'';obtain⟨g1,g2⟩:=c3 j x' hj hx'';refine⟨g1,λc y hc=>?_⟩;obtain⟨v,v1,v2⟩:=g2 c y hc;have HM:c<f'.sz:=by have:=(xk.1 hc).1;omega
    have:=BE (show j-(E.im k).lo<n-(E.im k).lo by omega) HM;exact⟨v,by rw[hget,if_pos (by omega)];exact v1,v2⟩
   .rw[xm (by omega),hn]at hx'';obtain⟨g1,g2⟩:=n4 _ x' hx'';refine⟨by omega,λc y hc=>?_⟩;obtain⟨v,v1,v2⟩:=g2 c y hc;have HM:c<f'.sz:=by have:=(xk.1 hc).1;omega
    have hjy:j-n<ys.length:=by have:=(xk.1 hx'').1;omega
    have h5:=BE hjy HM;have ej:(j-(E.im k).lo)*f'.sz=(n-(E.im k).lo)*f'.sz+(j-n)*f'.sz:=by
     rw[←xu];congr 1;omega
    refine⟨v,?_,v2⟩;rw[hget,ej,if_neg (by omega),if_pos (by rw[n1,←K4];omega)];rw[show (E.im k).o+((n-(E.im k).lo)*f'.sz+(j-n)*f'.sz)+c-((E.im k).o+(n-(E.im k).lo)*f'.sz)=(j-n)*i.size+c from by rw[←K4];omega];exact v1
  .simp only[VR,Env.setFam];refine⟨base,cap,{f' with xs:=f'.xs++ys},rfl,by simp[CH],⟨by simp[hn],λ_=>?_⟩,λ_=>⟨l1,by omega,l3,l4,l5⟩⟩
   by_cases hc0:cap=0
   .exfalso;omega
   .exact⟨_,_,l5 hc0⟩
 ·-- there is none
  have hold:∃olds:List Value,olds.length=len*i.size/\(∀b,base=some b->∀(j:Nat) (u:Value),olds[j]?=some u->E.w.cell? (b.add j)=some u)/\GI E olds ((f'.xs.drop off).take len) i.size:=by
   have hll:((f'.xs.drop off).take len).length=len:=by simp;omega
   by_cases hl0:len=0
   .subst hl0;exact⟨[],by simp,λb _ j u h=>by simp at h,λj x h=>by simp at h⟩
   .obtain⟨ad',cx',g1,g2,g3⟩:=HI hS (sz:=i.size) N7 e1' (ys:=(f'.xs.drop off).take len) (by simp only[elems,hfk];rw[if_pos ⟨hn,K4,by omega⟩]);obtain⟨b',q',rfl,g4⟩:=g3 (by intro h;rw[h]at hll;simp at hll;omega);obtain⟨olds,o1,o2,_,o4⟩:=JF N7 g4;rw[e2]at g1;have:base=some ⟨b',q',none⟩:=by simp at g1;exact g1.1
    subst this;exact⟨olds,by rw[o1,hll],λb'' hb''=>by cases hb'';exact o2,o4⟩
  obtain⟨olds,o1,o2,o3⟩:=hold;have hll:((f'.xs.drop off).take len).length=len:=by simp;omega
  obtain⟨us,newCap,r1,r2,r3,r4,r5⟩:=Mj (P:=P) (ty:=o.type) ht hi q2 q3 (λe=>absurd e l4) hlencap o1 hll o2 o3 n1 n2 n4 (c:=cx) (by omega) (by omega) (by
   refine Nat.le_trans (xn _ ?_) hb;omega)
  have hE1:=aj hS;have hx1:=Wo hS;refine⟨_,.slice (some ⟨E.w.heap.size,0,none⟩) (len+ys.length) newCap,({E with w:=E.w.drew}:Env).moveFam k us e off newCap {f' with xs:=f'.xs++ys},HJ ho h1 h2 ?_,.inl rfl,
   hx1.trans (MV hE1 hfk _ _ _ _ rfl (by simp;omega)),
   SG hE1 hfk rfl (by simp;omega) (by simp;omega) (by simp;omega) r3 (by rw[K4];exact r4) ?_,rfl,?_⟩
  .rw[e2,f1,r1];rfl
  .intro j x' hj hx';have hx'':(f'.xs++ys)[j]?=some x':=hx';rw[K4];refine Np (Lx hx1 r5) (j-off) x' ?_;by_cases hjn:j<n
   .rw[xl (by omega)]at hx'';rw[xl (by omega),yI,if_pos (by omega),yH,show off+(j-off)=j from by omega];exact hx''
   .rw[xm (by omega)]at hx'';rw[xm (by omega),hll,show j-off-len=j-f'.xs.length from by omega];exact hx''
  .simp only[VR,Env.moveFam,X3];refine⟨_,_,{f' with xs:=f'.xs++ys},rfl,by simp[CH],⟨by simp[hn],λ_=>⟨_,_,rfl⟩⟩,λ_=>⟨xw _,by omega,by omega,(λh=>nomatch h),λ_=>by simp⟩⟩
end
end Go.Abs
