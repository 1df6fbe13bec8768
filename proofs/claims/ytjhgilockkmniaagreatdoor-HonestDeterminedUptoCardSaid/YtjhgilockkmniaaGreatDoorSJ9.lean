/- A part of the proof. -/
import Derived.Test.YtjhgilockkmniaaGreatDoorSJ8
set_option linter.all false
open Option renaming map_eq_some_iff->zf0z
open List renaming replicate->zf1z,getElem?_append_right->zf2z,getElem?_append_left->zf3z,getElem?_eq_some_iff->zf4z,replicate_succ->zf7z,length_append->zf8z,append_assoc->zf9z,flatten_cons->zg0z,length_cons->zg3z,length_nil->zg4z
open Array renaming getElem?_toList->zf5z
open Nat renaming mul_le_mul_right->zf6z,add_mul->zg1z,le_refl->zg2z,le_of_eq->zg6z,succ_mul->zg7z
open Int renaming mul_comm->zg5z,le_refl->zg8z
namespace Go.Abs
open Go.RowKit (Below)
theorem QX (h:AH) (am:Bool) {x:AV} (hx:x.flat=true):AS h am x=some x:=by
 cases x<;>simp[AV.flat]at hx<;>simp only[AS];rename_i f cs;subst hx;rfl
theorem QY (h:AH) (am:Bool):∀{xs:C6},xs.all AV.flat=true->Hx h am xs=some xs
 | [],_=>rfl
 |x::xs,hx=>by
  simp only[List.all_cons,Bool.and_eq_true]at hx;simp[Hx,QX h am hx.1,QY h am hx.2]
theorem GG (h:AH) (am:Bool) {x:AV} (hx:BJ x=true):frz h am x=some x:=by
 unfold BJ at hx;split at hx
 .rename_i cs;simp[frz,QY h am hx]
 .cases hx
 .rename_i h1 h2;have e:frz h am x=AS h am x:=by
   unfold frz;split
   .exact absurd rfl (h1 _)
   .rfl
  rw[e,QX h am hx]
section
variable {E:Env} {P:Program} {fr:Fr} {a:Act} {o:Oper}
theorem Kt {args:Array Operand} {ats:Array TypeId} {x:Operand} {t:TypeId} (ho:o.op=.call {callee:=.builtin .clear,args:=args,argTypes:=ats}) (h1:args.toList=[x]) (h2:ats.toList=[t]) {v:Value} {w w':World}
  (h:(Builtin.clear_ #[t] o.type #[a.eval x]).run P w=.ok v w'):(execOp a.eval o).run P w=.ok (.value v) w':=by
 have e1:args=#[x]:=by cases args;simp at h1;simp[h1]
 have e2:ats=#[t]:=by cases ats;simp at h2;simp[h2]
 rw[e1,e2]at ho;simp only[execOp,ho,resolve,invoke,builtin,Sem.run_bind,Sem.run_pure,Result.andThen_ok,List.map_toArray,List.map_cons,List.map_nil,h]
theorem nG {args:Array Operand} {ats:Array TypeId} {x:Operand} {x':Opd} {t e:TypeId} {z v:AV} {h':AH} (hS:SR E) (hf:FR E fr a.tmps) (ho:o.op=.call {callee:=.builtin .clear,args:=args,argTypes:=ats})
  (h1:args.toList=[x]) (h2:ats.toList=[t]) (ht:P.underlying t=some (.slice e)) (hz:Program.zeroA P e=some z) (hx:B7 x=some x') (C2:LS E.h z (get fr x')=some (v,h')):Ea P a o E v h':=by
 have hv:=B6 hf hx;unfold LS at C2;split at C2
 .rename_i b q xs hg;split at C2
  .rename_i h0;cases C2;rw[hg]at hv;simp only[VR,PV]at hv;obtain⟨ad,len,cap,e1,e2,_⟩:=hv;have:len=0:=by omega
   subst this;refine⟨_,.tuple #[],E,Kt ho h1 h2 ?_,.inl rfl,Ext.refl E,hS,rfl,By E⟩;rw[e1];cases ad<;>simp[Builtin.clear_,run_underlying ht]
  .cases C2
 .rename_i k n off len hg;split at C2
  .rename_i f hfk;split at C2
   .rename_i hc;obtain⟨c1,c2,c3,c4⟩:=hc;cases C2;rw[hg]at hv;simp only[VR]at hv;obtain⟨base,cap,f',e1,hf',_,e5⟩:=hv;have:f'=f:=by rw[hfk]at hf';simpa using hf'.symm
    subst this;obtain⟨l1,l2,l3,l4,l5⟩:=e5 c1;cases len with
    |zero =>
     have cL:E.h.fams.set k {f' with xs:=f'.xs.take off++zf1z 0 z++f'.xs.drop (off+0)}=E.h.fams:=HU (by simpa using hfk)
     refine⟨_,.tuple #[],E,Kt ho h1 h2 ?_,.inl rfl,Ext.refl E,hS,by rw[cL],By E⟩;rw[e1];cases base<;>simp[Builtin.clear_,run_underlying ht]
    |succ m =>
     have hF:=hS.fams k f' hfk;have U0:=hF.room;have hbase:=l5 (by omega);obtain⟨cur,t',k1,k2,k3⟩:=hF.cells;obtain⟨i,zv,q1,q2,q3,q4,q5⟩:=Aw hz;have L4:=hF.sz;obtain⟨zv',q2',WE,_,hrow,hone⟩:=Ia (E:=E) hz (n:=m+1) q1 (by
      have hpv:=n5 (w:=E.w) (ok:=E.ok) q4;obtain⟨g1,_⟩:=Jb hpv q5;have:=(BC g1).1;simp at this;omega)
     rw[q2]at q2';cases q2';have hfi:f'.sz=i.size:=by omega
     have Az:(Builtin.zeroCells zv.cells (m+1))=madeCells zv.cells ((m+1)*i.size):=by rw[←q3];rfl
     have hnl:(madeCells zv.cells ((m+1)*i.size)).toList.length=(m+1)*f'.sz:=by rw[hfi];simp[size_madeCells]
     have j8:(E.im k).o+(off-(E.im k).lo)*f'.sz+(m+1)*f'.sz<=cur.size:=by
      have h3:(off-(E.im k).lo+(m+1))*f'.sz<=(E.im k).cap*f'.sz:=zf6z _ (by omega);rw[zg1z]at h3;omega
     have S6:=run_storeCells_at P (E.im k).b ((E.im k).o+(off-(E.im k).lo)*f'.sz) t' (madeCells zv.cells ((m+1)*i.size)).toList 0 cur E.w k1 (by rw[hnl];omega) hone;simp only[Nat.add_zero]at S6;obtain⟨us,LH⟩:∃us:Array Value,us=(cur.toList.take ((E.im k).o+(off-(E.im k).lo)*f'.sz)++(madeCells zv.cells ((m+1)*i.size)).toList++cur.toList.drop ((E.im k).o+(off-(E.im k).lo)*f'.sz+(madeCells zv.cells ((m+1)*i.size)).toList.length)).toArray:=⟨_,rfl⟩;rw[←LH]at S6;have hget:∀j:Nat,us[j]?=if j<(E.im k).o+(off-(E.im k).lo)*f'.sz then cur[j]? else if j<(E.im k).o+(off-(E.im k).lo)*f'.sz+(m+1)*f'.sz then (madeCells zv.cells ((m+1)*i.size)).toList[j-((E.im k).o+(off-(E.im k).lo)*f'.sz)]? else cur[j]?:=by
      intro j;have:=Cv (l:=cur.toList) (off:=(E.im k).o+(off-(E.im k).lo)*f'.sz) (vs:=(madeCells zv.cells ((m+1)*i.size)).toList) (by rw[hnl];simpa using j8) j;rw[hnl]at this;simp only[zf5z]at this;rw[LH,List.getElem?_toArray,hnl,this,zf5z]
     have C4:f'.xs.length=({f' with xs:=f'.xs.take off++zf1z (m+1) z++f'.xs.drop (off+(m+1))}:Fam).xs.length:=by
      show f'.xs.length=(f'.xs.take off++zf1z (m+1) z++f'.xs.drop (off+(m+1))).length;simp only[zf8z,List.length_take,List.length_replicate,List.length_drop];omega
     have hkeep:f'.wr=false->∀j,j<(E.im k).o+(f'.xs.length-(E.im k).lo)*f'.sz->us[j]?=cur[j]?:=λh=>by rw[c3]at h;cases h
     refine⟨_,.tuple #[],E.setFam k us {f' with xs:=f'.xs.take off++zf1z (m+1) z++f'.xs.drop (off+(m+1))},Kt ho h1 h2 ?_,.inl rfl,Fg hS hfk k1 rfl rfl (zg6z C4) hkeep,
      Ii hS hfk k1 rfl rfl (zg6z C4) hkeep (by rw[←C4];exact U0) (by rw[LH];simp[hnl];omega) ?_,rfl,By _⟩
     .rw[e1,hbase];have hzr:(zeroValue e).run P E.w=.ok zv E.w:=by simp[zeroValue,typeInfo,q1,q2]
      simp[Builtin.clear_,run_underlying ht,hzr,Az,S6,Env.setFam]
     .intro j x'' hj hx'';have eU:(f'.xs.take off++zf1z (m+1) z++f'.xs.drop (off+(m+1)))[j]?=some x'':=hx'';have ho':off<=f'.xs.length:=by omega
      by_cases hj1:j<off
      .rw[zf9z,zf3z (by simp;omega),List.getElem?_take,if_pos hj1]at eU;obtain⟨g1,g2⟩:=k3 j x'' hj eU;refine⟨g1,λc y hy=>?_⟩;obtain⟨w,w1,w2⟩:=g2 c y hy;have w8:c<f'.sz:=by have:=(zf4z.1 hy).1;omega
       have:=s5 (show j-(E.im k).lo<off-(E.im k).lo by omega) w8;exact⟨w,by rw[hget,if_pos (by omega)];exact w1,w2⟩
      .by_cases hj2:j<off+(m+1)
       .rw[zf9z,zf2z (by simp;omega),zf3z (by simp;omega)]at eU;rw[show (f'.xs.take off).length=off from by simp;omega]at eU;obtain⟨g1,g2⟩:=hrow (j-off) x'' eU;refine⟨by omega,λc y hy=>?_⟩;obtain⟨w,w1,w2⟩:=g2 c y hy;have w8:c<f'.sz:=by have:=(zf4z.1 hy).1;omega
        have G7:(E.im k).o+(j-(E.im k).lo)*f'.sz+c=(E.im k).o+(off-(E.im k).lo)*f'.sz+((j-off)*i.size+c):=by
         rw[show j-(E.im k).lo=(off-(E.im k).lo)+(j-off) from by omega,zg1z,hfi];omega
        have:=s5 (show j-off<m+1 by omega) w8;refine⟨w,?_,w2⟩;rw[G7,hget,if_neg (by omega),if_pos (by rw[←hfi];omega),show (E.im k).o+(off-(E.im k).lo)*f'.sz+((j-off)*i.size+c)-((E.im k).o+(off-(E.im k).lo)*f'.sz)=(j-off)*i.size+c from by omega];exact w1
       .rw[zf2z (by simp;omega),List.getElem?_drop]at eU;have hjj:off+(m+1)+(j-(f'.xs.take off++zf1z (m+1) z).length)=j:=by simp;omega
        rw[hjj]at eU;obtain⟨g1,g2⟩:=k3 j x'' hj eU;refine⟨g1,λc y hy=>?_⟩;obtain⟨w,w1,w2⟩:=g2 c y hy;refine⟨w,?_,w2⟩;have hge:(off-(E.im k).lo)*f'.sz+(m+1)*f'.sz<=(j-(E.im k).lo)*f'.sz:=by
         rw[←zg1z];exact zf6z _ (by omega)
        rw[hget,if_neg (by omega),if_neg (by omega)];exact w1
   .cases C2
  .cases C2
 .cases C2
theorem nI {t e:TypeId} {l c:Operand} {l' c':Opd} {z v:AV} {i:TypeInfo} {h':AH} (hS:SR E) (hf:FR E fr a.tmps) (ho:o.op=.makeSlice t l c) (hu:P.underlying t=some (.slice e)) (hi:P.info? e=some i) (hz:Program.zeroA P e=some z)
  (G7:0<i.size) (hl:B7 l=some l') (hc:B7 c=some c') (C2:Wb E.h z i.bytes (get fr l') (get fr c')=some (v,h')):Ea P a o E v h':=by
 unfold Wb at C2;split at C2
 .rename_i k1 x k2 y hx hy;split at C2
  .rename_i hcc;obtain⟨h0,rfl,hb,hm⟩:=hcc;cases C2;have e1:=B6 hf hl;have e2:=B6 hf hc;rw[hx]at e1;rw[hy]at e2;simp only[VR]at e1 e2;obtain⟨zv,h2,WE,h3,hr,h1⟩:=Ia (E:=E) hz (n:=x.toNat) hi G7;have hrun:=run_make (P:=P) E.w t e i zv hu hi h2 k1 k2 x x h0 (zg8z _) (by rw[zg5z];unfold I0 at hb;omega) (by unfold maxLen at hm;omega);have hpv:=Th (e:=e) hS (by rw[←WE]at G7;exact G7) (by rw[WE];exact hr) (by simp;omega);have hb:Bl E.w.heap.size E.w (E.w.alloc (.cells (madeCells zv.cells (x.toNat*i.size)) e)):=⟨(Below.refl _ _).alloc (zg2z _) _,λ_=>zg2z _⟩;refine⟨_,.slice (some ⟨E.w.heap.size,0,none⟩) x.toNat x.toNat,{E with w:=E.w.alloc (.cells (madeCells zv.cells (x.toNat*i.size)) e)},?_,.inl rfl,AT hS hb,Dq hS hb,rfl,?_⟩
   .simp only[execOp,ho,e1,e2,Sem.run_bind,hrun,Result.andThen_ok,Sem.run_pure]
   .refine Y0 _ _ ?_;simpa using hpv
  .cases C2
 .cases C2
theorem Td {α:Type} (l:List α):∀(n j:Nat) (c:α),((zf1z n l).flatten)[j]?=some c->∃i q,i<n/\j=i*l.length+q/\l[q]?=some c
 |0,j,c,h=>by simp at h
 |n+1,j,c,h=>by
  rw[zf7z,zg0z]at h;by_cases hj:j<l.length
  .rw[zf3z hj]at h;exact⟨0,j,by omega,by omega,h⟩
  .rw[zf2z (by omega)]at h;obtain⟨i,q,h1,h2,h3⟩:=Td l n _ c h;exact⟨i+1,q,by omega,by rw[zg7z];omega,h3⟩
theorem Te {α:Type} (l:List α):∀n:Nat,((zf1z n l).flatten).length=n*l.length
 |0=>by simp
 |n+1=>by rw[zf7z,zg0z,zf8z,Te l n,zg7z];omega
theorem nH {t e:TypeId} {l c:Operand} {l' c':Opd} {z v:AV} {i:TypeInfo} {h':AH} (hS:SR E) (hf:FR E fr a.tmps) (ho:o.op=.makeSlice t l c) (hu:P.underlying t=some (.slice e)) (hi:P.info? e=some i) (hz:Program.zeroA P e=some z)
  (G7:0<i.size) (hl:B7 l=some l') (hc:B7 c=some c') (C2:Og E.h z i.bytes (get fr l') (get fr c')=some (v,h')):Ea P a o E v h':=by
 unfold Og at C2;split at C2
 .rename_i k1 x k2 y hx hy;split at C2
  .rename_i hcc;obtain⟨h0,rfl,hb,hm⟩:=hcc;cases C2;have e1:=B6 hf hl;have e2:=B6 hf hc;rw[hx]at e1;rw[hy]at e2;simp only[VR]at e1 e2;obtain⟨zv,h2,WE,h3,hr,h1⟩:=Ia (E:=E) hz (n:=x.toNat) hi G7;have hrun:=run_make (P:=P) E.w t e i zv hu hi h2 k1 k2 x x h0 (zg8z _) (by rw[zg5z];unfold I0 at hb;omega) (by unfold maxLen at hm;omega);have HI:W7 E (zf1z x.toNat z.cells).flatten (madeCells zv.cells (x.toNat*i.size)).toList:=by
    refine Kn (by rw[Te,WE,Array.length_toList,size_madeCells]) λj c u hc hu'=>?_;obtain⟨p,q,p1,p2,p3⟩:=Td _ _ _ _ hc;obtain⟨g1,g2⟩:=hr p z (by rw[List.getElem?_replicate,if_pos p1]);obtain⟨w,w1,_,w3⟩:=g2 q c p3;rw[WE]at p2;rw[←p2,hu']at w1;cases w1;exact Y0 _ _ w3
   refine⟨_,.slice (some ⟨E.w.heap.size,0,none⟩) x.toNat x.toNat,E.newBox (madeCells zv.cells (x.toNat*i.size)) e (zf1z x.toNat z.cells).flatten,?_,.inl rfl,Dy hS _ _ _,MR hS HI h1,rfl,?_⟩
   .simp only[execOp,ho,e1,e2,Sem.run_bind,hrun,Result.andThen_ok,Sem.run_pure,Env.newBox]
   .simp only[VR];exact⟨La rfl (HB HI),_,by simp only[Env.newBox,P7],zg2z _,by omega⟩
  .cases C2
 .cases C2
end
section
variable {E:Env} {P:Program} {fr:Fr} {a:Act} {o:Oper} {O:Orc} {c:Ctx}
def ROp.isCall:ROp->Bool
 | .call .. | .callv ..=>true
 |_=>false
theorem aA {el z:AV} {cs:C6} (h:el.reform cs=some z) (hl:cs.length=el.cells.length) (hf:∀x∈cs,x.cells=[x]\/∃aas,el=.agg aas):z.cells=cs:=by
 cases el<;>simp only[AV.reform]at h
 case agg=>cases h;rfl
 all_goals
  simp only[AV.cells,zg3z,zg4z]at hl;cases cs with
  |nil=>simp at hl
  |cons c r =>
   have hr:r=[]:=by simpa using hl
   subst hr;simp at h;subst h;rcases hf c (by simp)with h' | ⟨aas,h'⟩
   .exact h'
   .cases h'
theorem KE {t:TypeId} {x y:Operand} {x' y':Opd} {n k m i q sz:Nat} {h1:AH} (hS:SR E) (hf:FR E fr a.tmps) (V5:o.op=.store t x y) (hn:Program.size? P t=some n) (hx:B7 x=some x') (hy:B7 y=some y')
  (hg:get fr x'=.ep k m i q sz) (S6:FB E.h n (get fr y') k m i q sz=some h1):Ea P a o E B3 h1:=by
 unfold FB at S6;split at S6
 .rename_i f hfk;split at S6
  .rename_i hc;split at S6
   .rename_i el u Jp hu;split at S6
    .rename_i hl;simp only[zf0z]at S6;obtain⟨z,hz,rfl⟩:=S6;refine ba hS hf V5 hn hx hy hg hfk hc.1 hc.2.1 hc.2.2 Jp hu hl.1 hl.2 (aA hz (by simp[S5];omega) λw hw=>?_);by_cases hag:∃aas,el=.agg aas
     .exact .inr hag
     .refine .inl ?_;have hel1:el.cells=[el]:=by cases el<;>first|rfl|exact absurd ⟨_,rfl⟩ hag
      rw[hel1]at hw hl;simp only[zg3z,zg4z]at hl;have hF:=hS.fams k f hfk;obtain⟨hPu,hut⟩:=FP hS (am:=false) (ok':=E.ok) ⟨λ_ _ h=>h,λh=>by cases h⟩ (B6 hf hy) hu;obtain⟨g1,g2⟩:=Jb hPu hut;have hcell:∀{w:AV} {u:Value},PV E.w E.ok w u->u.oneCell'=true->w.cells=[w]:=by
       intro w u h1 h2;cases w<;>first|rfl|(simp only[PV]at h1;obtain⟨us,rfl,_⟩:=h1;simp[Value.oneCell']at h2)
      unfold S5 at hw;simp only[List.mem_append]at hw;rcases hw with (hw|hw)|hw
      .have:=List.mem_of_mem_take hw;simp at this;subst this;exact hel1
      .obtain⟨j,hj⟩:=List.getElem?_of_mem hw;obtain⟨u',k1,k2⟩:=(BC g1).2 hj;exact hcell k2 (g2 u' (List.mem_of_getElem? k1))
      .have:=List.mem_of_mem_drop hw;simp at this;subst this;exact hel1
    .cases S6
   .cases S6
  .cases S6
 .cases S6
theorem kZ {n:Nat} {x y:Opd} {h h':AH} {v:AV} (he:A3 O c (.ste n x y) fr h=some (v,h')):A3 O c (.st n x y) fr h=some (v,h'):=by
 simp only[A3,NY]at he;split at he
 .rename_i k m i q s hg;split at he
  .rename_i hfl;simp only[A3,hg,x9,Rr];rw[GG h false hfl];exact he
  .cases he
 .cases he
theorem kY {n:Nat} {x y:Opd} {h h':AH} {v:AV} (he:A3 O c (.stb n x y) fr h=some (v,h')):A3 O c (.st n x y) fr h=some (v,h'):=by
 simp only[A3,Me]at he;split at he
 .rename_i b q hg;split at he
  .rename_i cs w8;split at he
   .rename_i hc;cases he;simp only[A3,hg,x9,w8];rw[if_pos hc]
   .rename_i hc;rw[zf0z]at he;obtain⟨h1,h2,h3⟩:=he;cases h3;simp only[A3,hg,x9,w8];rw[if_neg hc,h2]
  .cases he
 .cases he
theorem Xn (hS:SR E) (hf:FR E fr a.tmps) {r r0:ROp} (hr:Q1 P o.op=some r0) (R9:r=r0\/∃m,r=r0.lax m) {v:AV} {h':AH} (C2:A3 O c r fr E.h=some (v,h')) (hnc:r.isCall=false):Ea P a o E v h':=by
 cases V5:o.op with
 |move x =>
  rw[V5]at hr;simp only[Q1,zf0z]at hr;obtain⟨y,hy,rfl⟩:=hr;obtain rfl:r=.mov y:=by rcases R9 with h|⟨_,h⟩<;>exact h
  simp only[A3]at C2;cases C2;exact(io hf (.inl V5) hy).does hS
 |assign x =>
  rw[V5]at hr;simp only[Q1,zf0z]at hr;obtain⟨y,hy,rfl⟩:=hr;obtain rfl:r=.mov y:=by rcases R9 with h|⟨_,h⟩<;>exact h
  simp only[A3]at C2;cases C2;exact(io hf (.inr V5) hy).does hS
 |pick q x y =>
  rw[V5]at hr;simp only[Q1]at hr;split at hr
  .rename_i q' x' y' h1 h2 h3;cases hr;obtain rfl:r=.pick q' x' y':=by rcases R9 with h|⟨_,h⟩<;>exact h
   simp only[A3]at C2;split at C2
   .rename_i t ht;cases C2;exact(kN hf V5 h1 h2 h3 ht).does hS
   .cases C2
  .cases hr
 |alloc t =>
  rw[V5]at hr;simp only[Q1,zf0z]at hr;obtain⟨z,hz,rfl⟩:=hr;obtain rfl:r=.alloc (VK t z):=by rcases R9 with h|⟨_,h⟩<;>exact h
  simp only[A3]at C2;cases C2;exact fR hS V5 hz
 |box t x =>
  rw[V5]at hr;simp only[Q1,zf0z]at hr;obtain⟨y,hy,rfl⟩:=hr;obtain rfl:r=.box y:=by rcases R9 with h|⟨_,h⟩<;>exact h
  simp only[A3]at C2;split at C2
  .cases C2
  .rename_i ht;cases C2;exact nE hS hf V5 hy (by simpa using ht)
 |build t parts =>
  rw[V5]at hr;simp only[Q1]at hr;split at hr
  .rename_i fs zs hu hz;split at hr
   .rename_i hs;simp only[zf0z]at hr;obtain⟨ps,hp,rfl⟩:=hr;obtain rfl:r=.build (.agg zs) ps:=by rcases R9 with h|⟨_,h⟩<;>exact h
    simp only[A3,AV.cells]at C2;split at C2
    .rename_i qs hq;cases C2;exact(gU hf V5 hu hz hs hp hq).does hS
    .cases C2
   .cases hr
  .cases hr
 |buildSlice t len parts =>
  rw[V5]at hr;simp only[Q1]at hr;split at hr
  .rename_i e hu;split at hr
   .rename_i z n ps hz hn hp;split at hr
    .rename_i hc;cases hr;have C2:A3 O c (.bslice len z ps) fr E.h=some (v,h'):=by
      rcases R9 with rfl|⟨_,rfl⟩
      .exact C2
      .simp only[ROp.lax,A3]at C2;split at C2
       .simp only[A3];exact C2
       .cases C2
     simp only[A3]at C2;split at C2
     .rename_i xs hx;cases C2;exact bV hS hf V5 hu hz hn hc.1 hc.2 hp hx
     .cases C2
    .cases hr
   .cases hr
  .cases hr
 |load t x =>
  rw[V5]at hr;simp only[Q1]at hr;split at hr
  .rename_i b n y hb hn hy;cases hr;have key:∃w,x7 E.h b n (get fr y)=some w/\(w,E.h)=(v,h'):=by
    rcases R9 with rfl|⟨_,rfl⟩
    .simp only[A3]at C2;split at C2
     .rename_i w hw;exact⟨w,hw,by simpa using C2⟩
     .cases C2
    .simp only[ROp.lax,A3]at C2;split at C2
     .cases C2
     .split at C2
      .rename_i w hw;exact⟨w,hw,by simpa using C2⟩
      .cases C2
   obtain⟨w,hw,he⟩:=key;cases he;exact(tp hS hf V5 hb hn hy hw).does hS
  .cases hr
 |store t x y =>
  rw[V5]at hr;simp only[Q1]at hr;split at hr
  .rename_i n x' y' hn hx hy;cases hr;have C2:A3 O c (.st n x' y') fr E.h=some (v,h'):=by
    rcases R9 with rfl|⟨m,rfl⟩
    .exact C2
    .obtain⟨m,mk⟩:=m;cases m with
     |none=>exact C2
     |some b =>
      cases b with
      |true=>exact kZ C2
      |false=>exact kY C2
   simp only[A3]at C2;split at C2
   .rename_i h1 S6;cases C2;unfold x9 at S6;split at S6
    .rename_i b off hg;split at S6
     .rename_i cs w8;split at S6
      .rename_i hc;cases S6;exact bZ hS hf V5 hn hx hy hg w8 hc.1 hc.2.1 hc.2.2.1 hc.2.2.2
      .unfold al at S6;split at S6
       .split at S6
        .rename_i hc;cases S6;exact Yg hS hf V5 hn hx hy hg w8 hc.1 hc.2.1 hc.2.2
        .cases S6
       .cases S6
     .cases S6
    .rename_i k m i q sz hg;split at S6
     case h_2=>cases S6
     rename_i h2 hlay;unfold Rr at hlay;split at hlay
     .cases hlay;exact KE hS hf V5 hn hx hy hg S6
     .unfold Uw at hlay;split at hlay
      case h_3=>cases hlay
      .rename_i cs2 hgy;cases hlay;obtain⟨E2,r2,e2⟩:=Sf cs2 hS;rw[←e2]at S6;obtain⟨nx,u,E',e1,e3,e4,e5,e6,e7⟩:=KE (E:=E2) r2.sr (hf.ext r2.ext) V5 hn hx hy hg S6;exact⟨nx,u,E',by rw[←r2.w];exact e1,e3,r2.ext.trans e4,e5,e6,e7⟩
      rename_i k2 n2 off2 len2 hgy;split at hlay
      case h_2=>cases hlay
      rename_i f2 hf2;cases hlay;have hx1:=LB hf2;obtain⟨nx,u,E',e1,e2,e3,e4,e5,e6⟩:=KE (E:=E.rstFam k2 f2) (Qz hS hf2) (hf.ext hx1) V5 hn hx hy hg S6;exact⟨nx,u,E',e1,e2,hx1.trans e3,e4,e5,e6⟩
    .cases S6
   .cases C2
  .cases hr
 |nilCheck x =>
  rw[V5]at hr;simp only[Q1,zf0z]at hr;obtain⟨y,hy,rfl⟩:=hr;obtain rfl:r=.nilck y:=by rcases R9 with h|⟨_,h⟩<;>exact h
  simp only[A3]at C2;have:h'=E.h:=by split at C2<;>first|(cases C2;rfl)|cases C2
  subst this;exact(gX hf V5 hy C2).does hS
 |binOp op t x y t' =>
  rw[V5]at hr;simp only[Q1]at hr;split at hr
  .rename_i x' y' hx hy;have gen:r0=.bin op x' y'->Ea P a o E v h':=by
    intro h;subst h;obtain rfl:r=.bin op x' y':=by rcases R9 with h|⟨_,h⟩<;>exact h
    simp only[A3]at C2;split at C2
    .rename_i w hw;cases C2;exact(qI hf V5 hx hy hw).does hS
    .cases C2
   split at hr
   .rename_i ht;cases hr;obtain rfl:r=.beq false x' y':=by rcases R9 with h|⟨_,h⟩<;>exact h
    simp only[A3]at C2;split at C2
    .rename_i i j hi hj;cases C2;exact(ik (neg:=false) hf V5 ht hx hy hi hj).does hS
    .cases C2
   .rename_i ht;cases hr;obtain rfl:r=.beq true x' y':=by rcases R9 with h|⟨_,h⟩<;>exact h
    simp only[A3]at C2;split at C2
    .rename_i i j hi hj;cases C2;exact(ik (neg:=true) hf V5 ht hx hy hi hj).does hS
    .cases C2
   .rename_i ht;split at hr
    .cases hr;obtain rfl:r=.nileq false x':=by rcases R9 with h|⟨_,h⟩<;>exact h
     simp only[A3]at C2;obtain⟨rfl,hq⟩:=qP (neg:=false) hf V5 ht hx hy C2;exact hq.does hS
    .cases hr
   .rename_i ht;split at hr
    .cases hr;obtain rfl:r=.nileq true x':=by rcases R9 with h|⟨_,h⟩<;>exact h
     simp only[A3]at C2;obtain⟨rfl,hq⟩:=qP (neg:=true) hf V5 ht hx hy C2;exact hq.does hS
    .cases hr
   .cases hr;exact gen rfl
  .cases hr
 |unOp op t x =>
  rw[V5]at hr;simp only[Q1,zf0z]at hr;obtain⟨y,hy,rfl⟩:=hr;obtain rfl:r=.un op y:=by rcases R9 with h|⟨_,h⟩<;>exact h
  simp only[A3]at C2;split at C2
  .rename_i w hw;cases C2;exact(tq hf V5 hy hw).does hS
  .cases C2
 |convert s d x =>
  rw[V5]at hr;simp only[Q1]at hr;split at hr
  .rename_i k0 k hs hd;simp only[zf0z]at hr;obtain⟨y,hy,rfl⟩:=hr;obtain rfl:r=.conv k y:=by rcases R9 with h|⟨_,h⟩<;>exact h
   simp only[A3]at C2;split at C2
   .rename_i q n hq;cases C2;exact(kK hf V5 hs hd hy hq).does hS
   .cases C2
  .rename_i hs hd;simp only[zf0z]at hr;obtain⟨y,hy,rfl⟩:=hr;obtain rfl:r=.cstr y:=by rcases R9 with h|⟨_,h⟩<;>exact h
   simp only[A3]at C2;split at C2
   .rename_i n hq;cases C2;exact(kL hf V5 hs hd hy hq).does hS
   .cases C2
  .rename_i e hs hd;split at hr
   .rename_i he;simp only[zf0z]at hr;obtain⟨y,hy,rfl⟩:=hr;obtain rfl:r=.bstr y:=by rcases R9 with h|⟨_,h⟩<;>exact h
    simp only[A3]at C2;exact kI hS hf V5 hs hd he hy C2
   .cases hr
  .cases hr
 |makeFunc fn first caps =>
  rw[V5]at hr;cases fn<;>simp only[Q1]at hr<;>try (cases hr;done)
  split at hr
  .rename_i f h0;simp only[zf0z]at hr;obtain⟨cs,hc,rfl⟩:=hr;obtain rfl:r=.clos _ cs:=by rcases R9 with h|⟨_,h⟩<;>exact h
   simp only[A3]at C2;split at C2
   .exact bW hS hf V5 h0 hc C2
   .cases C2;exact(kJ hf V5 h0 hc).does hS
  .cases hr
 |makeSlice t l q =>
  rw[V5]at hr;simp only[Q1]at hr;split at hr
  .rename_i e hu;split at hr
   .rename_i i z l' q' hi hz hl hq;split at hr
    .rename_i G7;cases hr;have hcase:r=.mkslice z i.bytes l' q'\/r=.mkv z i.bytes l' q':=by
      rcases R9 with h|⟨⟨m,mk⟩,h⟩
      .exact .inl h
      .cases mk
       .exact .inl h
       .exact .inr h
     rcases hcase with rfl|rfl
     case inr=>exact nI hS hf V5 hu hi hz G7 hl hq C2
     simp only[A3]at C2;split at C2
     .rename_i k1 x k2 y hx hy;split at C2
      .rename_i hc;cases C2;exact Yf hS hf V5 hu hi hz G7 hl hq hx hy hc.1 hc.2.1 hc.2.2.1 hc.2.2.2
      .cases C2
     .cases C2
    .cases hr
   .cases hr
  .cases hr
 |slice t x lo hi mx =>
  rw[V5]at hr;simp only[Q1]at hr;split at hr
  .rename_i x' lo' r7 ht hx LG Tq hmx;cases hr;obtain rfl:r=.slc 0 x' lo' r7 none:=by rcases R9 with h|⟨_,h⟩<;>exact h
   have hmn:mx=none:=by
    cases mx with
    |none=>rfl
    |some m=>simp[EA]at hmx
   subst hmn;simp only[A3]at C2;split at C2
   .rename_i l u m hl hu hm;simp only[F0]at hm;cases hm;split at C2
    .rename_i w hw;cases C2;unfold Ez at hw;split at hw
     .rename_i s hs;dsimp only at hw;split at hw
      .rename_i hc;cases hw;exact(Zn hf V5 ht hx LG Tq hs hl hu hc.2.2.1 hc.2.2.2.1 hc.2.2.2.2).does hS
      .cases hw
     .simp at hw
     .split at hw<;>simp at hw
     .cases hw
    .cases C2
   .cases C2
  .rename_i e x' lo' r7 mx' ht hx LG Tq hmx;split at hr
   .rename_i n hn;split at hr
    .rename_i G7;cases hr;obtain rfl:r=.slc n x' lo' r7 mx':=by rcases R9 with h|⟨_,h⟩<;>exact h
     simp only[A3]at C2;split at C2
     .rename_i l u m hl hu hm;split at C2
      .rename_i w hw;cases C2;unfold Ez at hw;split at hw
       .simp[show ¬n=0 from by omega]at hw
       .rename_i full z xs hg;dsimp only at hw;simp only[G7,true_and]at hw;split at hw
        .rename_i hz;split at hw
         .split at hw
          .rename_i hc;cases hw;exact(Uk hf V5 ht hn hx LG Tq hmx hg hl hu hm hz hc.1 hc.2.1 (.inl ⟨rfl,hc.2.2,rfl⟩)).does hS
          .cases hw
         .rename_i q;split at hw
          .rename_i hc;cases hw;exact(Uk hf V5 ht hn hx LG Tq hmx hg hl hu hm hz hc.2.1 hc.2.2.1 (.inr ⟨q,rfl,hc.1,hc.2.2.2.1,hc.2.2.2.2,rfl⟩)).does hS
          .cases hw
        .cases hw
       .rename_i k m0 off len hg;dsimp only at hw;split at hw
        .rename_i f hfk;simp only[G7,true_and]at hw;split at hw
         .rename_i hz;split at hw
          .split at hw
           .rename_i hc;cases hw;exact(Lm hS hf V5 ht hn hx LG Tq hmx hg hl hu hm hfk hz.1 hz.2 (.inl (.inl ⟨rfl,hc.1,hc.2.1,.inl hc.2.2,rfl⟩))).does hS
           .split at hw
            .rename_i hc;cases hw;exact(Lm hS hf V5 ht hn hx LG Tq hmx hg hl hu hm hfk hz.1 hz.2 (.inl (.inl ⟨rfl,hc.1,hc.2.1,.inr hc.2.2,rfl⟩))).does hS
            .cases hw
          .rename_i q;split at hw
           .rename_i hc;cases hw;obtain⟨c1,c2,c3,rfl⟩:=hc;exact(Lm hS hf V5 ht hn hx LG Tq hmx hg hl hu hm hfk hz.1 hz.2 (.inl (.inr ⟨rfl,c1,c2,c3,rfl⟩))).does hS
           .split at hw
            .rename_i hc;cases hw;exact(Lm hS hf V5 ht hn hx LG Tq hmx hg hl hu hm hfk hz.1 hz.2 (.inr ⟨q,rfl,hc.1,hc.2.1,hc.2.2.1,hc.2.2.2.1,hc.2.2.2.2,rfl⟩)).does hS
            .cases hw
         .cases hw
        .cases hw
       .cases hw
      .cases C2
     .cases C2
    .cases hr
   .cases hr
  .cases hr
 |fieldAddr s x i =>
  rw[V5]at hr;simp only[Q1]at hr;split at hr
  .rename_i fs x' hs hx;split at hr
   .rename_i f hi;split at hr
    .rename_i n hn;split at hr
     .rename_i G7;cases hr;obtain rfl:r=.faddr f.offset x':=by rcases R9 with h|⟨_,h⟩<;>exact h
      simp only[A3]at C2;have:h'=E.h:=by split at C2<;>first|(cases C2;rfl)|cases C2
      subst this;exact(gV hf V5 hs hi hn G7 hx C2).does hS
     .cases hr
    .cases hr
   .cases hr
  .cases hr
 |field s x i =>
  rw[V5]at hr;simp only[Q1]at hr;split at hr
  .rename_i fs x' hs hx;split at hr
   .rename_i f hi;split at hr
    .rename_i b n hb hn;cases hr;obtain rfl:r=.fld b f.offset n x':=by rcases R9 with h|⟨_,h⟩<;>exact h
     simp only[A3]at C2;split at C2
     .rename_i cs hg;split at C2
      .rename_i w hw;cases C2;exact(qK hf V5 hs hi hb hn hx hg hw).does hS
      .cases C2
     .cases C2
    .cases hr
   .cases hr
  .cases hr
 |indexAddr t x i =>
  rw[V5]at hr;simp only[Q1]at hr;split at hr
  .rename_i e x' i' ht hx hi;split at hr
   .rename_i n hn;split at hr
    .cases hr;obtain rfl:r=.iaddr n x' i':=by rcases R9 with h|⟨_,h⟩<;>exact h
     simp only[A3]at C2;have:h'=E.h:=by
      split at C2
      .split at C2
       .split at C2<;>first|(cases C2;rfl)|cases C2
       .cases C2
      .split at C2<;>first|(cases C2;rfl)|cases C2
      .split at C2<;>first|(cases C2;rfl)|cases C2
      .cases C2
     subst this;exact(gW hS hf V5 ht hn hx hi C2).does hS
    .cases hr
   .cases hr
  .cases hr
 |index t x i =>
  rw[V5]at hr;simp only[Q1]at hr;split at hr
  .rename_i x' i' ht hx hi;cases hr;obtain rfl:r=.idx x' i':=by rcases R9 with h|⟨_,h⟩<;>exact h
   simp only[A3]at C2;split at C2
   .rename_i s q j hg hj;split at C2
    .rename_i h0;split at C2
     .rename_i b hb;cases C2;exact(qL hf V5 ht hx hi hg hj h0 hb).does hS
     .cases C2
    .cases C2
   .cases C2
  .cases hr
 |extract x i =>
  rw[V5]at hr;simp only[Q1,zf0z]at hr;obtain⟨y,hy,rfl⟩:=hr;obtain rfl:r=.ext y i:=by rcases R9 with h|⟨_,h⟩<;>exact h
  simp only[A3]at C2;split at C2
  .rename_i vs hg;split at C2
   .rename_i w hw;cases C2;exact(qJ hf V5 hy hg hw).does hS
   .cases C2
  .cases C2
 |call q =>
  rw[V5]at hr;obtain⟨callee,args,ats⟩:=q;cases callee with
  |invoke x m=>simp[Q1]at hr
  |value x =>
   cases x<;>simp only[Q1]at hr<;>try (cases hr;done)
   .simp only[zf0z]at hr;obtain⟨aas,_,rfl⟩:=hr;rcases R9 with rfl|⟨_,rfl⟩<;>simp[ROp.isCall,ROp.lax]at hnc
   .split at hr
    .simp only[zf0z]at hr;obtain⟨aas,_,rfl⟩:=hr;rcases R9 with rfl|⟨_,rfl⟩<;>simp[ROp.isCall,ROp.lax]at hnc
    .cases hr
  |builtin b =>
   cases b<;>simp only[Q1]at hr<;>try (cases hr;done)
   case append =>
    split at hr
    .rename_i s x t u h1 h2;split at hr
     .rename_i e ht;split at hr
      .rename_i i z s' x' hi hz hs hx;split at hr
       .rename_i hc;cases hr;obtain⟨G7,rfl⟩:=hc;obtain rfl:r=.app i.size i.bytes s' x':=by rcases R9 with h|⟨_,h⟩<;>exact h
        simp only[A3,N7]at C2;split at C2
        .cases C2
        .rename_i ys Mv;obtain⟨news,hsrc⟩:=aF hS hf ht hi G7 hx Mv;exact QI hS hf V5 h1 h2 ht hi hz G7 hs hsrc C2
       .split at hr
        case h_2=>cases hr
        rename_i hu;split at hr
        .rename_i hs1;cases hr;obtain rfl:r=.apps i.bytes s' x':=by rcases R9 with h|⟨_,h⟩<;>exact h
         simp only[A3,OA]at C2;split at C2
         .rename_i str hstr;have hv:=B6 hf hx;rw[hstr]at hv;simp only[VR]at hv;have hsrc:Src P E t u e i (a.eval x) (Hv str) (Lib.strCells str):=by
           rw[hv];exact iC ht hu hi hs1 str
          rw[←hs1]at C2;exact QI hS hf V5 h1 h2 ht hi hz (by omega) hs hsrc C2
         .cases C2
        .cases hr
      .cases hr
     .cases hr
    .cases hr
   case len =>
    split at hr
    .rename_i x t h1 h2;split at hr
     .rename_i ht;simp only[zf0z]at hr;obtain⟨y,hy,rfl⟩:=hr;obtain rfl:r=.len true y:=by rcases R9 with h|⟨_,h⟩<;>exact h
      simp only[A3]at C2;split at C2
      .rename_i s hs;cases C2;exact(Zm hf V5 h1 h2 ht hy hs).does hS
      .cases C2
     .rename_i e ht;simp only[zf0z]at hr;obtain⟨y,hy,rfl⟩:=hr;obtain rfl:r=.len false y:=by rcases R9 with h|⟨_,h⟩<;>exact h
      simp only[A3]at C2;have:h'=E.h:=by split at C2<;>first|(cases C2;rfl)|cases C2
      subst this;exact(qM hf V5 h1 h2 ht hy C2).does hS
     .rename_i kt et ht;simp only[zf0z]at hr;obtain⟨y,hy,rfl⟩:=hr;obtain rfl:r=.mlen y:=by rcases R9 with h|⟨_,h⟩<;>exact h
      simp only[A3]at C2;exact kM hS hf V5 h1 h2 ht hy C2
     .cases hr
    .cases hr
   case clear =>
    split at hr
    .rename_i x t h1 h2;split at hr
     .rename_i e ht;split at hr
      .rename_i z x' hz hx;cases hr;obtain rfl:r=.clr z x':=by rcases R9 with h|⟨_,h⟩<;>exact h
       exact nG hS hf V5 h1 h2 ht hz hx C2
      .cases hr
     .cases hr
    .cases hr
   case max =>
    split at hr
    .rename_i x y h1;split at hr
     .rename_i x' y' hx hy;cases hr;obtain rfl:r=.max x' y':=by rcases R9 with h|⟨_,h⟩<;>exact h
      simp only[A3]at C2;split at C2
      .rename_i k i k' j hi hj;split at C2
       .cases C2;exact(qN hf V5 h1 hx hy hi hj).does hS
       .cases C2
      .cases C2
     .cases hr
    .cases hr
   case min =>
    split at hr
    .rename_i x y h1;split at hr
     .rename_i x' y' hx hy;cases hr;obtain rfl:r=.min x' y':=by rcases R9 with h|⟨_,h⟩<;>exact h
      simp only[A3]at C2;split at C2
      .rename_i k i k' j hi hj;split at C2
       .cases C2;exact(qO hf V5 h1 hx hy hi hj).does hS
       .cases C2
      .cases C2
     .cases hr
    .cases hr
 |makeMap t q =>
  cases q with
  |some q=>rw[V5]at hr;simp[Q1]at hr
  |none =>
   rw[V5]at hr;simp only[Q1]at hr;split at hr
   .cases hr;obtain rfl:r=.mkmap:=by rcases R9 with h|⟨_,h⟩<;>exact h
    simp only[A3]at C2;cases C2;exact fS hS V5
   .cases hr
 |lookup t x k ok =>
  rw[V5]at hr;simp only[Q1]at hr;split at hr
  .rename_i kt et hu;split at hr
   .rename_i b z x' k' hk hz hx JX;cases hr;obtain rfl:r=.mlook b ok z x' k':=by rcases R9 with h|⟨_,h⟩<;>exact h
    simp only[A3]at C2;exact fV hS hf V5 hu hk hz hx JX C2
   .rename_i z x' k' _ hz hx JX;split at hr
    .rename_i hp;cases hr;obtain rfl:r=.mlookp ok z x' k':=by rcases R9 with h|⟨_,h⟩<;>exact h
     simp only[A3]at C2;exact bX hS hf V5 hu hp hz hx JX C2
    .cases hr
   .cases hr
  .cases hr
 |mapUpdate t m k x =>
  rw[V5]at hr;simp only[Q1]at hr;split at hr
  .rename_i kt et hu;split at hr
   .rename_i b m' k' x' hk hm JX hx;cases hr;obtain rfl:r=.mup b m' k' x':=by rcases R9 with h|⟨_,h⟩<;>exact h
    simp only[A3]at C2;exact iZ hS hf (.inl V5) hu hk hm JX hx C2
   .rename_i m' k' x' _ hm JX hx;split at hr
    .rename_i hp;cases hr;obtain rfl:r=.mupp m' k' x':=by rcases R9 with h|⟨_,h⟩<;>exact h
     simp only[A3]at C2;exact bY hS hf (.inl V5) hu hp hm JX hx C2
    .cases hr
   .cases hr
  .cases hr
 |insert t m k x =>
  rw[V5]at hr;simp only[Q1]at hr;split at hr
  .rename_i kt et hu;split at hr
   .rename_i b m' k' x' hk hm JX hx;cases hr;obtain rfl:r=.mup b m' k' x':=by rcases R9 with h|⟨_,h⟩<;>exact h
    simp only[A3]at C2;exact iZ hS hf (.inr V5) hu hk hm JX hx C2
   .rename_i m' k' x' _ hm JX hx;split at hr
    .rename_i hp;cases hr;obtain rfl:r=.mupp m' k' x':=by rcases R9 with h|⟨_,h⟩<;>exact h
     simp only[A3]at C2;exact bY hS hf (.inr V5) hu hp hm JX hx C2
    .cases hr
   .cases hr
  .cases hr
 |_=>rw[V5]at hr;simp[Q1]at hr
theorem bN {p:Op} {r:ROp} (hr:Q1 P p=some r) (hp:∀t l q,p≠.makeSlice t l q):r.bxd=r:=by
 unfold Q1 at hr
 repeat' (split at hr)
 all_goals first
  |(cases hr;done)
  |(exfalso;exact hp _ _ _ rfl)
  |(cases hr;rfl)
  |(simp only[zf0z]at hr;obtain⟨y,_,rfl⟩:=hr;rfl)
theorem ZW (hS:SR E) (hf:FR E fr a.tmps) {r r0:ROp} (hr:Q1 P o.op=some r0) (R9:(r=r0\/∃m,r=r0.lax m)\/(r=r0.bxd\/∃m,r=r0.bxd.lax m)) {v:AV} {h':AH} (C2:A3 O c r fr E.h=some (v,h')) (hnc:r.isCall=false):Ea P a o E v h':=by
 rcases R9 with R9|R9
 .exact Xn hS hf hr R9 C2 hnc
 .by_cases hp:∃t l q,o.op=.makeSlice t l q
  .obtain⟨t,l,q,V5⟩:=hp;rw[V5]at hr;simp only[Q1]at hr;split at hr
   .rename_i e hu;split at hr
    .rename_i i z l' q' hi hz hl hq;split at hr
     .rename_i G7;cases hr;obtain rfl:r=.mkb z i.bytes l' q':=by rcases R9 with h|⟨_,h⟩<;>exact h
      simp only[A3]at C2;exact nH hS hf V5 hu hi hz G7 hl hq C2
     .cases hr
    .cases hr
   .cases hr
  .rw[bN hr λt l q e=>hp ⟨t,l,q,e⟩]at R9;exact Xn hS hf hr R9 C2 hnc
theorem Vk {p:Op} {z:AV} (hr:Q1 P p=some (.alloc z)):∃t z0,p=.alloc t/\Program.zeroA P t=some z0/\z=VK t z0:=by
 unfold Q1 at hr
 repeat' (split at hr)
 all_goals first
  |(cases hr;done)
  |(simp only[zf0z]at hr;obtain⟨y,h1,h2⟩:=hr;cases h2;done)
  |(simp only[zf0z]at hr;obtain⟨y,h1,h2⟩:=hr;cases h2;exact⟨_,_,rfl,h1,rfl⟩)
theorem cz (hS:SR E) (hf:FR E fr a.tmps) {r r0:ROp} (hr:Q1 P o.op=some r0) (R9:((r=r0\/∃m,r=r0.lax m)\/(r=r0.bxd\/∃m,r=r0.bxd.lax m))\/∃n z,r0=.alloc z/\r=.allocAt n z) {v:AV} {h':AH} (C2:A3 O c r fr E.h=some (v,h')) (hnc:r.isCall=false):Ea P a o E v h':=by
 rcases R9 with R9|⟨n,z,rfl,rfl⟩
 .exact ZW hS hf hr R9 C2 hnc
 .obtain⟨t,z0,V5,hz,rfl⟩:=Vk hr;simp only[A3]at C2;exact Yc hS V5 hz C2
end
end Go.Abs
