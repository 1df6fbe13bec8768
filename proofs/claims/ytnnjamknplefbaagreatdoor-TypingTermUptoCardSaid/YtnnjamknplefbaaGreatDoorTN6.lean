/- A part of the proof. -/
import Derived.Test.YtnnjamknplefbaaGreatDoorTN5
set_option linter.all false
open Option renaming map_eq_some_iff->zf0z
open List renaming replicate->zf1z,getElem?_append_right->zf2z,getElem?_append_left->zf3z,getElem?_eq_some_iff->zf4z,replicate_succ->zf8z,getElem?_take->zf9z,length_append->zg0z,append_assoc->zg1z,flatten_cons->zg2z,length_cons->zg5z,length_take->zg6z,length_nil->zg7z
open Nat renaming le_refl->zf5z,mul_le_mul_right->zf7z,add_mul->zg3z,le_of_eq->zg9z,succ_mul->zt0z
open Array renaming getElem?_toList->zf6z
open Bool renaming and_eq_true->zg4z
open Int renaming mul_comm->zg8z,le_refl->zt1z
set_option linter.all false
namespace Go.Abs
open Go.RowKit (Below)
theorem dk(h am){x}(hx:x.flat=true):Cr h am x=some x:=by
 cases x<;>simp[AV.flat]at hx<;>simp only[Cr];rename_i f cs;subst hx;rfl
theorem dl(h am):∀{xs:b9},xs.all AV.flat=true->NV h am xs=some xs
 | [],_=>rfl
 |x::xs,hx=>by
  simp only[List.all_cons,zg4z]at hx;simp[NV,dk h am hx.1,dl h am hx.2]
theorem DB(h am){x}(hx:M9 x=true):frz h am x=some x:=by
 unfold M9 at hx;split at hx
 .rename_i cs;simp[frz,dl h am hx]
 .cases hx
 .rename_i h1 h2;have e:frz h am x=Cr h am x:=by
   unfold frz;split
   .exact absurd rfl (h1 _)
   .rfl
  rw[e,dk h am hx]
section
variable {E:Env} {P:Program} {fr:Fr} {a:Act} {o:Oper}
theorem UJ{args ats x t}(ho:o.op=.call {callee:=.builtin .clear,args:=args,argTypes:=ats})(h1:args.toList=[x])(h2:ats.toList=[t]){v w w'}
  (h:(Builtin.clear_ #[t] o.type #[a.eval x]).run P w=.ok v w'):(execOp a.eval o).run P w=.ok (.value v) w':=by
 have e1:args=#[x]:=by cases args;simp at h1;simp[h1]
 have e2:ats=#[t]:=by cases ats;simp at h2;simp[h2]
 rw[e1,e2]at ho;simp only[execOp,ho,resolve,invoke,builtin,Sem.run_bind,Sem.run_pure,Result.andThen_ok,List.map_toArray,List.map_cons,List.map_nil,h]
theorem d_clr{args ats x x' t e z v h'}(hS:SR E)(hf:FR E fr a.tmps)(ho:o.op=.call {callee:=.builtin .clear,args:=args,argTypes:=ats})
  (h1:args.toList=[x]) (h2:ats.toList=[t]) (ht:P.underlying t=some (.slice e)) (hz:Program.zeroA P e=some z) (hx:C7 x=some x') (E3:VN E.h z (get fr x')=some (v,h')):Ji P a o E v h':=by
 have hv:=C8 hf hx;unfold VN at E3;split at E3
 .rename_i b q xs hg;split at E3
  .rename_i h0;cases E3;rw[hg]at hv;simp only[VR,PV]at hv;obtain⟨ad,len,cap,e1,e2,_⟩:=hv;have:len=0:=by omega
   subst this;refine⟨_,.tuple #[],E,UJ ho h1 h2 ?_,.inl rfl,Ext.refl E,hS,rfl,Ig E⟩;rw[e1];cases ad<;>simp[Builtin.clear_,run_underlying ht]
  .cases E3
 .rename_i k n off len hg;split at E3
  .rename_i f hfk;split at E3
   .rename_i hc;obtain⟨c1,c2,c3,c4⟩:=hc;cases E3;rw[hg]at hv;simp only[VR]at hv;obtain⟨base,cap,f',e1,hf',_,e5⟩:=hv;have:f'=f:=by rw[hfk]at hf';simpa using hf'.symm
    subst this;obtain⟨l1,l2,l3,l4,l5⟩:=e5 c1;cases len with
    |zero =>
     have Zy:E.h.fams.set k {f' with xs:=f'.xs.take off++zf1z 0 z++f'.xs.drop (off+0)}=E.h.fams:=bI (by simpa using hfk)
     refine⟨_,.tuple #[],E,UJ ho h1 h2 ?_,.inl rfl,Ext.refl E,hS,by rw[Zy],Ig E⟩;rw[e1];cases base<;>simp[Builtin.clear_,run_underlying ht]
    |succ m =>
     have hF:=hS.fams k f' hfk;have Am:=hF.room;have hbase:=l5 a_;obtain⟨cur,t',k1,k2,k3⟩:=hF.cells;obtain⟨i,zv,q1,q2,q3,q4,q5⟩:=Fn hz;have X9:=hF.sz;obtain⟨zv',q2',cM,_,hrow,hone⟩:=Pv (E:=E) hz (n:=m+1) q1 (by
      have hpv:=EF (w:=E.w) (ok:=E.ok) q4;obtain⟨g1,_⟩:=Rj hpv q5;have:=(Jl g1).1;simp at this;omega)
     rw[q2]at q2';cases q2';have hfi:f'.sz=i.size:=by omega
     have CN:(Builtin.zeroCells zv.cells (m+1))=madeCells zv.cells ((m+1)*i.size):=by rw[←q3];rfl
     have hnl:(madeCells zv.cells ((m+1)*i.size)).toList.length=(m+1)*f'.sz:=by rw[hfi];simp[size_madeCells]
     have P5:(E.im k).o+(off-(E.im k).lo)*f'.sz+(m+1)*f'.sz<=cur.size:=by
      have h3:(off-(E.im k).lo+(m+1))*f'.sz<=(E.im k).cap*f'.sz:=zf7z _ a_;rw[zg3z]at h3;omega
     have X8:=run_storeCells_at P (E.im k).b ((E.im k).o+(off-(E.im k).lo)*f'.sz) t' (madeCells zv.cells ((m+1)*i.size)).toList 0 cur E.w k1 (by rw[hnl];omega) hone;simp only[Nat.add_zero]at X8;obtain⟨us,Wk⟩:∃us:Array Value,us=(cur.toList.take ((E.im k).o+(off-(E.im k).lo)*f'.sz)++(madeCells zv.cells ((m+1)*i.size)).toList++cur.toList.drop ((E.im k).o+(off-(E.im k).lo)*f'.sz+(madeCells zv.cells ((m+1)*i.size)).toList.length)).toArray:=⟨_,rfl⟩;rw[←Wk]at X8;have hget:∀j:Nat,us[j]?=if j<(E.im k).o+(off-(E.im k).lo)*f'.sz then cur[j]? else if j<(E.im k).o+(off-(E.im k).lo)*f'.sz+(m+1)*f'.sz then (madeCells zv.cells ((m+1)*i.size)).toList[j-((E.im k).o+(off-(E.im k).lo)*f'.sz)]? else cur[j]?:=by
      intro j;have:=Hk (l:=cur.toList) (off:=(E.im k).o+(off-(E.im k).lo)*f'.sz) (vs:=(madeCells zv.cells ((m+1)*i.size)).toList) (by rw[hnl];simpa using P5) j;rw[hnl]at this;simp only[zf6z]at this;rw[Wk,List.getElem?_toArray,hnl,this,zf6z]
     have D6:f'.xs.length=({f' with xs:=f'.xs.take off++zf1z (m+1) z++f'.xs.drop (off+(m+1))}:Fam).xs.length:=by
      show f'.xs.length=(f'.xs.take off++zf1z (m+1) z++f'.xs.drop (off+(m+1))).length;simp only[zg0z,zg6z,List.length_replicate,List.length_drop];omega
     have hkeep:f'.wr=false->∀j,j<(E.im k).o+(f'.xs.length-(E.im k).lo)*f'.sz->us[j]?=cur[j]?:=λh=>by rw[c3]at h;cases h
     refine⟨_,.tuple #[],E.setFam k us {f' with xs:=f'.xs.take off++zf1z (m+1) z++f'.xs.drop (off+(m+1))},UJ ho h1 h2 ?_,.inl rfl,Kt hS hfk k1 rfl rfl (zg9z D6) hkeep,
      QU hS hfk k1 rfl rfl (zg9z D6) hkeep (by rw[←D6];exact Am) (by rw[Wk];simp[hnl];omega) ?_,rfl,Ig _⟩
     .rw[e1,hbase];have hzr:(zeroValue e).run P E.w=.ok zv E.w:=by simp[zeroValue,typeInfo,q1,q2]
      simp[Builtin.clear_,run_underlying ht,hzr,CN,X8,Env.setFam]
     .intro j x'' hj hx'';have hxx:=hx'';have ho':off<=f'.xs.length:=by omega
      by_cases hj1:j<off
      .rw[zg1z,zf3z f8,zf9z,if_pos hj1]at hxx;obtain⟨g1,g2⟩:=k3 j x'' hj hxx;refine⟨g1,λc y hy=>?_⟩;obtain⟨w,w1,w2⟩:=g2 c y hy;have Au:c<f'.sz:=by have:=(zf4z.1 hy).1;omega
       have:=DE (show j-(E.im k).lo<off-(E.im k).lo by omega) Au;exact⟨w,by rw[hget,if_pos a_];exact w1,w2⟩
      .by_cases hj2:j<off+(m+1)
       .rw[zg1z,zf2z f8,zf3z f8]at hxx;rw[show (f'.xs.take off).length=off from by simp;omega]at hxx;obtain⟨g1,g2⟩:=hrow (j-off) x'' hxx;refine⟨a_,λc y hy=>?_⟩;obtain⟨w,w1,w2⟩:=g2 c y hy;have Au:c<f'.sz:=by have:=(zf4z.1 hy).1;omega
        have V5:(E.im k).o+(j-(E.im k).lo)*f'.sz+c=(E.im k).o+(off-(E.im k).lo)*f'.sz+((j-off)*i.size+c):=by
         rw[show j-(E.im k).lo=(off-(E.im k).lo)+(j-off) from by omega,zg3z,hfi];omega
        have:=DE (show j-off<m+1 by omega) Au;refine⟨w,?_,w2⟩;rw[V5,hget,if_neg a_,if_pos (by rw[←hfi];omega),show (E.im k).o+(off-(E.im k).lo)*f'.sz+((j-off)*i.size+c)-((E.im k).o+(off-(E.im k).lo)*f'.sz)=(j-off)*i.size+c from by omega];exact w1
       .rw[zf2z f8,List.getElem?_drop]at hxx;have hjj:off+(m+1)+(j-(f'.xs.take off++zf1z (m+1) z).length)=j:=by simp;omega
        rw[hjj]at hxx;obtain⟨g1,g2⟩:=k3 j x'' hj hxx;refine⟨g1,λc y hy=>?_⟩;obtain⟨w,w1,w2⟩:=g2 c y hy;refine⟨w,?_,w2⟩;have hge:(off-(E.im k).lo)*f'.sz+(m+1)*f'.sz<=(j-(E.im k).lo)*f'.sz:=by
         rw[←zg3z];exact zf7z _ a_
        rw[hget,if_neg a_,if_neg a_];exact w1
   .cases E3
  .cases E3
 .cases E3
theorem d_mkv{t e l c l' c' z v i h'}(hS:SR E)(hf:FR E fr a.tmps)(ho:o.op=.makeSlice t l c)(hu:P.underlying t=some (.slice e))(hi:P.info? e=some i)(hz:Program.zeroA P e=some z)
  (V5:0<i.size) (hl:C7 l=some l') (hc:C7 c=some c') (E3:pb E.h z i.bytes (get fr l') (get fr c')=some (v,h')):Ji P a o E v h':=by
 unfold pb at E3;split at E3
 .rename_i k1 x k2 y hx hy;split at E3
  .rename_i hcc;obtain⟨h0,rfl,hb,hm⟩:=hcc;cases E3;have e1:=C8 hf hl;have e2:=C8 hf hc;rw[hx]at e1;rw[hy]at e2;simp only[VR]at e1 e2;obtain⟨zv,h2,cM,h3,hr,h1⟩:=Pv (E:=E) hz (n:=x.toNat) hi V5;have hrun:=run_make (P:=P) E.w t e i zv hu hi h2 k1 k2 x x h0 (zt1z _) (by rw[zg8z];unfold K7 at hb;omega) (by unfold maxLen at hm;omega);have hpv:=kN (e:=e) hS (by rw[←cM]at V5;exact V5) (by rw[cM];exact hr) f8;have hb:Bl E.w.heap.size E.w (E.w.alloc (.cells (madeCells zv.cells (x.toNat*i.size)) e)):=⟨(Below.refl _ _).alloc (zf5z _) _,λ_=>zf5z _⟩;refine⟨_,.slice (some ⟨E.w.heap.size,0,none⟩) x.toNat x.toNat,{E with w:=E.w.alloc (.cells (madeCells zv.cells (x.toNat*i.size)) e)},?_,.inl rfl,Bi hS hb,FO hS hb,rfl,?_⟩
   .simp only[execOp,ho,e1,e2,Sem.run_bind,hrun,Result.andThen_ok,Sem.run_pure]
   .refine CR _ _ ?_;simpa using hpv
  .cases E3
 .cases E3
theorem kG{α:Type}(l):∀(n j:Nat) (c:α),((zf1z n l).flatten)[j]?=some c->∃i q,i<n/\j=i*l.length+q/\l[q]?=some c
 |0,j,c,h=>by simp at h
 |n+1,j,c,h=>by
  rw[zf8z,zg2z]at h;by_cases hj:j<l.length
  .rw[zf3z hj]at h;exact⟨0,j,a_,a_,h⟩
  .rw[zf2z a_]at h;obtain⟨i,q,h1,h2,h3⟩:=kG l n _ c h;exact⟨i+1,q,a_,by rw[zt0z];omega,h3⟩
theorem kH{α:Type}(l:List α):∀n,((zf1z n l).flatten).length=n*l.length
 |0=>by simp
 |n+1=>by rw[zf8z,zg2z,zg0z,kH l n,zt0z];omega
theorem d_mkb{t e l c l' c' z v i h'}(hS:SR E)(hf:FR E fr a.tmps)(ho:o.op=.makeSlice t l c)(hu:P.underlying t=some (.slice e))(hi:P.info? e=some i)(hz:Program.zeroA P e=some z)
  (V5:0<i.size) (hl:C7 l=some l') (hc:C7 c=some c') (E3:aI E.h z i.bytes (get fr l') (get fr c')=some (v,h')):Ji P a o E v h':=by
 unfold aI at E3;split at E3
 .rename_i k1 x k2 y hx hy;split at E3
  .rename_i hcc;obtain⟨h0,rfl,hb,hm⟩:=hcc;cases E3;have e1:=C8 hf hl;have e2:=C8 hf hc;rw[hx]at e1;rw[hy]at e2;simp only[VR]at e1 e2;obtain⟨zv,h2,cM,h3,hr,h1⟩:=Pv (E:=E) hz (n:=x.toNat) hi V5;have hrun:=run_make (P:=P) E.w t e i zv hu hi h2 k1 k2 x x h0 (zt1z _) (by rw[zg8z];unfold K7 at hb;omega) (by unfold maxLen at hm;omega);have Ki:i7 E (zf1z x.toNat z.cells).flatten (madeCells zv.cells (x.toNat*i.size)).toList:=by
    refine Rl (by rw[kH,cM,Array.length_toList,size_madeCells]) λj c u hc hu'=>?_;obtain⟨p,q,p1,p2,p3⟩:=kG _ _ _ _ hc;obtain⟨g1,g2⟩:=hr p z (by rw[List.getElem?_replicate,if_pos p1]);obtain⟨w,w1,_,w3⟩:=g2 q c p3;rw[cM]at p2;rw[←p2,hu']at w1;cases w1;exact CR _ _ w3
   refine⟨_,.slice (some ⟨E.w.heap.size,0,none⟩) x.toNat x.toNat,E.newBox (madeCells zv.cells (x.toNat*i.size)) e (zf1z x.toNat z.cells).flatten,?_,.inl rfl,Hj hS _ _ _,XN hS Ki h1,rfl,?_⟩
   .simp only[execOp,ho,e1,e2,Sem.run_bind,hrun,Result.andThen_ok,Sem.run_pure,Env.newBox]
   .simp only[VR];exact⟨Rz rfl (NN Ki),_,by simp only[Env.newBox,X5],zf5z _,a_⟩
  .cases E3
 .cases E3
end
section
variable {E:Env} {P:Program} {fr:Fr} {a:Act} {o:Oper} {O:Orc} {c:Ctx}
def ROp.isCall:ROp->Bool
 | .call .. | .callv ..=>true
 |_=>false
theorem xU{el z:AV}{cs}(h:el.reform cs=some z)(hl:cs.length=el.cells.length)(hf:∀x∈cs,x.cells=[x]\/∃aas,el=.agg aas):z.cells=cs:=by
 cases el<;>simp only[AV.reform]at h
 case agg=>cases h;rfl
 all_goals
  simp only[AV.cells,zg5z,zg7z]at hl;cases cs with
  |nil=>simp at hl
  |cons c r =>
   have hr:r=[]:=by simpa using hl
   subst hr;simp at h;subst h;rcases hf c e_ with h' | ⟨aas,h'⟩
   .exact h'
   .cases h'
theorem Sb{t x y x' y' n k m i q sz h1}(hS:SR E)(hf:FR E fr a.tmps)(AT:o.op=.store t x y)(hn:Program.size? P t=some n)(hx:C7 x=some x')(hy:C7 y=some y')
  (hg:get fr x'=.ep k m i q sz) (X8:Ic E.h n (get fr y') k m i q sz=some h1):Ji P a o E B9 h1:=by
 unfold Ic at X8;split at X8
 .rename_i f hfk;split at X8
  .rename_i hc;split at X8
   .rename_i el u Ry hu;split at X8
    .rename_i hl;simp only[zf0z]at X8;obtain⟨z,hz,rfl⟩:=X8;refine zI hS hf AT hn hx hy hg hfk hc.1 hc.2.1 hc.2.2 Ry hu hl.1 hl.2 (xU hz (by simp[j8];omega) λw hw=>?_);by_cases hag:∃aas,el=.agg aas
     .exact .inr hag
     .refine .inl ?_;have hel1:el.cells=[el]:=by cases el<;>first|rfl|exact absurd ⟨_,rfl⟩ hag
      rw[hel1]at hw hl;simp only[zg5z,zg7z]at hl;have hF:=hS.fams k f hfk;obtain⟨hPu,hut⟩:=NF hS (am:=false) (ok':=E.ok) ⟨λ_ _ h=>h,λh=>by cases h⟩ (C8 hf hy) hu;obtain⟨g1,g2⟩:=Rj hPu hut;have hcell:∀{w:AV} {u:Value},PV E.w E.ok w u->u.oneCell'=true->w.cells=[w]:=by
       intro w u h1 h2;cases w<;>first|rfl|(simp only[PV]at h1;obtain⟨us,rfl,_⟩:=h1;simp[Value.oneCell']at h2)
      unfold j8 at hw;simp only[List.mem_append]at hw;rcases hw with (hw|hw)|hw
      .have:=List.mem_of_mem_take hw;simp at this;subst this;exact hel1
      .obtain⟨j,hj⟩:=List.getElem?_of_mem hw;obtain⟨u',k1,k2⟩:=(Jl g1).2 hj;exact hcell k2 (g2 u' (List.mem_of_getElem? k1))
      .have:=List.mem_of_mem_drop hw;simp at this;subst this;exact hel1
    .cases X8
   .cases X8
  .cases X8
 .cases X8
theorem A1f{n x y h h' v}(he:A7 O c (.ste n x y) fr h=some (v,h')):DX h n (get fr y) (get fr x)=some h'/\v=B9:=by
 simp only[A7,WW]at he;split at he
 .rename_i k m i q s hg;split at he
  .rename_i hfl;split at he
   .rename_i h1 hq;cases he;simp only[hg,DX,kU];rw[DB h false hfl];exact⟨hq,trivial⟩
   .cases he
  .cases he
 .cases he
theorem A1c{n x y h h' v}(he:A7 O c (.stb n x y) fr h=some (v,h')):DX h n (get fr y) (get fr x)=some h'/\v=B9:=by
 simp only[A7,TP]at he;split at he
 .rename_i b q hg;split at he
  .rename_i cs Au;split at he
   .rename_i hc;cases he;simp only[hg,DX,Au];rw[if_pos hc];exact⟨rfl,trivial⟩
   .rename_i hc;rw[zf0z]at he;obtain⟨h1,h2,h3⟩:=he;cases h3;simp only[hg,DX,Au];rw[if_neg hc,h2];exact⟨rfl,trivial⟩
  .cases he
 .cases he
theorem Ji.lay{h1}(h:Ji P a o E B9 h1)(b x):Ji P a o E B9 (XM b h1 x):=by
 unfold XM;split
 .obtain⟨nx,u,E',e1,e3,e4,e5,e6,e7⟩:=h;obtain⟨E2,r2,q2⟩:=iO e5 x;exact⟨nx,u,E2,by rw[r2.w];exact e1,e3,e4.trans r2.ext,r2.sr,by rw[q2,e6],Wp r2.ext _ _ e7⟩
 .exact h
theorem tI(hS:SR E)(hf:FR E fr a.tmps){r r0}(hr:o8 P o.op=some r0)(Aj:r=r0\/∃m,r=r0.lax m){v h'}(E3:A7 O c r fr E.h=some (v,h'))(hnc:r.isCall=false):Ji P a o E v h':=by
 cases AT:o.op with
 |move x =>
  rw[AT]at hr;simp only[o8,zf0z]at hr;obtain⟨y,hy,rfl⟩:=hr;obtain rfl:r=.mov y:=by rcases Aj with h|⟨_,h⟩<;>exact h
  simp only[A7]at E3;cases E3;exact(q_mov hf (.inl AT) hy).does hS
 |assign x =>
  rw[AT]at hr;simp only[o8,zf0z]at hr;obtain⟨y,hy,rfl⟩:=hr;obtain rfl:r=.mov y:=by rcases Aj with h|⟨_,h⟩<;>exact h
  simp only[A7]at E3;cases E3;exact(q_mov hf (.inr AT) hy).does hS
 |pick q x y =>
  rw[AT]at hr;simp only[o8]at hr;split at hr
  .rename_i q' x' y' h1 h2 h3;cases hr;obtain rfl:r=.pick q' x' y':=by rcases Aj with h|⟨_,h⟩<;>exact h
   simp only[A7]at E3;split at E3
   .rename_i t ht;cases E3;exact(q_pick hf AT h1 h2 h3 ht).does hS
   .cases E3
  .cases hr
 |alloc t =>
  rw[AT]at hr;simp only[o8,zf0z]at hr;obtain⟨z,hz,rfl⟩:=hr;obtain rfl:r=.alloc (Mz t z):=by rcases Aj with h|⟨_,h⟩<;>exact h
  simp only[A7]at E3;cases E3;exact d_alloc hS AT hz
 |box t x =>
  rw[AT]at hr;simp only[o8,zf0z]at hr;obtain⟨y,hy,rfl⟩:=hr;obtain rfl:r=.box y:=by rcases Aj with h|⟨_,h⟩<;>exact h
  simp only[A7]at E3;split at E3
  .cases E3
  .rename_i ht;cases E3;exact d_box hS hf AT hy (by simpa using ht)
 |build t parts =>
  rw[AT]at hr;simp only[o8]at hr;split at hr
  .rename_i fs zs hu hz;split at hr
   .rename_i hs;simp only[zf0z]at hr;obtain⟨ps,hp,rfl⟩:=hr;obtain rfl:r=.build (.agg zs) ps:=by rcases Aj with h|⟨_,h⟩<;>exact h
    simp only[A7,AV.cells]at E3;split at E3
    .rename_i qs hq;cases E3;exact(q_build hf AT hu hz hs hp hq).does hS
    .cases E3
   .cases hr
  .cases hr
 |buildSlice t len parts =>
  rw[AT]at hr;simp only[o8]at hr;split at hr
  .rename_i e hu;split at hr
   .rename_i z n ps hz hn hp;split at hr
    .rename_i hc;cases hr;have E3:A7 O c (.bslice len z ps) fr E.h=some (v,h'):=by
      rcases Aj with rfl|⟨_,rfl⟩
      .exact E3
      .simp only[ROp.lax,A7]at E3;split at E3
       .simp only[A7];exact E3
       .cases E3
     simp only[A7]at E3;split at E3
     .rename_i xs hx;cases E3;exact zF hS hf AT hu hz hn hc.1 hc.2 hp hx
     .cases E3
    .cases hr
   .cases hr
  .cases hr
 |load t x =>
  rw[AT]at hr;simp only[o8]at hr;split at hr
  .rename_i b n y hb hn hy;cases hr;have key:∃w,X3 E.h b n (get fr y)=some w/\(w,E.h)=(v,h'):=by
    rcases Aj with rfl|⟨_,rfl⟩
    .simp only[A7]at E3;split at E3
     .rename_i w hw;exact⟨w,hw,by simpa using E3⟩
     .cases E3
    .simp only[ROp.lax,A7]at E3;split at E3
     .cases E3
     .split at E3
      .rename_i w hw;exact⟨w,hw,by simpa using E3⟩
      .cases E3
   obtain⟨w,hw,he⟩:=key;cases he;exact(q_ld hS hf AT hb hn hy hw).does hS
  .cases hr
 |store t x y =>
  rw[AT]at hr;simp only[o8]at hr;split at hr
  .rename_i n x' y' hn hx hy;cases hr;have hev0:∃h1 b,DX E.h n (get fr y') (get fr x')=some h1/\v=B9/\h'=XM b h1 (get fr y'):=by
    have X8:A7 O c (.st n x' y') fr E.h=some (v,h')->∃h1 b,DX E.h n (get fr y') (get fr x')=some h1/\v=B9/\h'=XM b h1 (get fr y'):=λE3=>by
     simp only[A7]at E3;split at E3
     .rename_i h1 X8;cases E3;exact⟨h1,c.lay,X8,rfl,rfl⟩
     .cases E3
    rcases Aj with rfl|⟨m,rfl⟩
    .exact X8 E3
    .obtain⟨m,mk⟩:=m;cases m with
     |none=>exact X8 E3
     |some b =>
      cases b with
      |true=>exact⟨h',false,(A1f E3).1,(A1f E3).2,rfl⟩
      |false=>exact⟨h',false,(A1c E3).1,(A1c E3).2,rfl⟩
   clear E3 Aj;obtain⟨h1,bl,X8,rfl,rfl⟩:=hev0;refine Ji.lay ?_ bl _
   .unfold DX at X8;split at X8
    .rename_i b off hg;split at X8
     .rename_i cs Au;split at X8
      .rename_i hc;cases X8;exact zH hS hf AT hn hx hy hg Au hc.1 hc.2.1 hc.2.2.1 hc.2.2.2
      .unfold mz at X8;split at X8
       .split at X8
        .rename_i hc;cases X8;exact vk hS hf AT hn hx hy hg Au hc.1 hc.2.1 hc.2.2
        .cases X8
       .cases X8
     .cases X8
    .rename_i k m i q sz hg;split at X8
     case h_2=>cases X8
     rename_i h2 hlay;unfold kU at hlay;split at hlay
     .cases hlay;exact Sb hS hf AT hn hx hy hg X8
     .unfold mG at hlay;split at hlay
      case h_3=>cases hlay
      .rename_i cs2 hgy;cases hlay;obtain⟨E2,r2,e2⟩:=iP cs2 hS;rw[←e2]at X8;obtain⟨nx,u,E',e1,e3,e4,e5,e6,e7⟩:=Sb (E:=E2) r2.sr (hf.ext r2.ext) AT hn hx hy hg X8;exact⟨nx,u,E',by rw[←r2.w];exact e1,e3,r2.ext.trans e4,e5,e6,e7⟩
      rename_i k2 n2 off2 wP hgy;split at hlay
      case h_2=>cases hlay
      rename_i f2 hf2;cases hlay;have hx1:=Ua hf2;obtain⟨nx,u,E',e1,e2,e3,e4,e5,e6⟩:=Sb (E:=E.rstFam k2 f2) (eS hS hf2) (hf.ext hx1) AT hn hx hy hg X8;exact⟨nx,u,E',e1,e2,hx1.trans e3,e4,e5,e6⟩
    .cases X8
  .cases hr
 |nilCheck x =>
  rw[AT]at hr;simp only[o8,zf0z]at hr;obtain⟨y,hy,rfl⟩:=hr;obtain rfl:r=.nilck y:=by rcases Aj with h|⟨_,h⟩<;>exact h
  simp only[A7]at E3;have:h'=E.h:=by split at E3<;>first|(cases E3;rfl)|cases E3
  subst this;exact(q_nilck hf AT hy E3).does hS
 |binOp op t x y t' =>
  rw[AT]at hr;simp only[o8]at hr;split at hr
  .rename_i x' y' hx hy;have gen:r0=.bin op x' y'->Ji P a o E v h':=by
    intro h;subst h;obtain rfl:r=.bin op x' y':=by rcases Aj with h|⟨_,h⟩<;>exact h
    simp only[A7]at E3;split at E3
    .rename_i w hw;cases E3;exact(q_bin hf AT hx hy hw).does hS
    .cases E3
   split at hr
   .rename_i ht;cases hr;obtain rfl:r=.beq false x' y':=by rcases Aj with h|⟨_,h⟩<;>exact h
    simp only[A7]at E3;split at E3
    .rename_i i j hi hj;cases E3;exact(q_beq (neg:=false) hf AT ht hx hy hi hj).does hS
    .cases E3
   .rename_i ht;cases hr;obtain rfl:r=.beq true x' y':=by rcases Aj with h|⟨_,h⟩<;>exact h
    simp only[A7]at E3;split at E3
    .rename_i i j hi hj;cases E3;exact(q_beq (neg:=true) hf AT ht hx hy hi hj).does hS
    .cases E3
   .rename_i ht;split at hr
    .cases hr;obtain rfl:r=.nileq false x':=by rcases Aj with h|⟨_,h⟩<;>exact h
     simp only[A7]at E3;obtain⟨rfl,hq⟩:=q_nq (neg:=false) hf AT ht hx hy E3;exact hq.does hS
    .cases hr
   .rename_i ht;split at hr
    .cases hr;obtain rfl:r=.nileq true x':=by rcases Aj with h|⟨_,h⟩<;>exact h
     simp only[A7]at E3;obtain⟨rfl,hq⟩:=q_nq (neg:=true) hf AT ht hx hy E3;exact hq.does hS
    .cases hr
   .cases hr;exact gen rfl
  .cases hr
 |unOp op t x =>
  rw[AT]at hr;simp only[o8,zf0z]at hr;obtain⟨y,hy,rfl⟩:=hr;obtain rfl:r=.un op y:=by rcases Aj with h|⟨_,h⟩<;>exact h
  simp only[A7]at E3;split at E3
  .rename_i w hw;cases E3;exact(q_un hf AT hy hw).does hS
  .cases E3
 |convert s d x =>
  rw[AT]at hr;simp only[o8]at hr;split at hr
  .rename_i k0 k hs hd;simp only[zf0z]at hr;obtain⟨y,hy,rfl⟩:=hr;obtain rfl:r=.conv k y:=by rcases Aj with h|⟨_,h⟩<;>exact h
   simp only[A7]at E3;split at E3
   .rename_i q n hq;cases E3;exact(q_conv hf AT hs hd hy hq).does hS
   .cases E3
  .rename_i e hs hd;split at hr
   .rename_i he;simp only[zf0z]at hr;obtain⟨y,hy,rfl⟩:=hr;obtain rfl:r=.bstr y:=by rcases Aj with h|⟨_,h⟩<;>exact h
    simp only[A7]at E3;exact q_bstr hS hf AT hs hd he hy E3
   .cases hr
  .cases hr
 |makeFunc fn first caps =>
  rw[AT]at hr;cases fn<;>simp only[o8]at hr<;>try (cases hr;done)
  split at hr
  .rename_i f h0;simp only[zf0z]at hr;obtain⟨cs,hc,rfl⟩:=hr;obtain rfl:r=.clos _ cs:=by rcases Aj with h|⟨_,h⟩<;>exact h
   simp only[A7]at E3;split at E3
   .exact zG hS hf AT h0 hc E3
   .cases E3;exact(q_clos hf AT h0 hc).does hS
  .cases hr
 |makeSlice t l q =>
  rw[AT]at hr;simp only[o8]at hr;split at hr
  .rename_i e hu;split at hr
   .rename_i i z l' q' hi hz hl hq;split at hr
    .rename_i V5;cases hr;have hcase:r=.mkslice z i.bytes l' q'\/r=.mkv z i.bytes l' q':=by
      rcases Aj with h|⟨⟨m,mk⟩,h⟩
      .exact .inl h
      .cases mk
       .exact .inl h
       .exact .inr h
     rcases hcase with rfl|rfl
     case inr=>exact d_mkv hS hf AT hu hi hz V5 hl hq E3
     simp only[A7]at E3;split at E3
     .rename_i k1 x k2 y hx hy;split at E3
      .rename_i hc;cases E3;exact vj hS hf AT hu hi hz V5 hl hq hx hy hc.1 hc.2.1 hc.2.2.1 hc.2.2.2
      .cases E3
     .cases E3
    .cases hr
   .cases hr
  .cases hr
 |slice t x lo hi mx =>
  rw[AT]at hr;simp only[o8]at hr;split at hr
  .rename_i x' lo' BR ht hx Uv gO hmx;cases hr;obtain rfl:r=.slc 0 x' lo' BR none:=by rcases Aj with h|⟨_,h⟩<;>exact h
   have hmn:mx=none:=by
    cases mx with
    |none=>rfl
    |some m=>simp[Ib]at hmx
   subst hmn;simp only[A7]at E3;split at E3
   .rename_i l u m hl hu hm;simp only[AA]at hm;cases hm;split at E3
    .rename_i w hw;cases E3;unfold KM at hw;split at hw
     .rename_i s hs;dsimp only at hw;split at hw
      .rename_i hc;cases hw;exact(xK hf AT ht hx Uv gO hs hl hu hc.2.2.1 hc.2.2.2.1 hc.2.2.2.2).does hS
      .cases hw
     .simp at hw
     .split at hw<;>simp at hw
     .cases hw
    .cases E3
   .cases E3
  .rename_i e x' lo' BR mx' ht hx Uv gO hmx;split at hr
   .rename_i n hn;split at hr
    .rename_i V5;cases hr;obtain rfl:r=.slc n x' lo' BR mx':=by rcases Aj with h|⟨_,h⟩<;>exact h
     simp only[A7]at E3;split at E3
     .rename_i l u m hl hu hm;split at E3
      .rename_i w hw;cases E3;unfold KM at hw;split at hw
       .simp[show ¬n=0 from by omega]at hw
       .rename_i full z xs hg;dsimp only at hw;simp only[V5,true_and]at hw;split at hw
        .rename_i hz;split at hw
         .split at hw
          .rename_i hc;cases hw;exact(ly hf AT ht hn hx Uv gO hmx hg hl hu hm hz hc.1 hc.2.1 (.inl ⟨rfl,hc.2.2,rfl⟩)).does hS
          .cases hw
         .rename_i q;split at hw
          .rename_i hc;cases hw;exact(ly hf AT ht hn hx Uv gO hmx hg hl hu hm hz hc.2.1 hc.2.2.1 (.inr ⟨q,rfl,hc.1,hc.2.2.2.1,hc.2.2.2.2,rfl⟩)).does hS
          .cases hw
        .cases hw
       .rename_i k m0 off len hg;dsimp only at hw;split at hw
        .rename_i f hfk;simp only[V5,true_and]at hw;split at hw
         .rename_i hz;split at hw
          .split at hw
           .rename_i hc;cases hw;exact(WJ hS hf AT ht hn hx Uv gO hmx hg hl hu hm hfk hz.1 hz.2 (.inl (.inl ⟨rfl,hc.1,hc.2.1,.inl hc.2.2,rfl⟩))).does hS
           .split at hw
            .rename_i hc;cases hw;exact(WJ hS hf AT ht hn hx Uv gO hmx hg hl hu hm hfk hz.1 hz.2 (.inl (.inl ⟨rfl,hc.1,hc.2.1,.inr hc.2.2,rfl⟩))).does hS
            .cases hw
          .rename_i q;split at hw
           .rename_i hc;cases hw;obtain⟨c1,c2,c3,rfl⟩:=hc;exact(WJ hS hf AT ht hn hx Uv gO hmx hg hl hu hm hfk hz.1 hz.2 (.inl (.inr ⟨rfl,c1,c2,c3,rfl⟩))).does hS
           .split at hw
            .rename_i hc;cases hw;exact(WJ hS hf AT ht hn hx Uv gO hmx hg hl hu hm hfk hz.1 hz.2 (.inr ⟨q,rfl,hc.1,hc.2.1,hc.2.2.1,hc.2.2.2.1,hc.2.2.2.2,rfl⟩)).does hS
            .cases hw
         .cases hw
        .cases hw
       .cases hw
      .cases E3
     .cases E3
    .cases hr
   .cases hr
  .cases hr
 |fieldAddr s x i =>
  rw[AT]at hr;simp only[o8]at hr;split at hr
  .rename_i fs x' hs hx;split at hr
   .rename_i f hi;split at hr
    .rename_i n hn;split at hr
     .rename_i V5;cases hr;obtain rfl:r=.faddr f.offset x':=by rcases Aj with h|⟨_,h⟩<;>exact h
      simp only[A7]at E3;have:h'=E.h:=by split at E3<;>first|(cases E3;rfl)|cases E3
      subst this;exact(q_faddr hf AT hs hi hn V5 hx E3).does hS
     .cases hr
    .cases hr
   .cases hr
  .cases hr
 |field s x i =>
  rw[AT]at hr;simp only[o8]at hr;split at hr
  .rename_i fs x' hs hx;split at hr
   .rename_i f hi;split at hr
    .rename_i b n hb hn;cases hr;obtain rfl:r=.fld b f.offset n x':=by rcases Aj with h|⟨_,h⟩<;>exact h
     simp only[A7]at E3;split at E3
     .rename_i cs hg;split at E3
      .rename_i w hw;cases E3;exact(q_fld hf AT hs hi hb hn hx hg hw).does hS
      .cases E3
     .cases E3
    .cases hr
   .cases hr
  .cases hr
 |indexAddr t x i =>
  rw[AT]at hr;simp only[o8]at hr;split at hr
  .rename_i e x' i' ht hx hi;split at hr
   .rename_i n hn;split at hr
    .cases hr;obtain rfl:r=.iaddr n x' i':=by rcases Aj with h|⟨_,h⟩<;>exact h
     simp only[A7]at E3;have:h'=E.h:=by
      split at E3
      .split at E3
       .split at E3<;>first|(cases E3;rfl)|cases E3
       .cases E3
      .split at E3<;>first|(cases E3;rfl)|cases E3
      .split at E3<;>first|(cases E3;rfl)|cases E3
      .cases E3
     subst this;exact(q_iaddr hS hf AT ht hn hx hi E3).does hS
    .cases hr
   .cases hr
  .cases hr
 |index t x i =>
  rw[AT]at hr;simp only[o8]at hr;split at hr
  .rename_i x' i' ht hx hi;cases hr;obtain rfl:r=.idx x' i':=by rcases Aj with h|⟨_,h⟩<;>exact h
   simp only[A7]at E3;split at E3
   .rename_i s q j hg hj;split at E3
    .rename_i h0;split at E3
     .rename_i b hb;cases E3;exact(q_idx hf AT ht hx hi hg hj h0 hb).does hS
     .cases E3
    .cases E3
   .cases E3
  .cases hr
 |extract x i =>
  rw[AT]at hr;simp only[o8,zf0z]at hr;obtain⟨y,hy,rfl⟩:=hr;obtain rfl:r=.ext y i:=by rcases Aj with h|⟨_,h⟩<;>exact h
  simp only[A7]at E3;split at E3
  .rename_i vs hg;split at E3
   .rename_i w hw;cases E3;exact(q_ext hf AT hy hg hw).does hS
   .cases E3
  .cases E3
 |call q =>
  rw[AT]at hr;obtain⟨callee,args,ats⟩:=q;cases callee with
  |invoke x m=>simp[o8]at hr
  |value x =>
   cases x<;>simp only[o8]at hr<;>try (cases hr;done)
   .simp only[zf0z]at hr;obtain⟨aas,_,rfl⟩:=hr;rcases Aj with rfl|⟨_,rfl⟩<;>simp[ROp.isCall,ROp.lax]at hnc
   .split at hr
    .simp only[zf0z]at hr;obtain⟨aas,_,rfl⟩:=hr;rcases Aj with rfl|⟨_,rfl⟩<;>simp[ROp.isCall,ROp.lax]at hnc
    .cases hr
  |builtin b =>
   cases b<;>simp only[o8]at hr<;>try (cases hr;done)
   case append =>
    split at hr
    .rename_i s x t u h1 h2;split at hr
     .rename_i e ht;split at hr
      .rename_i i z s' x' hi hz hs hx;split at hr
       .rename_i hc;cases hr;obtain⟨V5,rfl⟩:=hc;obtain rfl:r=.app i.size i.bytes s' x':=by rcases Aj with h|⟨_,h⟩<;>exact h
        simp only[A7,N0]at E3;split at E3
        .cases E3
        .rename_i ys Uw;obtain⟨news,hsrc⟩:=xb hS hf ht hi V5 hx Uw;exact dQ hS hf AT h1 h2 ht hi hz V5 hs hsrc E3
       .split at hr
        case h_2=>cases hr
        rename_i hu;split at hr
        .rename_i hs1;cases hr;obtain rfl:r=.apps i.bytes s' x':=by rcases Aj with h|⟨_,h⟩<;>exact h
         simp only[A7,ZV]at E3;split at E3
         .rename_i str hstr;have hv:=C8 hf hx;rw[hstr]at hv;simp only[VR]at hv;have hsrc:Src P E t u e i (a.eval x) (PJ str) (Lib.strCells str):=by
           rw[hv];exact src_str ht hu hi hs1 str
          rw[←hs1]at E3;exact dQ hS hf AT h1 h2 ht hi hz a_ hs hsrc E3
         .cases E3
        .cases hr
      .cases hr
     .cases hr
    .cases hr
   case len =>
    split at hr
    .rename_i x t h1 h2;split at hr
     .rename_i ht;simp only[zf0z]at hr;obtain⟨y,hy,rfl⟩:=hr;obtain rfl:r=.len true y:=by rcases Aj with h|⟨_,h⟩<;>exact h
      simp only[A7]at E3;split at E3
      .rename_i s hs;cases E3;exact(xJ hf AT h1 h2 ht hy hs).does hS
      .cases E3
     .rename_i e ht;simp only[zf0z]at hr;obtain⟨y,hy,rfl⟩:=hr;obtain rfl:r=.len false y:=by rcases Aj with h|⟨_,h⟩<;>exact h
      simp only[A7]at E3;have:h'=E.h:=by split at E3<;>first|(cases E3;rfl)|cases E3
      subst this;exact(q_len hf AT h1 h2 ht hy E3).does hS
     .cases hr
    .cases hr
   case clear =>
    split at hr
    .rename_i x t h1 h2;split at hr
     .rename_i e ht;split at hr
      .rename_i z x' hz hx;cases hr;obtain rfl:r=.clr z x':=by rcases Aj with h|⟨_,h⟩<;>exact h
       exact d_clr hS hf AT h1 h2 ht hz hx E3
      .cases hr
     .cases hr
    .cases hr
   case max =>
    split at hr
    .rename_i x y h1;split at hr
     .rename_i x' y' hx hy;cases hr;obtain rfl:r=.max x' y':=by rcases Aj with h|⟨_,h⟩<;>exact h
      simp only[A7]at E3;split at E3
      .rename_i k i k' j hi hj;split at E3
       .cases E3;exact(q_max hf AT h1 hx hy hi hj).does hS
       .cases E3
      .cases E3
     .cases hr
    .cases hr
   case min =>
    split at hr
    .rename_i x y h1;split at hr
     .rename_i x' y' hx hy;cases hr;obtain rfl:r=.min x' y':=by rcases Aj with h|⟨_,h⟩<;>exact h
      simp only[A7]at E3;split at E3
      .rename_i k i k' j hi hj;split at E3
       .cases E3;exact(q_min hf AT h1 hx hy hi hj).does hS
       .cases E3
      .cases E3
     .cases hr
    .cases hr
 |makeMap t q =>
  cases q with
  |some q=>rw[AT]at hr;simp[o8]at hr
  |none =>
   rw[AT]at hr;simp only[o8]at hr;split at hr
   .cases hr;obtain rfl:r=.mkmap:=by rcases Aj with h|⟨_,h⟩<;>exact h
    simp only[A7]at E3;cases E3;exact d_mkmap hS AT
   .cases hr
 |lookup t x k ok =>
  rw[AT]at hr;simp only[o8]at hr;split at hr
  .rename_i kt et hu;split at hr
   .rename_i b z x' k' hk hz hx Qo;cases hr;obtain rfl:r=.mlook b ok z x' k':=by rcases Aj with h|⟨_,h⟩<;>exact h
    simp only[A7]at E3;exact d_mlook hS hf AT hu hk hz hx Qo E3
   .cases hr
  .cases hr
 |mapUpdate t m k x =>
  rw[AT]at hr;simp only[o8]at hr;split at hr
  .rename_i kt et hu;split at hr
   .rename_i b m' k' x' hk hm Qo hx;cases hr;obtain rfl:r=.mup b m' k' x':=by rcases Aj with h|⟨_,h⟩<;>exact h
    simp only[A7]at E3;exact d_mup hS hf (.inl AT) hu hk hm Qo hx E3
   .cases hr
  .cases hr
 |insert t m k x =>
  rw[AT]at hr;simp only[o8]at hr;split at hr
  .rename_i kt et hu;split at hr
   .rename_i b m' k' x' hk hm Qo hx;cases hr;obtain rfl:r=.mup b m' k' x':=by rcases Aj with h|⟨_,h⟩<;>exact h
    simp only[A7]at E3;exact d_mup hS hf (.inr AT) hu hk hm Qo hx E3
   .cases hr
  .cases hr
 |_=>rw[AT]at hr;simp[o8]at hr
theorem yp{p r}(hr:o8 P p=some r)(hp:∀t l q,p≠.makeSlice t l q):r.bxd=r:=by
 unfold o8 at hr
 repeat' (split at hr)
 all_goals first
  |(cases hr;done)
  |(exfalso;exact hp _ _ _ rfl)
  |(cases hr;rfl)
  |(simp only[zf0z]at hr;obtain⟨y,_,rfl⟩:=hr;rfl)
theorem wh(hS:SR E)(hf:FR E fr a.tmps){r r0}(hr:o8 P o.op=some r0)(Aj:(r=r0\/∃m,r=r0.lax m)\/(r=r0.bxd\/∃m,r=r0.bxd.lax m)){v h'}(E3:A7 O c r fr E.h=some (v,h'))(hnc:r.isCall=false):Ji P a o E v h':=by
 rcases Aj with Aj|Aj
 .exact tI hS hf hr Aj E3 hnc
 .by_cases hp:∃t l q,o.op=.makeSlice t l q
  .obtain⟨t,l,q,AT⟩:=hp;rw[AT]at hr;simp only[o8]at hr;split at hr
   .rename_i e hu;split at hr
    .rename_i i z l' q' hi hz hl hq;split at hr
     .rename_i V5;cases hr;obtain rfl:r=.mkb z i.bytes l' q':=by rcases Aj with h|⟨_,h⟩<;>exact h
      simp only[A7]at E3;exact d_mkb hS hf AT hu hi hz V5 hl hq E3
     .cases hr
    .cases hr
   .cases hr
  .rw[yp hr λt l q e=>hp ⟨t,l,q,e⟩]at Aj;exact tI hS hf hr Aj E3 hnc
theorem nK{p z}(hr:o8 P p=some (.alloc z)):∃t z0,p=.alloc t/\Program.zeroA P t=some z0/\z=Mz t z0:=by
 unfold o8 at hr
 repeat' (split at hr)
 all_goals first
  |(cases hr;done)
  |(simp only[zf0z]at hr;obtain⟨y,h1,h2⟩:=hr;cases h2;done)
  |(simp only[zf0z]at hr;obtain⟨y,h1,h2⟩:=hr;cases h2;exact⟨_,_,rfl,h1,rfl⟩)
theorem A0p(hS:SR E)(hf:FR E fr a.tmps){r r0}(hr:o8 P o.op=some r0)(Aj:((r=r0\/∃m,r=r0.lax m)\/(r=r0.bxd\/∃m,r=r0.bxd.lax m))\/∃n z,r0=.alloc z/\r=.allocAt n z){v h'}(E3:A7 O c r fr E.h=some (v,h'))(hnc:r.isCall=false):Ji P a o E v h':=by
 rcases Aj with Aj|⟨n,z,rfl,rfl⟩
 .exact wh hS hf hr Aj E3 hnc
 .obtain⟨t,z0,AT,hz,rfl⟩:=nK hr;simp only[A7]at E3;exact ve hS AT hz E3
end
mutual
theorem Qe{E E':Env}(hw:E'.w=E.w)(O9:∀b o,E.ok b o->E'.ok b o)(hf:E'.h.fams=E.h.fams)(him:E'.im=E.im):∀(x:AV) (v:Value),Ox x=true->VR E x v->VR E' x v
 | .agg cs,v,hn,hx=>by
  simp only[VR,Ox]at hx hn ⊢;obtain⟨us,rfl,h1,hu⟩:=hx;exact⟨us,rfl,h1,VE hw O9 hf him cs us.toList hn hu⟩
 | .tup cs,v,hn,hx=>by
  simp only[VR,Ox]at hx hn ⊢;obtain⟨us,rfl,hu⟩:=hx;exact⟨us,rfl,VE hw O9 hf him cs us.toList hn hu⟩
 | .fn f cs,v,hn,hx=>by
  simp only[VR,Ox]at hx hn ⊢;obtain⟨us,rfl,hu⟩:=hx;exact⟨us,rfl,VE hw O9 hf him cs us.toList hn hu⟩
 | .sl k n off len,v,_,hx=>by
  simp only[VR,hf,him]at hx ⊢;exact hx
 | .ep k n i c sz,v,_,hx=>by
  simp only[VR,hf,him]at hx ⊢;exact hx
 | .ptr ..,v,hn,_=>by simp[Ox]at hn
 | .mp _,v,hn,_=>by simp[Ox]at hn
 | .bsl ..,v,hn,_=>by simp[Ox]at hn
 | .vm ks vs,v,_,hx=>by
  simp only[VR]at hx ⊢;refine BS (λb o h=>⟨O9 b o h,?_⟩) _ _ hx;rw[hw];exact If.refl _ _ _
 | .vs full sz xs,v,_,hx=>by
  simp only[VR]at hx ⊢;refine BS (λb o h=>⟨O9 b o h,?_⟩) _ _ hx;rw[hw];exact If.refl _ _ _
 | .pv cs,v,_,hx=>by
  simp only[VR]at hx ⊢;refine BS (λb o h=>⟨O9 b o h,?_⟩) _ _ hx;rw[hw];exact If.refl _ _ _
 | .mbox ..,v,_,hx=>by simp[VR]at hx
 | .rbox _,v,_,hx=>by simp[VR]at hx
 | .tbox ..,v,_,hx=>by simp[VR]at hx
 | .nilm,v,_,hx=>by simpa[VR]using hx
 | .junk,v,_,hx=>by simpa[VR]using hx
 | .bool b,v,_,hx=>by simpa[VR]using hx
 | .int k n,v,_,hx=>by simpa[VR]using hx
 | .str s,v,_,hx=>by simpa[VR]using hx
 | .nilp,v,_,hx=>by simpa[VR]using hx
 | .nilf,v,_,hx=>by simpa[VR]using hx
theorem VE{E E':Env}(hw:E'.w=E.w)(O9:∀b o,E.ok b o->E'.ok b o)(hf:E'.h.fams=E.h.fams)(him:E'.im=E.im):∀(cs:b9) (us:List Value),XO cs=true->i7 E cs us->i7 E' cs us
 | [],us,_,hx=>by simpa[i7]using hx
 |c::cs,us,hn,hx=>by
  simp only[i7,XO,zg4z]at hx hn ⊢;obtain⟨u,us',rfl,h1,h2⟩:=hx;exact⟨u,us',rfl,Qe hw O9 hf him c u hn.1 h1,VE hw O9 hf him cs us' hn.2 h2⟩
end
mutual
theorem VR_keep{E0 E E':Env}(hw:E'.w=E.w)(O9:∀b o,E.ok b o->E'.ok b o)(hf:E'.h.fams=E.h.fams)(him:E'.im=E.im)(hnb:E'.nb=E.nb)(hbl:∀i,E0.Live i->E'.Live i):∀(x:AV) (v0 v:Value),VR E0 x v0->VR E x v->VR E' x v
 | .agg cs,v0,v,h0,hx=>by
  simp only[VR]at h0 hx ⊢;obtain⟨us0,-,-,hu0⟩:=h0;obtain⟨us,rfl,h1,hu⟩:=hx;exact⟨us,rfl,h1,NO hw O9 hf him hnb hbl cs us0.toList us.toList hu0 hu⟩
 | .tup cs,v0,v,h0,hx=>by
  simp only[VR]at h0 hx ⊢;obtain⟨us0,-,hu0⟩:=h0;obtain⟨us,rfl,hu⟩:=hx;exact⟨us,rfl,NO hw O9 hf him hnb hbl cs us0.toList us.toList hu0 hu⟩
 | .fn f cs,v0,v,h0,hx=>by
  simp only[VR]at h0 hx ⊢;obtain⟨us0,-,hu0⟩:=h0;obtain⟨us,rfl,hu⟩:=hx;exact⟨us,rfl,NO hw O9 hf him hnb hbl cs us0.toList us.toList hu0 hu⟩
 | .ptr b o,v0,v,h0,hx=>by
  simp only[VR]at h0 hx ⊢;exact⟨hbl _ h0.1,by rw[hnb];exact hx.2⟩
 | .mp b,v0,v,h0,hx=>by
  simp only[VR]at h0 hx ⊢;exact⟨hbl _ h0.1,by rw[hnb];exact hx.2⟩
 | .bsl b sz off len,v0,v,h0,hx=>by
  simp only[VR]at h0 hx ⊢;exact⟨hbl _ h0.1,by rw[hnb];exact hx.2⟩
 | .sl k n off len,v0,v,_,hx=>Qe hw O9 hf him _ _ rfl hx
 | .ep k n i c sz,v0,v,_,hx=>Qe hw O9 hf him _ _ rfl hx
 | .vm ks vs,v0,v,_,hx=>Qe hw O9 hf him _ _ rfl hx
 | .vs full sz xs,v0,v,_,hx=>Qe hw O9 hf him _ _ rfl hx
 | .pv cs,v0,v,_,hx=>Qe hw O9 hf him _ _ rfl hx
 | .mbox ..,v0,v,_,hx=>by simp[VR]at hx
 | .rbox _,v0,v,_,hx=>by simp[VR]at hx
 | .tbox ..,v0,v,_,hx=>by simp[VR]at hx
 | .nilm,v0,v,_,hx=>by simpa[VR]using hx
 | .junk,v0,v,_,hx=>by simpa[VR]using hx
 | .bool b,v0,v,_,hx=>by simpa[VR]using hx
 | .int k n,v0,v,_,hx=>by simpa[VR]using hx
 | .str s,v0,v,_,hx=>by simpa[VR]using hx
 | .nilp,v0,v,_,hx=>by simpa[VR]using hx
 | .nilf,v0,v,_,hx=>by simpa[VR]using hx
theorem NO{E0 E E':Env}(hw:E'.w=E.w)(O9:∀b o,E.ok b o->E'.ok b o)(hf:E'.h.fams=E.h.fams)(him:E'.im=E.im)(hnb:E'.nb=E.nb)(hbl:∀i,E0.Live i->E'.Live i):∀(cs:b9) (us0 us:List Value),i7 E0 cs us0->i7 E cs us->i7 E' cs us
 | [],us0,us,_,hx=>by simpa[i7]using hx
 |c::cs,us0,us,h0,hx=>by
  simp only[i7]at h0 hx ⊢;obtain⟨u0,us0',rfl,k1,k2⟩:=h0;obtain⟨u,us',rfl,h1,h2⟩:=hx;exact⟨u,us',rfl,VR_keep hw O9 hf him hnb hbl c u0 u k1 h1,NO hw O9 hf him hnb hbl cs us0' us' k2 h2⟩
end
def Env.trim(E:Env)(bx:List (List AV)):Env:={E with h:=⟨bx,E.h.fams⟩}
theorem mY{l bx:List (List AV)}(hb:l.take bx.length=bx):bx.length<=l.length/\∀i,i<bx.length->l[i]?=bx[i]?:=by
 have h1:=congrArg List.length hb;rw[zg6z]at h1;refine⟨a_,λi hi=>?_⟩;rw[←hb,zf9z,if_pos hi]
theorem ib{E:Env}{bx}(hb:E.h.boxes.take bx.length=bx){b o}(h:E.ok b o):(E.trim bx).ok b o:=by
 obtain⟨h1,h2⟩:=mY hb;rcases h with h|⟨k1,k2,k3,k4⟩
 .exact .inl h
 .refine .inr ⟨k1,k2,λi hi he=>?_,k4⟩;have BR:=hi.lt;obtain⟨x,x1,x2⟩:=hi;obtain⟨cs,Au⟩:=k3 i ⟨x,by rw[h2 i BR];exact x1,x2⟩ he;exact⟨cs,by show bx[i]?=_;rw[←h2 i BR];exact Au⟩
theorem A1k{E0 E}(he:Ext E0 E)(hb:E.h.boxes.take E0.h.boxes.length=E0.h.boxes):Ext E0 (E.trim E0.h.boxes) :=
 ⟨λb o h=>⟨ib hb (he.cells b o h).1,(he.cells b o h).2⟩,zf5z _,λi hi=>⟨(Pu (E:=E0) rfl).2 hi,(he.nb i hi).2⟩,he.fams,he.im,he.base,he.ok0,he.below⟩
theorem trim_SR{E0 E}(h0:SR E0)(h:SR E)(he:Ext E0 E)(hb:E.h.boxes.take E0.h.boxes.length=E0.h.boxes):SR (E.trim E0.h.boxes):=by
 obtain⟨p1,p2⟩:=mY hb;have O9:∀b o,E.ok b o->(E.trim E0.h.boxes).ok b o:=λb o k=>ib hb k;have X8:∀b o,E.ok b o->(E.trim E0.h.boxes).ok b o/\If E.w (E.trim E0.h.boxes).w b o:=λb o k=>⟨O9 b o k,If.refl _ _ _⟩;have hlv:=λi hi=>(he.nb i ((Pu (E:=E0) rfl).1 hi)).1;refine⟨h.basele,λi cs hi hh=>?_,λk f hk=>?_,λi j hi hj=>h.inj i j (hlv i hi) (hlv j hj),h.injf,λi k hi hk=>h.sep i k (hlv i hi) hk⟩
 .have BR:=hi;have C2:=(zf4z.1 BR).1;have hE:E.h.boxes[i]?=some cs:=by rw[p2 i C2];exact BR
  obtain⟨b1,b2⟩:=h.boxes i cs hE hh;refine⟨b1,?_⟩;rcases b2 with ⟨cur,t,h2,h3,h4⟩|⟨ks,vs,es,clk,e,h2,h3,h4⟩|⟨ys,cur,t,e,h2,h3,h4⟩|⟨T,ys,cur,e,h2,h3,h4⟩
  .refine .inl ⟨cur,t,h2,?_,h4⟩;obtain⟨_,c2⟩:=h0.boxes i cs BR hh;rcases c2 with ⟨cur0,t0,g2,g3,g4⟩|⟨ks,vs,es,clk,e,_⟩|⟨ys,cur0,t0,e,_⟩|⟨T,ys,cur0,e,_⟩
   .exact NO (E0:=E0) (E:=E) (E':=E.trim E0.h.boxes) rfl O9 rfl rfl rfl (λi hi=>(Pu (E:=E0) rfl).2 hi) cs _ _ g3 h3
   .subst e;simp only[i7,VR,false_and,and_false,exists_false]at h3
   .subst e;simp only[i7,VR,false_and,and_false,exists_false]at h3
   .subst e;simp only[i7,VR,false_and,and_false,exists_false]at h3
  .subst e;obtain⟨es0,clk0,g2,g3,g4⟩:=(h0.boxes i _ BR hh).map;exact .inr (.inl ⟨ks,vs,es,clk,rfl,h2,Dk X8 _ _ h3,NO (E0:=E0) (E:=E) (E':=E.trim E0.h.boxes) rfl O9 rfl rfl rfl (λi hi=>(Pu (E:=E0) rfl).2 hi) vs _ _ g4 h4⟩)
  .exact .inr (.inr (.inl ⟨ys,cur,t,e,h2,Dk X8 _ _ h3,h4⟩))
  .subst e;obtain⟨cur0,g2,g3,g4⟩:=(h0.boxes i _ BR hh).typ;exact .inr (.inr (.inr ⟨T,ys,cur,rfl,h2,NO (E0:=E0) (E:=E) (E':=E.trim E0.h.boxes) rfl O9 rfl rfl rfl (λi hi=>(Pu (E:=E0) rfl).2 hi) ys _ _ g3 h3,h4⟩))
 .have hf:=h.fams k f hk;obtain⟨cur,t,h2,h3,h4⟩:=hf.cells;exact⟨hf.base,hf.sz,hf.lo,hf.room,hf.cap,cur,t,h2,h3,λi x hi hx=>⟨(h4 i x hi hx).1,λc y hc=>by
   obtain⟨v,v1,v2,v3⟩:=(h4 i x hi hx).2 c y hc;exact⟨v,v1,v2,BS X8 _ _ v3⟩⟩⟩
end Go.Abs
