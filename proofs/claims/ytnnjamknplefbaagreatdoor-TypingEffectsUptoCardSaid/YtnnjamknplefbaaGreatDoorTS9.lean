/- A part of the proof. -/
import Derived.Test.YtnnjamknplefbaaGreatDoorTS8
set_option linter.all false
open Option renaming map_eq_some_iff->zf0z
open List renaming replicate->zf1z,getElem?_append_right->zf2z,getElem?_append_left->zf3z,getElem?_eq_some_iff->zf4z,replicate_succ->zf7z,length_append->zf8z,append_assoc->zf9z,flatten_cons->zg0z,length_cons->zg3z,length_nil->zg4z
open Array renaming getElem?_toList->zf5z
open Nat renaming mul_le_mul_right->zf6z,add_mul->zg1z,le_refl->zg2z,le_of_eq->zg6z,succ_mul->zg7z
open Int renaming mul_comm->zg5z,le_refl->zg8z
set_option linter.all false
namespace Go.Abs
open Go.RowKit (Below)
theorem VK(h:AH)(am:Bool){x:AV}(hx:x.flat=true):Bo h am x=some x:=by
 cases x<;>simp[AV.flat]at hx<;>simp only[Bo];rename_i f cs;subst hx;rfl
theorem VL(h:AH)(am:Bool):∀{xs:I7},xs.all AV.flat=true->IX h am xs=some xs
 | [],_=>rfl
 |x::xs,hx=>by
  simp only[List.all_cons,Bool.and_eq_true]at hx;simp[IX,VK h am hx.1,VL h am hx.2]
theorem DH(h:AH)(am:Bool){x:AV}(hx:S0 x=true):frz h am x=some x:=by
 unfold S0 at hx;split at hx
 .rename_i cs;simp[frz,VL h am hx]
 .cases hx
 .rename_i h1 h2;have e:frz h am x=Bo h am x:=by
   unfold frz;split
   .exact absurd rfl (h1 _)
   .rfl
  rw[e,VK h am hx]
section
variable {E:Env} {P:Program} {fr:Fr} {a:Act} {o:Oper}
theorem Mt{args:Array Operand}{ats:Array TypeId}{x:Operand}{t:TypeId}(ho:o.op=.call {callee:=.builtin .clear,args:=args,argTypes:=ats})(h1:args.toList=[x])(h2:ats.toList=[t]){v:Value}{w w':World}
  (h:(Builtin.clear_ #[t] o.type #[a.eval x]).run P w=.ok v w'):(execOp a.eval o).run P w=.ok (.value v) w':=by
 have e1:args=#[x]:=by cases args;simp at h1;simp[h1]
 have e2:ats=#[t]:=by cases ats;simp at h2;simp[h2]
 rw[e1,e2]at ho;simp only[execOp,ho,resolve,invoke,builtin,Sem.run_bind,Sem.run_pure,Result.andThen_ok,List.map_toArray,List.map_cons,List.map_nil,h]
theorem d_clr{args:Array Operand}{ats:Array TypeId}{x:Operand}{x':Opd}{t e:TypeId}{z v:AV}{h':AH}(hS:SR E)(hf:FR E fr a.tmps)(ho:o.op=.call {callee:=.builtin .clear,args:=args,argTypes:=ats})
  (h1:args.toList=[x]) (h2:ats.toList=[t]) (ht:P.underlying t=some (.slice e)) (hz:Program.zeroA P e=some z) (hx:C5 x=some x') (E5:Ns E.h z (get fr x')=some (v,h')):Ed P a o E v h':=by
 have hv:=C4 hf hx;unfold Ns at E5;split at E5
 .rename_i b q xs hg;split at E5
  .rename_i h0;cases E5;rw[hg]at hv;simp only[VR,PV]at hv;obtain⟨ad,len,cap,e1,e2,_⟩:=hv;have:len=0:=by omega
   subst this;refine⟨_,.tuple #[],E,Mt ho h1 h2 ?_,.inl rfl,Ext.refl E,hS,rfl,DE E⟩;rw[e1];cases ad<;>simp[Builtin.clear_,run_underlying ht]
  .cases E5
 .rename_i k n off len hg;split at E5
  .rename_i f hfk;split at E5
   .rename_i hc;obtain⟨c1,c2,c3,c4⟩:=hc;cases E5;rw[hg]at hv;simp only[VR]at hv;obtain⟨base,cap,f',e1,hf',_,e5⟩:=hv;have:f'=f:=by rw[hfk]at hf';simpa using hf'.symm
    subst this;obtain⟨l1,l2,l3,l4,l5⟩:=e5 c1;cases len with
    |zero =>
     have qg:E.h.fams.set k {f' with xs:=f'.xs.take off++zf1z 0 z++f'.xs.drop (off+0)}=E.h.fams:=TL (by simpa using hfk)
     refine⟨_,.tuple #[],E,Mt ho h1 h2 ?_,.inl rfl,Ext.refl E,hS,by rw[qg],DE E⟩;rw[e1];cases base<;>simp[Builtin.clear_,run_underlying ht]
    |succ m =>
     have hF:=hS.fams k f' hfk;have n8:=hF.room;have hbase:=l5 (by omega);obtain⟨cur,t',k1,k2,k3⟩:=hF.cells;obtain⟨i,zv,q1,q2,q3,q4,q5⟩:=CH hz;have Y3:=hF.sz;obtain⟨zv',q2',Tt,_,hrow,hone⟩:=Jx (E:=E) hz (n:=m+1) q1 (by
      have hpv:=Aw (w:=E.w) (ok:=E.ok) q4;obtain⟨g1,_⟩:=Ky hpv q5;have:=(Eu g1).1;simp at this;omega)
     rw[q2]at q2';cases q2';have hfi:f'.sz=i.size:=by omega
     have BZ:(Builtin.zeroCells zv.cells (m+1))=madeCells zv.cells ((m+1)*i.size):=by rw[←q3];rfl
     have hnl:(madeCells zv.cells ((m+1)*i.size)).toList.length=(m+1)*f'.sz:=by rw[hfi];simp[size_madeCells]
     have V6:(E.im k).o+(off-(E.im k).lo)*f'.sz+(m+1)*f'.sz<=cur.size:=by
      have h3:(off-(E.im k).lo+(m+1))*f'.sz<=(E.im k).cap*f'.sz:=zf6z _ (by omega);rw[zg1z]at h3;omega
     have V8:=run_storeCells_at P (E.im k).b ((E.im k).o+(off-(E.im k).lo)*f'.sz) t' (madeCells zv.cells ((m+1)*i.size)).toList 0 cur E.w k1 (by rw[hnl];omega) hone;simp only[Nat.add_zero]at V8;obtain⟨us,Nb⟩:∃us:Array Value,us=(cur.toList.take ((E.im k).o+(off-(E.im k).lo)*f'.sz)++(madeCells zv.cells ((m+1)*i.size)).toList++cur.toList.drop ((E.im k).o+(off-(E.im k).lo)*f'.sz+(madeCells zv.cells ((m+1)*i.size)).toList.length)).toArray:=⟨_,rfl⟩;rw[←Nb]at V8;have hget:∀j:Nat,us[j]?=if j<(E.im k).o+(off-(E.im k).lo)*f'.sz then cur[j]? else if j<(E.im k).o+(off-(E.im k).lo)*f'.sz+(m+1)*f'.sz then (madeCells zv.cells ((m+1)*i.size)).toList[j-((E.im k).o+(off-(E.im k).lo)*f'.sz)]? else cur[j]?:=by
      intro j;have:=EI (l:=cur.toList) (off:=(E.im k).o+(off-(E.im k).lo)*f'.sz) (vs:=(madeCells zv.cells ((m+1)*i.size)).toList) (by rw[hnl];simpa using V6) j;rw[hnl]at this;simp only[zf5z]at this;rw[Nb,List.getElem?_toArray,hnl,this,zf5z]
     have J3:f'.xs.length=({f' with xs:=f'.xs.take off++zf1z (m+1) z++f'.xs.drop (off+(m+1))}:Fam).xs.length:=by
      show f'.xs.length=(f'.xs.take off++zf1z (m+1) z++f'.xs.drop (off+(m+1))).length;simp only[zf8z,List.length_take,List.length_replicate,List.length_drop];omega
     have hkeep:f'.wr=false->∀j,j<(E.im k).o+(f'.xs.length-(E.im k).lo)*f'.sz->us[j]?=cur[j]?:=λh=>by rw[c3]at h;cases h
     refine⟨_,.tuple #[],E.setFam k us {f' with xs:=f'.xs.take off++zf1z (m+1) z++f'.xs.drop (off+(m+1))},Mt ho h1 h2 ?_,.inl rfl,GS hS hfk k1 rfl rfl (zg6z J3) hkeep,
      KI hS hfk k1 rfl rfl (zg6z J3) hkeep (by rw[←J3];exact n8) (by rw[Nb];simp[hnl];omega) ?_,rfl,DE _⟩
     .rw[e1,hbase];have hzr:(zeroValue e).run P E.w=.ok zv E.w:=by simp[zeroValue,typeInfo,q1,q2]
      simp[Builtin.clear_,run_underlying ht,hzr,BZ,V8,Env.setFam]
     .intro j x'' hj hx'';have vM:(f'.xs.take off++zf1z (m+1) z++f'.xs.drop (off+(m+1)))[j]?=some x'':=hx'';have ho':off<=f'.xs.length:=by omega
      by_cases hj1:j<off
      .rw[zf9z,zf3z (by simp;omega),List.getElem?_take,if_pos hj1]at vM;obtain⟨g1,g2⟩:=k3 j x'' hj vM;refine⟨g1,λc y hy=>?_⟩;obtain⟨w,w1,w2⟩:=g2 c y hy;have o9:c<f'.sz:=by have:=(zf4z.1 hy).1;omega
       have:=BM (show j-(E.im k).lo<off-(E.im k).lo by omega) o9;exact⟨w,by rw[hget,if_pos (by omega)];exact w1,w2⟩
      .by_cases hj2:j<off+(m+1)
       .rw[zf9z,zf2z (by simp;omega),zf3z (by simp;omega)]at vM;rw[show (f'.xs.take off).length=off from by simp;omega]at vM;obtain⟨g1,g2⟩:=hrow (j-off) x'' vM;refine⟨by omega,λc y hy=>?_⟩;obtain⟨w,w1,w2⟩:=g2 c y hy;have o9:c<f'.sz:=by have:=(zf4z.1 hy).1;omega
        have Z6:(E.im k).o+(j-(E.im k).lo)*f'.sz+c=(E.im k).o+(off-(E.im k).lo)*f'.sz+((j-off)*i.size+c):=by
         rw[show j-(E.im k).lo=(off-(E.im k).lo)+(j-off) from by omega,zg1z,hfi];omega
        have:=BM (show j-off<m+1 by omega) o9;refine⟨w,?_,w2⟩;rw[Z6,hget,if_neg (by omega),if_pos (by rw[←hfi];omega),show (E.im k).o+(off-(E.im k).lo)*f'.sz+((j-off)*i.size+c)-((E.im k).o+(off-(E.im k).lo)*f'.sz)=(j-off)*i.size+c from by omega];exact w1
       .rw[zf2z (by simp;omega),List.getElem?_drop]at vM;have hjj:off+(m+1)+(j-(f'.xs.take off++zf1z (m+1) z).length)=j:=by simp;omega
        rw[hjj]at vM;obtain⟨g1,g2⟩:=k3 j x'' hj vM;refine⟨g1,λc y hy=>?_⟩;obtain⟨w,w1,w2⟩:=g2 c y hy;refine⟨w,?_,w2⟩;have hge:(off-(E.im k).lo)*f'.sz+(m+1)*f'.sz<=(j-(E.im k).lo)*f'.sz:=by
         rw[←zg1z];exact zf6z _ (by omega)
        rw[hget,if_neg (by omega),if_neg (by omega)];exact w1
   .cases E5
  .cases E5
 .cases E5
theorem d_mkv{t e:TypeId}{l c:Operand}{l' c':Opd}{z v:AV}{i:TypeInfo}{h':AH}(hS:SR E)(hf:FR E fr a.tmps)(ho:o.op=.makeSlice t l c)(hu:P.underlying t=some (.slice e))(hi:P.info? e=some i)(hz:Program.zeroA P e=some z)
  (Z6:0<i.size) (hl:C5 l=some l') (hc:C5 c=some c') (E5:eN E.h z i.bytes (get fr l') (get fr c')=some (v,h')):Ed P a o E v h':=by
 unfold eN at E5;split at E5
 .rename_i k1 x k2 y hx hy;split at E5
  .rename_i hcc;obtain⟨h0,rfl,hb,hm⟩:=hcc;cases E5;have e1:=C4 hf hl;have e2:=C4 hf hc;rw[hx]at e1;rw[hy]at e2;simp only[VR]at e1 e2;obtain⟨zv,h2,Tt,h3,hr,h1⟩:=Jx (E:=E) hz (n:=x.toNat) hi Z6;have hrun:=run_make (P:=P) E.w t e i zv hu hi h2 k1 k2 x x h0 (zg8z _) (by rw[zg5z];unfold P7 at hb;omega) (by unfold maxLen at hm;omega);have hpv:=aG (e:=e) hS (by rw[←Tt]at Z6;exact Z6) (by rw[Tt];exact hr) (by simp;omega);have hb:Bl E.w.heap.size E.w (E.w.alloc (.cells (madeCells zv.cells (x.toNat*i.size)) e)):=⟨(Below.refl _ _).alloc (zg2z _) _,λ_=>zg2z _⟩;refine⟨_,.slice (some ⟨E.w.heap.size,0,none⟩) x.toNat x.toNat,{E with w:=E.w.alloc (.cells (madeCells zv.cells (x.toNat*i.size)) e)},?_,.inl rfl,AJ hS hb,Cm hS hb,rfl,?_⟩
   .simp only[execOp,ho,e1,e2,Sem.run_bind,hrun,Result.andThen_ok,Sem.run_pure]
   .refine r9 _ _ ?_;simpa using hpv
  .cases E5
 .cases E5
theorem aA{α:Type}(l:List α):∀(n j:Nat) (c:α),((zf1z n l).flatten)[j]?=some c->∃i q,i<n/\j=i*l.length+q/\l[q]?=some c
 |0,j,c,h=>by simp at h
 |n+1,j,c,h=>by
  rw[zf7z,zg0z]at h;by_cases hj:j<l.length
  .rw[zf3z hj]at h;exact⟨0,j,by omega,by omega,h⟩
  .rw[zf2z (by omega)]at h;obtain⟨i,q,h1,h2,h3⟩:=aA l n _ c h;exact⟨i+1,q,by omega,by rw[zg7z];omega,h3⟩
theorem aB{α:Type}(l:List α):∀n:Nat,((zf1z n l).flatten).length=n*l.length
 |0=>by simp
 |n+1=>by rw[zf7z,zg0z,zf8z,aB l n,zg7z];omega
theorem d_mkb{t e:TypeId}{l c:Operand}{l' c':Opd}{z v:AV}{i:TypeInfo}{h':AH}(hS:SR E)(hf:FR E fr a.tmps)(ho:o.op=.makeSlice t l c)(hu:P.underlying t=some (.slice e))(hi:P.info? e=some i)(hz:Program.zeroA P e=some z)
  (Z6:0<i.size) (hl:C5 l=some l') (hc:C5 c=some c') (E5:Sa E.h z i.bytes (get fr l') (get fr c')=some (v,h')):Ed P a o E v h':=by
 unfold Sa at E5;split at E5
 .rename_i k1 x k2 y hx hy;split at E5
  .rename_i hcc;obtain⟨h0,rfl,hb,hm⟩:=hcc;cases E5;have e1:=C4 hf hl;have e2:=C4 hf hc;rw[hx]at e1;rw[hy]at e2;simp only[VR]at e1 e2;obtain⟨zv,h2,Tt,h3,hr,h1⟩:=Jx (E:=E) hz (n:=x.toNat) hi Z6;have hrun:=run_make (P:=P) E.w t e i zv hu hi h2 k1 k2 x x h0 (zg8z _) (by rw[zg5z];unfold P7 at hb;omega) (by unfold maxLen at hm;omega);have GJ:W5 E (zf1z x.toNat z.cells).flatten (madeCells zv.cells (x.toNat*i.size)).toList:=by
    refine LB (by rw[aB,Tt,Array.length_toList,size_madeCells]) λj c u hc hu'=>?_;obtain⟨p,q,p1,p2,p3⟩:=aA _ _ _ _ hc;obtain⟨g1,g2⟩:=hr p z (by rw[List.getElem?_replicate,if_pos p1]);obtain⟨w,w1,_,w3⟩:=g2 q c p3;rw[Tt]at p2;rw[←p2,hu']at w1;cases w1;exact r9 _ _ w3
   refine⟨_,.slice (some ⟨E.w.heap.size,0,none⟩) x.toNat x.toNat,E.newBox (madeCells zv.cells (x.toNat*i.size)) e (zf1z x.toNat z.cells).flatten,?_,.inl rfl,EE hS _ _ _,Pe hS GJ h1,rfl,?_⟩
   .simp only[execOp,ho,e1,e2,Sem.run_bind,hrun,Result.andThen_ok,Sem.run_pure,Env.newBox]
   .simp only[VR];exact⟨LP rfl (IP GJ),_,by simp only[Env.newBox,V4],zg2z _,by omega⟩
  .cases E5
 .cases E5
end
section
variable {E:Env} {P:Program} {fr:Fr} {a:Act} {o:Oper} {O:Orc} {c:Ctx}
def ROp.isCall:ROp->Bool
 | .call .. | .callv ..=>true
 |_=>false
theorem mN{el z:AV}{cs:I7}(h:el.reform cs=some z)(hl:cs.length=el.cells.length)(hf:∀x∈cs,x.cells=[x]\/∃aas,el=.agg aas):z.cells=cs:=by
 cases el<;>simp only[AV.reform]at h
 case agg=>cases h;rfl
 all_goals
  simp only[AV.cells,zg3z,zg4z]at hl;cases cs with
  |nil=>simp at hl
  |cons c r =>
   have hr:r=[]:=by simpa using hl
   subst hr;simp at h;subst h;rcases hf c (by simp)with h' | ⟨aas,h'⟩
   .exact h'
   .cases h'
theorem Lg{t:TypeId}{x y:Operand}{x' y':Opd}{n k m i q sz:Nat}{h1:AH}(hS:SR E)(hf:FR E fr a.tmps)(j7:o.op=.store t x y)(hn:Program.size? P t=some n)(hx:C5 x=some x')(hy:C5 y=some y')
  (hg:get fr x'=.ep k m i q sz) (V8:Ej E.h n (get fr y') k m i q sz=some h1):Ed P a o E B4 h1:=by
 unfold Ej at V8;split at V8
 .rename_i f hfk;split at V8
  .rename_i hc;split at V8
   .rename_i el u LN hu;split at V8
    .rename_i hl;simp only[zf0z]at V8;obtain⟨z,hz,rfl⟩:=V8;refine pH hS hf j7 hn hx hy hg hfk hc.1 hc.2.1 hc.2.2 LN hu hl.1 hl.2 (mN hz (by simp[Y0];omega) λw hw=>?_);by_cases hag:∃aas,el=.agg aas
     .exact .inr hag
     .refine .inl ?_;have hel1:el.cells=[el]:=by cases el<;>first|rfl|exact absurd ⟨_,rfl⟩ hag
      rw[hel1]at hw hl;simp only[zg3z,zg4z]at hl;have hF:=hS.fams k f hfk;obtain⟨hPu,hut⟩:=GH hS (am:=false) (ok':=E.ok) ⟨λ_ _ h=>h,λh=>by cases h⟩ (C4 hf hy) hu;obtain⟨g1,g2⟩:=Ky hPu hut;have hcell:∀{w:AV} {u:Value},PV E.w E.ok w u->u.oneCell'=true->w.cells=[w]:=by
       intro w u h1 h2;cases w<;>first|rfl|(simp only[PV]at h1;obtain⟨us,rfl,_⟩:=h1;simp[Value.oneCell']at h2)
      unfold Y0 at hw;simp only[List.mem_append]at hw;rcases hw with (hw|hw)|hw
      .have:=List.mem_of_mem_take hw;simp at this;subst this;exact hel1
      .obtain⟨j,hj⟩:=List.getElem?_of_mem hw;obtain⟨u',k1,k2⟩:=(Eu g1).2 hj;exact hcell k2 (g2 u' (List.mem_of_getElem? k1))
      .have:=List.mem_of_mem_drop hw;simp at this;subst this;exact hel1
    .cases V8
   .cases V8
  .cases V8
 .cases V8
theorem tA{n:Nat}{x y:Opd}{h h':AH}{v:AV}(he:A0 O c (.ste n x y) fr h=some (v,h')):Ba h n (get fr y) (get fr x)=some h'/\v=B4:=by
 simp only[A0,Og]at he;split at he
 .rename_i k m i q s hg;split at he
  .rename_i hfl;split at he
   .rename_i h1 hq;cases he;simp only[hg,Ba,aN];rw[DH h false hfl];exact⟨hq,trivial⟩
   .cases he
  .cases he
 .cases he
theorem sv{n:Nat}{x y:Opd}{h h':AH}{v:AV}(he:A0 O c (.stb n x y) fr h=some (v,h')):Ba h n (get fr y) (get fr x)=some h'/\v=B4:=by
 simp only[A0,MP]at he;split at he
 .rename_i b q hg;split at he
  .rename_i cs o9;split at he
   .rename_i hc;cases he;simp only[hg,Ba,o9];rw[if_pos hc];exact⟨rfl,trivial⟩
   .rename_i hc;rw[zf0z]at he;obtain⟨h1,h2,h3⟩:=he;cases h3;simp only[hg,Ba,o9];rw[if_neg hc,h2];exact⟨rfl,trivial⟩
  .cases he
 .cases he
theorem Ed.lay{h1:AH}(h:Ed P a o E B4 h1)(b:Bool)(x:AV):Ed P a o E B4 (Pd b h1 x):=by
 unfold Pd;split
 .obtain⟨nx,u,E',e1,e3,e4,e5,e6,e7⟩:=h;obtain⟨E2,r2,q2⟩:=YS e5 x;exact⟨nx,u,E2,by rw[r2.w];exact e1,e3,e4.trans r2.ext,r2.sr,by rw[q2,e6],PG r2.ext _ _ e7⟩
 .exact h
theorem iQ(hS:SR E)(hf:FR E fr a.tmps){r r0:ROp}(hr:Z4 P o.op=some r0)(i5:r=r0\/∃m,r=r0.lax m){v:AV}{h':AH}(E5:A0 O c r fr E.h=some (v,h'))(hnc:r.isCall=false):Ed P a o E v h':=by
 cases j7:o.op with
 |move x =>
  rw[j7]at hr;simp only[Z4,zf0z]at hr;obtain⟨y,hy,rfl⟩:=hr;obtain rfl:r=.mov y:=by rcases i5 with h|⟨_,h⟩<;>exact h
  simp only[A0]at E5;cases E5;exact(zo hf (.inl j7) hy).does hS
 |assign x =>
  rw[j7]at hr;simp only[Z4,zf0z]at hr;obtain⟨y,hy,rfl⟩:=hr;obtain rfl:r=.mov y:=by rcases i5 with h|⟨_,h⟩<;>exact h
  simp only[A0]at E5;cases E5;exact(zo hf (.inr j7) hy).does hS
 |pick q x y =>
  rw[j7]at hr;simp only[Z4]at hr;split at hr
  .rename_i q' x' y' h1 h2 h3;cases hr;obtain rfl:r=.pick q' x' y':=by rcases i5 with h|⟨_,h⟩<;>exact h
   simp only[A0]at E5;split at E5
   .rename_i t ht;cases E5;exact(q_pick hf j7 h1 h2 h3 ht).does hS
   .cases E5
  .cases hr
 |alloc t =>
  rw[j7]at hr;simp only[Z4,zf0z]at hr;obtain⟨z,hz,rfl⟩:=hr;obtain rfl:r=.alloc (Kk t z):=by rcases i5 with h|⟨_,h⟩<;>exact h
  simp only[A0]at E5;cases E5;exact vy hS j7 hz
 |box t x =>
  rw[j7]at hr;simp only[Z4,zf0z]at hr;obtain⟨y,hy,rfl⟩:=hr;obtain rfl:r=.box y:=by rcases i5 with h|⟨_,h⟩<;>exact h
  simp only[A0]at E5;split at E5
  .cases E5
  .rename_i ht;cases E5;exact d_box hS hf j7 hy (by simpa using ht)
 |build t parts =>
  rw[j7]at hr;simp only[Z4]at hr;split at hr
  .rename_i fs zs hu hz;split at hr
   .rename_i hs;simp only[zf0z]at hr;obtain⟨ps,hp,rfl⟩:=hr;obtain rfl:r=.build (.agg zs) ps:=by rcases i5 with h|⟨_,h⟩<;>exact h
    simp only[A0,AV.cells]at E5;split at E5
    .rename_i qs hq;cases E5;exact(xC hf j7 hu hz hs hp hq).does hS
    .cases E5
   .cases hr
  .cases hr
 |buildSlice t len parts =>
  rw[j7]at hr;simp only[Z4]at hr;split at hr
  .rename_i e hu;split at hr
   .rename_i z n ps hz hn hp;split at hr
    .rename_i hc;cases hr;have E5:A0 O c (.bslice len z ps) fr E.h=some (v,h'):=by
      rcases i5 with rfl|⟨_,rfl⟩
      .exact E5
      .simp only[ROp.lax,A0]at E5;split at E5
       .simp only[A0];exact E5
       .cases E5
     simp only[A0]at E5;split at E5
     .rename_i xs hx;cases E5;exact ow hS hf j7 hu hz hn hc.1 hc.2 hp hx
     .cases E5
    .cases hr
   .cases hr
  .cases hr
 |load t x =>
  rw[j7]at hr;simp only[Z4]at hr;split at hr
  .rename_i b n y hb hn hy;cases hr;have key:∃w,U4 E.h b n (get fr y)=some w/\(w,E.h)=(v,h'):=by
    rcases i5 with rfl|⟨_,rfl⟩
    .simp only[A0]at E5;split at E5
     .rename_i w hw;exact⟨w,hw,by simpa using E5⟩
     .cases E5
    .simp only[ROp.lax,A0]at E5;split at E5
     .cases E5
     .split at E5
      .rename_i w hw;exact⟨w,hw,by simpa using E5⟩
      .cases E5
   obtain⟨w,hw,he⟩:=key;cases he;exact(q_ld hS hf j7 hb hn hy hw).does hS
  .cases hr
 |store t x y =>
  rw[j7]at hr;simp only[Z4]at hr;split at hr
  .rename_i n x' y' hn hx hy;cases hr;have hev0:∃h1 b,Ba E.h n (get fr y') (get fr x')=some h1/\v=B4/\h'=Pd b h1 (get fr y'):=by
    have V8:A0 O c (.st n x' y') fr E.h=some (v,h')->∃h1 b,Ba E.h n (get fr y') (get fr x')=some h1/\v=B4/\h'=Pd b h1 (get fr y'):=λE5=>by
     simp only[A0]at E5;split at E5
     .rename_i h1 V8;cases E5;exact⟨h1,c.lay,V8,rfl,rfl⟩
     .cases E5
    rcases i5 with rfl|⟨m,rfl⟩
    .exact V8 E5
    .obtain⟨m,mk⟩:=m;cases m with
     |none=>exact V8 E5
     |some b =>
      cases b with
      |true=>exact⟨h',false,(tA E5).1,(tA E5).2,rfl⟩
      |false=>exact⟨h',false,(sv E5).1,(sv E5).2,rfl⟩
   clear E5 i5;obtain⟨h1,bl,V8,rfl,rfl⟩:=hev0;refine Ed.lay ?_ bl _
   .unfold Ba at V8;split at V8
    .rename_i b off hg;split at V8
     .rename_i cs o9;split at V8
      .rename_i hc;cases V8;exact pG hS hf j7 hn hx hy hg o9 hc.1 hc.2.1 hc.2.2.1 hc.2.2.2
      .unfold dC at V8;split at V8
       .split at V8
        .rename_i hc;cases V8;exact kg hS hf j7 hn hx hy hg o9 hc.1 hc.2.1 hc.2.2
        .cases V8
       .cases V8
     .cases V8
    .rename_i k m i q sz hg;split at V8
     case h_2=>cases V8
     rename_i h2 hlay;unfold aN at hlay;split at hlay
     .cases hlay;exact Lg hS hf j7 hn hx hy hg V8
     .unfold bZ at hlay;split at hlay
      case h_3=>cases hlay
      .rename_i cs2 hgy;cases hlay;obtain⟨E2,r2,e2⟩:=YT cs2 hS;rw[←e2]at V8;obtain⟨nx,u,E',e1,e3,e4,e5,e6,e7⟩:=Lg (E:=E2) r2.sr (hf.ext r2.ext) j7 hn hx hy hg V8;exact⟨nx,u,E',by rw[←r2.w];exact e1,e3,r2.ext.trans e4,e5,e6,e7⟩
      rename_i k2 n2 off2 lJ hgy;split at hlay
      case h_2=>cases hlay
      rename_i f2 hf2;cases hlay;have hx1:=NH hf2;obtain⟨nx,u,E',e1,e2,e3,e4,e5,e6⟩:=Lg (E:=E.rstFam k2 f2) (WE hS hf2) (hf.ext hx1) j7 hn hx hy hg V8;exact⟨nx,u,E',e1,e2,hx1.trans e3,e4,e5,e6⟩
    .cases V8
  .cases hr
 |nilCheck x =>
  rw[j7]at hr;simp only[Z4,zf0z]at hr;obtain⟨y,hy,rfl⟩:=hr;obtain rfl:r=.nilck y:=by rcases i5 with h|⟨_,h⟩<;>exact h
  simp only[A0]at E5;have:h'=E.h:=by split at E5<;>first|(cases E5;rfl)|cases E5
  subst this;exact(xI hf j7 hy E5).does hS
 |binOp op t x y t' =>
  rw[j7]at hr;simp only[Z4]at hr;split at hr
  .rename_i x' y' hx hy;have gen:r0=.bin op x' y'->Ed P a o E v h':=by
    intro h;subst h;obtain rfl:r=.bin op x' y':=by rcases i5 with h|⟨_,h⟩<;>exact h
    simp only[A0]at E5;split at E5
    .rename_i w hw;cases E5;exact(q_bin hf j7 hx hy hw).does hS
    .cases E5
   split at hr
   .rename_i ht;cases hr;obtain rfl:r=.beq false x' y':=by rcases i5 with h|⟨_,h⟩<;>exact h
    simp only[A0]at E5;split at E5
    .rename_i i j hi hj;cases E5;exact(zn (neg:=false) hf j7 ht hx hy hi hj).does hS
    .cases E5
   .rename_i ht;cases hr;obtain rfl:r=.beq true x' y':=by rcases i5 with h|⟨_,h⟩<;>exact h
    simp only[A0]at E5;split at E5
    .rename_i i j hi hj;cases E5;exact(zn (neg:=true) hf j7 ht hx hy hi hj).does hS
    .cases E5
   .rename_i ht;split at hr
    .cases hr;obtain rfl:r=.nileq false x':=by rcases i5 with h|⟨_,h⟩<;>exact h
     simp only[A0]at E5;obtain⟨rfl,hq⟩:=q_nq (neg:=false) hf j7 ht hx hy E5;exact hq.does hS
    .cases hr
   .rename_i ht;split at hr
    .cases hr;obtain rfl:r=.nileq true x':=by rcases i5 with h|⟨_,h⟩<;>exact h
     simp only[A0]at E5;obtain⟨rfl,hq⟩:=q_nq (neg:=true) hf j7 ht hx hy E5;exact hq.does hS
    .cases hr
   .cases hr;exact gen rfl
  .cases hr
 |unOp op t x =>
  rw[j7]at hr;simp only[Z4,zf0z]at hr;obtain⟨y,hy,rfl⟩:=hr;obtain rfl:r=.un op y:=by rcases i5 with h|⟨_,h⟩<;>exact h
  simp only[A0]at E5;split at E5
  .rename_i w hw;cases E5;exact(q_un hf j7 hy hw).does hS
  .cases E5
 |convert s d x =>
  rw[j7]at hr;simp only[Z4]at hr;split at hr
  .rename_i k0 k hs hd;simp only[zf0z]at hr;obtain⟨y,hy,rfl⟩:=hr;obtain rfl:r=.conv k y:=by rcases i5 with h|⟨_,h⟩<;>exact h
   simp only[A0]at E5;split at E5
   .rename_i q n hq;cases E5;exact(q_conv hf j7 hs hd hy hq).does hS
   .cases E5
  .rename_i hs hd;simp only[zf0z]at hr;obtain⟨y,hy,rfl⟩:=hr;obtain rfl:r=.cstr y:=by rcases i5 with h|⟨_,h⟩<;>exact h
   simp only[A0]at E5;split at E5
   .rename_i n hq;cases E5;exact(q_cstr hf j7 hs hd hy hq).does hS
   .cases E5
  .rename_i e hs hd;split at hr
   .rename_i he;simp only[zf0z]at hr;obtain⟨y,hy,rfl⟩:=hr;obtain rfl:r=.bstr y:=by rcases i5 with h|⟨_,h⟩<;>exact h
    simp only[A0]at E5;exact q_bstr hS hf j7 hs hd he hy E5
   .cases hr
  .cases hr
 |makeFunc fn first caps =>
  rw[j7]at hr;cases fn<;>simp only[Z4]at hr<;>try (cases hr;done)
  split at hr
  .rename_i f h0;simp only[zf0z]at hr;obtain⟨cs,hc,rfl⟩:=hr;obtain rfl:r=.clos _ cs:=by rcases i5 with h|⟨_,h⟩<;>exact h
   simp only[A0]at E5;split at E5
   .exact ox hS hf j7 h0 hc E5
   .cases E5;exact(q_clos hf j7 h0 hc).does hS
  .cases hr
 |makeSlice t l q =>
  rw[j7]at hr;simp only[Z4]at hr;split at hr
  .rename_i e hu;split at hr
   .rename_i i z l' q' hi hz hl hq;split at hr
    .rename_i Z6;cases hr;have hcase:r=.mkslice z i.bytes l' q'\/r=.mkv z i.bytes l' q':=by
      rcases i5 with h|⟨⟨m,mk⟩,h⟩
      .exact .inl h
      .cases mk
       .exact .inl h
       .exact .inr h
     rcases hcase with rfl|rfl
     case inr=>exact d_mkv hS hf j7 hu hi hz Z6 hl hq E5
     simp only[A0]at E5;split at E5
     .rename_i k1 x k2 y hx hy;split at E5
      .rename_i hc;cases E5;exact ke hS hf j7 hu hi hz Z6 hl hq hx hy hc.1 hc.2.1 hc.2.2.1 hc.2.2.2
      .cases E5
     .cases E5
    .cases hr
   .cases hr
  .cases hr
 |slice t x lo hi mx =>
  rw[j7]at hr;simp only[Z4]at hr;split at hr
  .rename_i x' lo' Ai ht hx Na XS hmx;cases hr;obtain rfl:r=.slc 0 x' lo' Ai none:=by rcases i5 with h|⟨_,h⟩<;>exact h
   have hmn:mx=none:=by
    cases mx with
    |none=>rfl
    |some m=>simp[FH]at hmx
   subst hmn;simp only[A0]at E5;split at E5
   .rename_i l u m hl hu hm;simp only[i4]at hm;cases hm;split at E5
    .rename_i w hw;cases E5;unfold Fq at hw;split at hw
     .rename_i s hs;dsimp only at hw;split at hw
      .rename_i hc;cases hw;exact(ln hf j7 ht hx Na XS hs hl hu hc.2.2.1 hc.2.2.2.1 hc.2.2.2.2).does hS
      .cases hw
     .simp at hw
     .split at hw<;>simp at hw
     .cases hw
    .cases E5
   .cases E5
  .rename_i e x' lo' Ai mx' ht hx Na XS hmx;split at hr
   .rename_i n hn;split at hr
    .rename_i Z6;cases hr;obtain rfl:r=.slc n x' lo' Ai mx':=by rcases i5 with h|⟨_,h⟩<;>exact h
     simp only[A0]at E5;split at E5
     .rename_i l u m hl hu hm;split at E5
      .rename_i w hw;cases E5;unfold Fq at hw;split at hw
       .simp[show ¬n=0 from by omega]at hw
       .rename_i full z xs hg;dsimp only at hw;simp only[Z6,true_and]at hw;split at hw
        .rename_i hz;split at hw
         .split at hw
          .rename_i hc;cases hw;exact(bI hf j7 ht hn hx Na XS hmx hg hl hu hm hz hc.1 hc.2.1 (.inl ⟨rfl,hc.2.2,rfl⟩)).does hS
          .cases hw
         .rename_i q;split at hw
          .rename_i hc;cases hw;exact(bI hf j7 ht hn hx Na XS hmx hg hl hu hm hz hc.2.1 hc.2.2.1 (.inr ⟨q,rfl,hc.1,hc.2.2.2.1,hc.2.2.2.2,rfl⟩)).does hS
          .cases hw
        .cases hw
       .rename_i k m0 off len hg;dsimp only at hw;split at hw
        .rename_i f hfk;simp only[Z6,true_and]at hw;split at hw
         .rename_i hz;split at hw
          .split at hw
           .rename_i hc;cases hw;exact(OX hS hf j7 ht hn hx Na XS hmx hg hl hu hm hfk hz.1 hz.2 (.inl (.inl ⟨rfl,hc.1,hc.2.1,.inl hc.2.2,rfl⟩))).does hS
           .split at hw
            .rename_i hc;cases hw;exact(OX hS hf j7 ht hn hx Na XS hmx hg hl hu hm hfk hz.1 hz.2 (.inl (.inl ⟨rfl,hc.1,hc.2.1,.inr hc.2.2,rfl⟩))).does hS
            .cases hw
          .rename_i q;split at hw
           .rename_i hc;cases hw;obtain⟨c1,c2,c3,rfl⟩:=hc;exact(OX hS hf j7 ht hn hx Na XS hmx hg hl hu hm hfk hz.1 hz.2 (.inl (.inr ⟨rfl,c1,c2,c3,rfl⟩))).does hS
           .split at hw
            .rename_i hc;cases hw;exact(OX hS hf j7 ht hn hx Na XS hmx hg hl hu hm hfk hz.1 hz.2 (.inr ⟨q,rfl,hc.1,hc.2.1,hc.2.2.1,hc.2.2.2.1,hc.2.2.2.2,rfl⟩)).does hS
            .cases hw
         .cases hw
        .cases hw
       .cases hw
      .cases E5
     .cases E5
    .cases hr
   .cases hr
  .cases hr
 |fieldAddr s x i =>
  rw[j7]at hr;simp only[Z4]at hr;split at hr
  .rename_i fs x' hs hx;split at hr
   .rename_i f hi;split at hr
    .rename_i n hn;split at hr
     .rename_i Z6;cases hr;obtain rfl:r=.faddr f.offset x':=by rcases i5 with h|⟨_,h⟩<;>exact h
      simp only[A0]at E5;have:h'=E.h:=by split at E5<;>first|(cases E5;rfl)|cases E5
      subst this;exact(xE hf j7 hs hi hn Z6 hx E5).does hS
     .cases hr
    .cases hr
   .cases hr
  .cases hr
 |field s x i =>
  rw[j7]at hr;simp only[Z4]at hr;split at hr
  .rename_i fs x' hs hx;split at hr
   .rename_i f hi;split at hr
    .rename_i b n hb hn;cases hr;obtain rfl:r=.fld b f.offset n x':=by rcases i5 with h|⟨_,h⟩<;>exact h
     simp only[A0]at E5;split at E5
     .rename_i cs hg;split at E5
      .rename_i w hw;cases E5;exact(q_fld hf j7 hs hi hb hn hx hg hw).does hS
      .cases E5
     .cases E5
    .cases hr
   .cases hr
  .cases hr
 |indexAddr t x i =>
  rw[j7]at hr;simp only[Z4]at hr;split at hr
  .rename_i e x' i' ht hx hi;split at hr
   .rename_i n hn;split at hr
    .cases hr;obtain rfl:r=.iaddr n x' i':=by rcases i5 with h|⟨_,h⟩<;>exact h
     simp only[A0]at E5;have:h'=E.h:=by
      split at E5
      .split at E5
       .split at E5<;>first|(cases E5;rfl)|cases E5
       .cases E5
      .split at E5<;>first|(cases E5;rfl)|cases E5
      .split at E5<;>first|(cases E5;rfl)|cases E5
      .cases E5
     subst this;exact(xG hS hf j7 ht hn hx hi E5).does hS
    .cases hr
   .cases hr
  .cases hr
 |index t x i =>
  rw[j7]at hr;simp only[Z4]at hr;split at hr
  .rename_i x' i' ht hx hi;cases hr;obtain rfl:r=.idx x' i':=by rcases i5 with h|⟨_,h⟩<;>exact h
   simp only[A0]at E5;split at E5
   .rename_i s q j hg hj;split at E5
    .rename_i h0;split at E5
     .rename_i b hb;cases E5;exact(q_idx hf j7 ht hx hi hg hj h0 hb).does hS
     .cases E5
    .cases E5
   .cases E5
  .cases hr
 |extract x i =>
  rw[j7]at hr;simp only[Z4,zf0z]at hr;obtain⟨y,hy,rfl⟩:=hr;obtain rfl:r=.ext y i:=by rcases i5 with h|⟨_,h⟩<;>exact h
  simp only[A0]at E5;split at E5
  .rename_i vs hg;split at E5
   .rename_i w hw;cases E5;exact(q_ext hf j7 hy hg hw).does hS
   .cases E5
  .cases E5
 |call q =>
  rw[j7]at hr;obtain⟨callee,args,ats⟩:=q;cases callee with
  |invoke x m=>simp[Z4]at hr
  |value x =>
   cases x<;>simp only[Z4]at hr<;>try (cases hr;done)
   .simp only[zf0z]at hr;obtain⟨aas,_,rfl⟩:=hr;rcases i5 with rfl|⟨_,rfl⟩<;>simp[ROp.isCall,ROp.lax]at hnc
   .split at hr
    .simp only[zf0z]at hr;obtain⟨aas,_,rfl⟩:=hr;rcases i5 with rfl|⟨_,rfl⟩<;>simp[ROp.isCall,ROp.lax]at hnc
    .cases hr
  |builtin b =>
   cases b<;>simp only[Z4]at hr<;>try (cases hr;done)
   case append =>
    split at hr
    .rename_i s x t u h1 h2;split at hr
     .rename_i e ht;split at hr
      .rename_i i z s' x' hi hz hs hx;split at hr
       .rename_i hc;cases hr;obtain⟨Z6,rfl⟩:=hc;obtain rfl:r=.app i.size i.bytes s' x':=by rcases i5 with h|⟨_,h⟩<;>exact h
        simp only[A0,R7]at E5;split at E5
        .cases E5
        .rename_i ys Nc;obtain⟨news,hsrc⟩:=mU hS hf ht hi Z6 hx Nc;exact Uo hS hf j7 h1 h2 ht hi hz Z6 hs hsrc E5
       .split at hr
        case h_2=>cases hr
        rename_i hu;split at hr
        .rename_i hs1;cases hr;obtain rfl:r=.apps i.bytes s' x':=by rcases i5 with h|⟨_,h⟩<;>exact h
         simp only[A0,Rl]at E5;split at E5
         .rename_i str hstr;have hv:=C4 hf hx;rw[hstr]at hv;simp only[VR]at hv;have hsrc:Src P E t u e i (a.eval x) (JR str) (Lib.strCells str):=by
           rw[hv];exact xk ht hu hi hs1 str
          rw[←hs1]at E5;exact Uo hS hf j7 h1 h2 ht hi hz (by omega) hs hsrc E5
         .cases E5
        .cases hr
      .cases hr
     .cases hr
    .cases hr
   case len =>
    split at hr
    .rename_i x t h1 h2;split at hr
     .rename_i ht;simp only[zf0z]at hr;obtain⟨y,hy,rfl⟩:=hr;obtain rfl:r=.len true y:=by rcases i5 with h|⟨_,h⟩<;>exact h
      simp only[A0]at E5;split at E5
      .rename_i s hs;cases E5;exact(lk hf j7 h1 h2 ht hy hs).does hS
      .cases E5
     .rename_i e ht;simp only[zf0z]at hr;obtain⟨y,hy,rfl⟩:=hr;obtain rfl:r=.len false y:=by rcases i5 with h|⟨_,h⟩<;>exact h
      simp only[A0]at E5;have:h'=E.h:=by split at E5<;>first|(cases E5;rfl)|cases E5
      subst this;exact(q_len hf j7 h1 h2 ht hy E5).does hS
     .rename_i kt et ht;simp only[zf0z]at hr;obtain⟨y,hy,rfl⟩:=hr;obtain rfl:r=.mlen y:=by rcases i5 with h|⟨_,h⟩<;>exact h
      simp only[A0]at E5;exact q_mlen hS hf j7 h1 h2 ht hy E5
     .cases hr
    .cases hr
   case clear =>
    split at hr
    .rename_i x t h1 h2;split at hr
     .rename_i e ht;split at hr
      .rename_i z x' hz hx;cases hr;obtain rfl:r=.clr z x':=by rcases i5 with h|⟨_,h⟩<;>exact h
       exact d_clr hS hf j7 h1 h2 ht hz hx E5
      .cases hr
     .cases hr
    .cases hr
   case max =>
    split at hr
    .rename_i x y h1;split at hr
     .rename_i x' y' hx hy;cases hr;obtain rfl:r=.max x' y':=by rcases i5 with h|⟨_,h⟩<;>exact h
      simp only[A0]at E5;split at E5
      .rename_i k i k' j hi hj;split at E5
       .cases E5;exact(q_max hf j7 h1 hx hy hi hj).does hS
       .cases E5
      .cases E5
     .cases hr
    .cases hr
   case min =>
    split at hr
    .rename_i x y h1;split at hr
     .rename_i x' y' hx hy;cases hr;obtain rfl:r=.min x' y':=by rcases i5 with h|⟨_,h⟩<;>exact h
      simp only[A0]at E5;split at E5
      .rename_i k i k' j hi hj;split at E5
       .cases E5;exact(q_min hf j7 h1 hx hy hi hj).does hS
       .cases E5
      .cases E5
     .cases hr
    .cases hr
 |makeMap t q =>
  cases q with
  |some q=>rw[j7]at hr;simp[Z4]at hr
  |none =>
   rw[j7]at hr;simp only[Z4]at hr;split at hr
   .cases hr;obtain rfl:r=.mkmap:=by rcases i5 with h|⟨_,h⟩<;>exact h
    simp only[A0]at E5;cases E5;exact vz hS j7
   .cases hr
 |lookup t x k ok =>
  rw[j7]at hr;simp only[Z4]at hr;split at hr
  .rename_i kt et hu;split at hr
   .rename_i b z x' k' hk hz hx Hq;cases hr;obtain rfl:r=.mlook b ok z x' k':=by rcases i5 with h|⟨_,h⟩<;>exact h
    simp only[A0]at E5;exact wA hS hf j7 hu hk hz hx Hq E5
   .rename_i z x' k' _ hz hx Hq;split at hr
    .rename_i hp;cases hr;obtain rfl:r=.mlookp ok z x' k':=by rcases i5 with h|⟨_,h⟩<;>exact h
     simp only[A0]at E5;exact oy hS hf j7 hu hp hz hx Hq E5
    .cases hr
   .cases hr
  .cases hr
 |mapUpdate t m k x =>
  rw[j7]at hr;simp only[Z4]at hr;split at hr
  .rename_i kt et hu;split at hr
   .rename_i b m' k' x' hk hm Hq hx;cases hr;obtain rfl:r=.mup b m' k' x':=by rcases i5 with h|⟨_,h⟩<;>exact h
    simp only[A0]at E5;exact zU hS hf (.inl j7) hu hk hm Hq hx E5
   .rename_i m' k' x' _ hm Hq hx;split at hr
    .rename_i hp;cases hr;obtain rfl:r=.mupp m' k' x':=by rcases i5 with h|⟨_,h⟩<;>exact h
     simp only[A0]at E5;exact oz hS hf (.inl j7) hu hp hm Hq hx E5
    .cases hr
   .cases hr
  .cases hr
 |insert t m k x =>
  rw[j7]at hr;simp only[Z4]at hr;split at hr
  .rename_i kt et hu;split at hr
   .rename_i b m' k' x' hk hm Hq hx;cases hr;obtain rfl:r=.mup b m' k' x':=by rcases i5 with h|⟨_,h⟩<;>exact h
    simp only[A0]at E5;exact zU hS hf (.inr j7) hu hk hm Hq hx E5
   .rename_i m' k' x' _ hm Hq hx;split at hr
    .rename_i hp;cases hr;obtain rfl:r=.mupp m' k' x':=by rcases i5 with h|⟨_,h⟩<;>exact h
     simp only[A0]at E5;exact oz hS hf (.inr j7) hu hp hm Hq hx E5
    .cases hr
   .cases hr
  .cases hr
 |_=>rw[j7]at hr;simp[Z4]at hr
theorem nu{p:Op}{r:ROp}(hr:Z4 P p=some r)(hp:∀t l q,p≠.makeSlice t l q):r.bxd=r:=by
 unfold Z4 at hr
 repeat' (split at hr)
 all_goals first
  |(cases hr;done)
  |(exfalso;exact hp _ _ _ rfl)
  |(cases hr;rfl)
  |(simp only[zf0z]at hr;obtain⟨y,_,rfl⟩:=hr;rfl)
theorem lQ(hS:SR E)(hf:FR E fr a.tmps){r r0:ROp}(hr:Z4 P o.op=some r0)(i5:(r=r0\/∃m,r=r0.lax m)\/(r=r0.bxd\/∃m,r=r0.bxd.lax m)){v:AV}{h':AH}(E5:A0 O c r fr E.h=some (v,h'))(hnc:r.isCall=false):Ed P a o E v h':=by
 rcases i5 with i5|i5
 .exact iQ hS hf hr i5 E5 hnc
 .by_cases hp:∃t l q,o.op=.makeSlice t l q
  .obtain⟨t,l,q,j7⟩:=hp;rw[j7]at hr;simp only[Z4]at hr;split at hr
   .rename_i e hu;split at hr
    .rename_i i z l' q' hi hz hl hq;split at hr
     .rename_i Z6;cases hr;obtain rfl:r=.mkb z i.bytes l' q':=by rcases i5 with h|⟨_,h⟩<;>exact h
      simp only[A0]at E5;exact d_mkb hS hf j7 hu hi hz Z6 hl hq E5
     .cases hr
    .cases hr
   .cases hr
  .rw[nu hr λt l q e=>hp ⟨t,l,q,e⟩]at i5;exact iQ hS hf hr i5 E5 hnc
theorem dN{p:Op}{z:AV}(hr:Z4 P p=some (.alloc z)):∃t z0,p=.alloc t/\Program.zeroA P t=some z0/\z=Kk t z0:=by
 unfold Z4 at hr
 repeat' (split at hr)
 all_goals first
  |(cases hr;done)
  |(simp only[zf0z]at hr;obtain⟨y,h1,h2⟩:=hr;cases h2;done)
  |(simp only[zf0z]at hr;obtain⟨y,h1,h2⟩:=hr;cases h2;exact⟨_,_,rfl,h1,rfl⟩)
theorem rF(hS:SR E)(hf:FR E fr a.tmps){r r0:ROp}(hr:Z4 P o.op=some r0)(i5:((r=r0\/∃m,r=r0.lax m)\/(r=r0.bxd\/∃m,r=r0.bxd.lax m))\/∃n z,r0=.alloc z/\r=.allocAt n z){v:AV}{h':AH}(E5:A0 O c r fr E.h=some (v,h'))(hnc:r.isCall=false):Ed P a o E v h':=by
 rcases i5 with i5|⟨n,z,rfl,rfl⟩
 .exact lQ hS hf hr i5 E5 hnc
 .obtain⟨t,z0,j7,hz,rfl⟩:=dN hr;simp only[A0]at E5;exact kY hS j7 hz E5
end
end Go.Abs
