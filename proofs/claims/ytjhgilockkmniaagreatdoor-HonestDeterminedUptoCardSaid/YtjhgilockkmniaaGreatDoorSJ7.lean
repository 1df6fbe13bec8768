/- A part of the proof. -/
import Derived.Test.YtjhgilockkmniaaGreatDoorSJ6
import Derived.Lib.AppendStr
set_option linter.all false
open List renaming getElem?_eq_some_iff->zf0z,eq_nil_of_length_eq_zero->zf1z,getElem?_append_right->zf4z,getElem?_append_left->zf5z,length_append->zf6z,getElem?_toArray->zf8z,getElem?_map->zg1z,append_nil->zg2z
open Nat renaming add_mul->zf2z,mul_le_mul_right->zf3z,add_zero->zf9z,eq_zero_or_pos->zg0z,mul_one->zg3z
open Array renaming getElem?_toList->zf7z
namespace Go.Abs
open Go.RowKit (Below)
section
variable {E:Env} {P:Program} {fr:Fr} {a:Act} {o:Oper}
theorem Cf {args:Array Operand} {ats:Array TypeId} {s x:Operand} {t u:TypeId} (ho:o.op=.call {callee:=.builtin .append,args:=args,argTypes:=ats}) (h1:args.toList=[s,x]) (h2:ats.toList=[t,u]) {v:Value} {w w':World}
  (h:(Builtin.append_ #[t,u] o.type #[a.eval s,a.eval x]).run P w=.ok v w'):(execOp a.eval o).run P w=.ok (.value v) w':=by
 rw[Ng h1,Ng h2]at ho;simp only[execOp,ho,resolve,invoke,builtin,Sem.run_bind,Sem.run_pure,Result.andThen_ok,List.map_toArray,List.map_cons,List.map_nil,h]
theorem MM {us:List Value} {xs:C6} {sz n cap:Nat} (hr:DR E us xs sz) (hl:us.length=n*sz) (z:Array Value) (hz:z.size=sz) (hcap:n<=cap) :
  DR E (us.toArray++Builtin.zeroCells z (cap-n)).toList xs sz/\cap*sz<=(us.toArray++Builtin.zeroCells z (cap-n)).size:=by
 refine⟨?_,?_⟩
 .rw[Array.toList_append];exact YR hr
 .rw[Array.size_append,size_zeroCells,hz,List.size_toArray,hl,←zf2z];exact zf3z _ (by omega)
theorem PQ {t ty e:TypeId} {i:TypeInfo} {z:Value} (ht:P.underlying t=some (.slice e)) (hi:P.info? e=some i) (hz:i.zero=some z) (hzs:z.cells.size=i.size)
  {base:Option Addr} {n cap:Nat} {olds:List Value} {xs:List AV} (hb:base=none->cap=0) (hnc:n<=cap) (hold:olds.length=n*i.size) (eT:xs.length=n)
  (holds:∀b,base=some b->∀(j:Nat) (u:Value),olds[j]?=some u->E.w.cell? (b.add j)=some u) (hro:DR E olds xs i.size)
  {ad:Addr} {ys:List AV} {c:Nat} {news:List Value} (hl:news.length=ys.length*i.size) (hnews:∀(j:Nat) (u:Value),news[j]?=some u->E.w.cell? (ad.add j)=some u) (hrn:DR E news ys i.size)
  (hg:cap<n+ys.length) (hm:n+ys.length<=maxLen) (hbytes:(n+ys.length)*i.bytes<=I0) :
  ∃us newCap,(Builtin.append_ #[t,t] ty #[.slice base n cap,.slice (some ad) ys.length c]).run P E.w=.ok (.slice (some ⟨E.w.heap.size,0,none⟩) (n+ys.length) newCap) (E.w.drew.alloc (.cells us e)) /\
   n+ys.length<=newCap/\newCap<=maxLen/\newCap*i.size<=us.size/\DR E us.toList (xs++ys) i.size:=by
 have j8:=growslice_fits hg hbytes;have h63:((n+ys.length:Nat):Int)<=9223372036854775807:=by unfold maxLen at hm;omega
 refine⟨(olds++news).toArray++Builtin.zeroCells z.cells (grownCap E.w (n+ys.length) cap e-(n+ys.length)),grownCap E.w (n+ys.length) cap e,?_,grownCap_ge _ _ _ _,grownCap_le_maxLen _ _ _ _ hm,?_,?_⟩
 rotate_left 1
 .exact(MM (us:=olds++news) (xs:=xs++ys) (n:=n+ys.length) (GB hro (by rw[hold,eT]) hrn) (by rw[zf6z,hold,hl,zf2z]) z.cells hzs (grownCap_ge E.w _ cap e)).2
 .exact(MM (us:=olds++news) (xs:=xs++ys) (n:=n+ys.length) (GB hro (by rw[hold,eT]) hrn) (by rw[zf6z,hold,hl,zf2z]) z.cells hzs (grownCap_ge E.w _ cap e)).1
 .cases base with
  |none =>
   have hc:=hb rfl;subst hc;have hn0:n=0:=by omega
   subst hn0;have ho0:olds=[]:=zf1z (by simpa using hold);subst ho0;have:=run_append_nil (P:=P) E.w t ty e i z ht hi hz ad ys.length c news hl hnews (by omega) (by simpa using h63) (by simp at hbytes;unfold I0 at hbytes;omega);simpa using this
  |some b =>
   have:=run_append_grow (P:=P) E.w t ty e i z ht hi hz b n cap olds hold (holds b rfl) ad ys.length c news hl hnews hg h63 j8;rw[this];simp
structure Src (P:Program) (E:Env) (t u e:TypeId) (i:TypeInfo) (x:Value) (ys:List AV) (news:List Value):Prop where
 len:news.length=ys.length*i.size
 one:∀v∈news,v.oneCell'=true
 row:DR E news ys i.size
 zero:ys=[]->∀(ty:TypeId) (base:Option Addr) (n c:Nat),n<=c->(Builtin.append_ #[t,u] ty #[.slice base n c,x]).run P E.w=.ok (.slice base n c) E.w
 room:ys≠[]->∀(ty:TypeId) (g q sLen sCap:Nat) (cur:Array Value) (t':TypeId),E.w.heap[g]?=some (.cells cur t' (0,0))->sLen+ys.length<=sCap->q+sLen*i.size+news.length<=cur.size ->
  (Builtin.append_ #[t,u] ty #[.slice (some ⟨g,q,none⟩) sLen sCap,x]).run P E.w =
   .ok (.slice (some ⟨g,q,none⟩) (sLen+ys.length) sCap) (E.w.setRow g (cur.toList.take (q+sLen*i.size)++news++cur.toList.drop (q+sLen*i.size+news.length)).toArray)
 grow:ys≠[]->∀(ty:TypeId) (z:Value) (base:Option Addr) (n cap:Nat) (olds:List Value) (xs:List AV),i.zero=some z->z.cells.size=i.size->(base=none->cap=0)->n<=cap->olds.length=n*i.size->xs.length=n ->
  (∀b,base=some b->∀(j:Nat) (u:Value),olds[j]?=some u->E.w.cell? (b.add j)=some u)->DR E olds xs i.size->cap<n+ys.length->n+ys.length<=maxLen->(n+ys.length)*i.bytes<=I0 ->
  ∃us newCap,(Builtin.append_ #[t,u] ty #[.slice base n cap,x]).run P E.w=.ok (.slice (some ⟨E.w.heap.size,0,none⟩) (n+ys.length) newCap) (E.w.drew.alloc (.cells us e)) /\
   n+ys.length<=newCap/\newCap<=maxLen/\newCap*i.size<=us.size/\DR E us.toList (xs++ys) i.size
theorem aF (hS:SR E) (hf:FR E fr a.tmps) {t e:TypeId} {i:TypeInfo} (ht:P.underlying t=some (.slice e)) (hi:P.info? e=some i) (G7:0<i.size) {x:Operand} {x':Opd} {ys:C6} (hx:B7 x=some x') (Mv:elems E.h i.size (get fr x')=some ys) :
  ∃news,Src P E t t e i (a.eval x) ys news:=by
 obtain⟨ad,cx,f1,f2,f3⟩:=Jk hS G7 (B6 hf hx) Mv;by_cases h0:ys=[]
 .subst h0;refine⟨[],by simp,by simp,λj x h=>by simp at h,λ_ ty base n c hnc=>?_,λh=>absurd rfl h,λh=>absurd rfl h⟩;rw[f1];exact NU t _ e i ht hi base ad n c cx hnc E.w
 .obtain⟨b,q,rfl,f4⟩:=f3 h0;obtain⟨news,n1,n2,n3,n4⟩:=Ja G7 f4;refine⟨news,n1,n3,n4,λh=>absurd h h0,λ_ ty g q' sLen sCap cur t' hg U0 j8=>?_,λ_ ty z base n cap olds xs hz hzs hb hnc hold eT holds hro hgr hm hby=>?_⟩
  .rw[f1];exact QD (P:=P) t ty e i ht hi g q' sLen sCap cur t' E.w hg ⟨b,q,none⟩ ys.length cx news n1 n2 n3 U0 j8
  .rw[f1];exact PQ (P:=P) ht hi hz hzs hb hnc hold eT holds hro n1 n2 n4 hgr hm hby
theorem Ls (str:R7):DR E (Lib.strCells str) (Hv str) 1:=by
 intro j x hj;unfold Hv at hj;rw[zg1z,Option.map_eq_some_iff]at hj;obtain⟨b,hb,rfl⟩:=hj;refine⟨rfl,λc y hc=>?_⟩;cases c with
 |zero =>
  simp only[AV.cells,List.getElem?_cons_zero,Option.some.injEq]at hc;subst hc;refine⟨.int .u8 b.toNat,?_,rfl,by simp[PV]⟩;simp only[Lib.strCells,zg3z,zf9z,zg1z,hb,Option.map_some]
 |succ c=>simp[AV.cells]at hc
theorem Vo (str:R7):(Hv str).length=str.size:=by
 unfold Hv;rw[List.length_map,Array.length_toList];rfl
theorem iC {t u e:TypeId} {i:TypeInfo} (ht:P.underlying t=some (.slice e)) (hu:P.underlying u=some .string) (hi:P.info? e=some i) (hs1:i.size=1) (str:R7) :
  Src P E t u e i (.string str) (Hv str) (Lib.strCells str):=by
 have hl:(Lib.strCells str).length=str.size:=Lib.strCells_length str;have hl':=Vo str;refine⟨by rw[hs1,hl,hl',zg3z],Lib.strCells_oneCell str,by rw[hs1];exact Ls str,λh0 ty base n c hnc=>?_,λh0 ty g q sLen sCap cur t' hg U0 j8=>?_,λh0 ty z base n cap olds xs hz hzs hb hnc hold eT holds hro hgr hm hby=>?_⟩
 .have hz:str.size=0:=by rw[←hl',h0];rfl
  have he:str=.empty:=by
   obtain⟨⟨l⟩⟩:=str;cases l with
   |nil=>rfl
   |cons x l=>simp[ByteArray.size]at hz
  subst he;cases base<;>simp[Builtin.append_,run_underlying ht,run_underlying hu,sizeOf,typeInfo,hi,Builtin.lenOf,hnc,Builtin.firstCells,storeCells]
 .have hf:=Lib.run_firstCells_string (P:=P) E.w i.size str;have S6:=run_storeCells_at P g (q+sLen*i.size) t' (Lib.strCells str) 0 cur E.w hg (by simpa using j8) (Lib.strCells_oneCell str);simp only[zf9z]at S6;rw[hl']at U0 ⊢;rw[hs1]at S6 hf ⊢;simp[Builtin.append_,run_underlying ht,run_underlying hu,sizeOf,typeInfo,hi,hs1,Builtin.lenOf,U0,hf,AP]at S6 ⊢;rw[S6];rfl
 .rw[hl']at hgr hm hby ⊢;have j8:=growslice_fits hgr hby;have h63:((n+str.size:Nat):Int)<=9223372036854775807:=by unfold maxLen at hm;omega
  have hrn:DR E (Lib.strCells str) (Hv str) i.size:=by rw[hs1];exact Ls str
  have hL:(olds++Lib.strCells str).length=(n+str.size)*i.size:=by rw[zf6z,hold,hl,zf2z,hs1];omega
  have hG:=MM (us:=olds++Lib.strCells str) (xs:=xs++Hv str) (n:=n+str.size) (GB hro (by rw[hold,eT]) hrn) hL z.cells hzs (grownCap_ge E.w (n+str.size) cap e);refine⟨(olds++Lib.strCells str).toArray++Builtin.zeroCells z.cells (grownCap E.w (n+str.size) cap e-(n+str.size)),grownCap E.w (n+str.size) cap e,?_,grownCap_ge _ _ _ _,grownCap_le_maxLen _ _ _ _ hm,hG.2,hG.1⟩;cases base with
  |none =>
   have hc:=hb rfl;subst hc;have hn0:n=0:=by omega
   subst hn0;have ho0:olds=[]:=zf1z (by simpa using hold);subst ho0;have:=run_append_nil_string (P:=P) E.w t u ty e i z ht hu hi hz str (by omega) (by simpa using h63) (by simp at hby;unfold I0 at hby;omega);rw[this];have hm:(List.map (λb:UInt8=>Value.int IntKind.u8 (b.toNat:Int)) str.data.toList).toArray=Array.map (λb=>Value.int IntKind.u8 (b.toNat:Int)) str.data:=by
    apply Array.ext';simp
   simp[Lib.strCells,hm]
  |some b =>
   have:=Lib.run_append_grow_string (P:=P) E.w t u ty e i z ht hu hi hz b n cap olds hold (holds b rfl) str hgr h63 j8;rw[this];simp
theorem TS (hS:SR E):Ext E {E with w:=E.w.drew}:=AT hS (In _)
theorem Xb (hS:SR E):SR {E with w:=E.w.drew}:=Dq hS (In _)
theorem Vr {c:Ctx} {args:Array Operand} {ats:Array TypeId} {s x:Operand} {s':Opd} {t u e:TypeId} {i:TypeInfo} {z:AV} {z0:Nat} {xs ys:C6} (hS:SR E) (hf:FR E fr a.tmps)
  (ho:o.op=.call {callee:=.builtin .append,args:=args,argTypes:=ats}) (h1:args.toList=[s,x]) (h2:ats.toList=[t,u]) (ht:P.underlying t=some (.slice e)) (hi:P.info? e=some i) (hz:Program.zeroA P e=some z) (G7:0<i.size)
  (hs:B7 s=some s') (hg:get fr s'=.vs true z0 xs) {news:List Value} (hsrc:Src P E t u e i (a.eval x) ys news) (T6:ys.length≠0) (hz0:z0=i.size\/xs.length=0)
  (hb:(xs.length+ys.length)*i.bytes<=I0) (hm:xs.length+ys.length<=maxLen) :
  Ea P a o E (.sl E.h.fams.length (xs.length+ys.length) 0 (xs.length+ys.length)) {E.h with fams:=E.h.fams++[⟨xs++ys,i.size,c.mutApp⟩]}:=by
 obtain⟨i',zv,q1,q2,q3,q4,q5⟩:=Aw hz;rw[hi]at q1;cases q1;have e1:=B6 hf hs;rw[hg]at e1;simp only[VR,PV]at e1;obtain⟨base,len,cap,e2,rfl,e4,e5,e6,e7,e8⟩:=e1;have ecap:cap=xs.length:=e6 trivial;have n1:=hsrc.len;have n3:=hsrc.one;have n4:=hsrc.row;have hold:∃olds:List Value,olds.length=xs.length*i.size/\(∀b,base=some b->∀(j:Nat) (u:Value),olds[j]?=some u->E.w.cell? (b.add j)=some u)/\DR E olds xs i.size:=by
  by_cases hxe:xs=[]
  .subst hxe;exact⟨[],by simp,λb _ j u h=>by simp at h,λj x h=>by simp at h⟩
  .obtain⟨b',q',rfl,_,hels⟩:=e8 hxe;have:z0=i.size:=by
    rcases hz0 with h|h
    .exact h
    .exact absurd (zf1z h) hxe
   subst this;obtain⟨olds,o1,o2,_,o4⟩:=Ja (E:=E) (b:=b') (q:=q') G7 (ys:=xs) (λj x hj=>by
    obtain⟨p1,p2⟩:=Gz hels hj;refine⟨p1,λc y hc=>?_⟩;obtain⟨u,_,u2,u3,u4⟩:=r9 p2 hc;exact⟨u,u2,u3,u4⟩)
   exact⟨olds,o1,λb'' hb''=>by cases hb'';exact o2,o4⟩
 obtain⟨olds,o1,o2,o3⟩:=hold;obtain⟨us,newCap,r1,r2,r3,r4,r5⟩:=hsrc.grow (by intro h;subst h;simp at T6) o.type _ base _ cap olds xs q2 q3 e7.1 e4 o1 rfl o2 o3 (by omega) hm hb;have hE1:=Xb hS;have hx1:=TS hS;refine⟨_,.slice (some ⟨E.w.heap.size,0,none⟩) (xs.length+ys.length) newCap,({E with w:=E.w.drew}:Env).newFam us e newCap ⟨xs++ys,i.size,c.mutApp⟩,?_,.inl rfl,hx1.trans (Fd hE1 _ _ _ _),
  Ic hE1 G7 (by simpa using r2) r3 r4 (λj x hj=>Kl (Jc hx1 r5) j x hj),rfl,?_⟩
 .refine Cf ho h1 h2 ?_;rw[e2,r1];rfl
 .simp only[VR,Env.newFam,P7];exact⟨_,_,⟨xs++ys,i.size,c.mutApp⟩,rfl,by simp,⟨by simp,λ_=>⟨_,_,rfl⟩⟩,λ_=>⟨Nat.zero_le _,by simp,by simp,(λh=>nomatch h),λ_=>by simp⟩⟩
theorem HU {α:Type} {l:List α} {k:Nat} {x:α} (h:l[k]?=some x):l.set k x=l:=by
 apply List.ext_getElem?;intro j;rw[List.getElem?_set];split
 .rename_i hj;subst hj;have:=(zf0z.1 h).1;rw[if_pos this];exact h.symm
 .rfl
theorem Ye {args:Array Operand} {ats:Array TypeId} {s x:Operand} {s':Opd} {t u e:TypeId} {i:TypeInfo} {z:AV} {k n off len:Nat} {f:Fam} {ys:C6} (hS:SR E) (hf:FR E fr a.tmps)
  (ho:o.op=.call {callee:=.builtin .append,args:=args,argTypes:=ats}) (h1:args.toList=[s,x]) (h2:ats.toList=[t,u]) (ht:P.underlying t=some (.slice e)) (hi:P.info? e=some i) (hz:Program.zeroA P e=some z) (G7:0<i.size)
  (hs:B7 s=some s') (hg:get fr s'=.sl k n off len) {news:List Value} (hsrc:Src P E t u e i (a.eval x) ys news) (hfk:E.h.fams[k]?=some f) (hn:f.xs.length=n) (L4:f.sz=i.size) (hoff:off+len=n)
  (hb:(n+ys.length)*i.bytes<=I0) (hm:n+ys.length<=maxLen) :
  Ea P a o E (.sl k (n+ys.length) off (len+ys.length)) {E.h with fams:=E.h.fams.set k {f with xs:=f.xs++ys}}:=by
 obtain⟨i',zv,q1,q2,q3,q4,q5⟩:=Aw hz;rw[hi]at q1;cases q1;have e1:=B6 hf hs;rw[hg]at e1;have e1':=e1;simp only[VR]at e1;obtain⟨base,cap,f',e2,hf',e4,e5⟩:=e1;have:f'=f:=by rw[hfk]at hf';simpa using hf'.symm
 subst this;obtain⟨l1,l2,l3,l4,l5⟩:=e5 hn;have hF:=hS.fams k f' hfk;have U0:=hF.room;have Bz:=(zf0z.1 hfk).1;have n1:=hsrc.len;have n3:=hsrc.one;have n4:=hsrc.row;have hlencap:len<=cap:=by omega
 by_cases h0:ys=[]
 .subst h0;have cL:E.h.fams.set k {f' with xs:=f'.xs++[]}=E.h.fams:=HU (by rw[zg2z];exact hfk)
  refine⟨_,.slice base len cap,E,Cf ho h1 h2 ?_,.inl rfl,Ext.refl E,hS,by rw[cL],by rw[e2]at e1';simpa using e1'⟩;rw[e2];exact hsrc.zero rfl _ base len cap hlencap
 have hylen:0<ys.length:=by
  rcases zg0z ys.length with h|h
  .exact absurd (zf1z h) h0
  .exact h
 by_cases Ph:len+ys.length<=cap
 ·-- there is room
  have hbase:=l5 (by omega);obtain⟨cur,t',c1,c2,c3⟩:=hF.cells;have hnl:off-(E.im k).lo+len=n-(E.im k).lo:=by omega
  have epos:(E.im k).o+(off-(E.im k).lo)*f'.sz+len*i.size=(E.im k).o+(n-(E.im k).lo)*f'.sz:=by
   rw[←hnl,zf2z,L4];omega
  have j8:(E.im k).o+(n-(E.im k).lo)*f'.sz+news.length<=cur.size:=by
   have h3:(n-(E.im k).lo+ys.length)*f'.sz<=(E.im k).cap*f'.sz:=zf3z _ (by omega);rw[zf2z]at h3;rw[n1,←L4];omega
  have hrun:=hsrc.room h0 o.type (E.im k).b ((E.im k).o+(off-(E.im k).lo)*f'.sz) len cap cur t' c1 Ph (by rw[epos];exact j8);rw[epos]at hrun;obtain⟨us,LH⟩:∃us:Array Value,us=(cur.toList.take ((E.im k).o+(n-(E.im k).lo)*f'.sz)++news++cur.toList.drop ((E.im k).o+(n-(E.im k).lo)*f'.sz+news.length)).toArray:=⟨_,rfl⟩;rw[←LH]at hrun;have hget:∀j:Nat,us[j]?=if j<(E.im k).o+(n-(E.im k).lo)*f'.sz then cur[j]? else if j<(E.im k).o+(n-(E.im k).lo)*f'.sz+news.length then news[j-((E.im k).o+(n-(E.im k).lo)*f'.sz)]? else cur[j]?:=by
   intro j;have:=Cv (l:=cur.toList) (off:=(E.im k).o+(n-(E.im k).lo)*f'.sz) (vs:=news) (by simpa using j8) j;simp only[zf7z]at this;rw[LH,zf8z,this]
  have hkeep:f'.wr=false->∀j,j<(E.im k).o+(f'.xs.length-(E.im k).lo)*f'.sz->us[j]?=cur[j]?:=by
   intro _ j hj;rw[hn]at hj;rw[hget,if_pos hj]
  refine⟨_,.slice base (len+ys.length) cap,E.setFam k us {f' with xs:=f'.xs++ys},Cf ho h1 h2 ?_,.inl rfl,Fg hS hfk c1 rfl rfl (by simp) hkeep,
   Ii hS hfk c1 rfl rfl (by simp) hkeep (by simp;omega) (by rw[LH];simp;omega) ?_,rfl,?_⟩
  .rw[e2,hbase,hrun];rfl
  .intro j x' hj hx';have hx'':(f'.xs++ys)[j]?=some x':=hx';by_cases hjn:j<n
   .rw[zf5z (by omega)]at hx'';obtain⟨g1,g2⟩:=c3 j x' hj hx'';refine⟨g1,λc y hc=>?_⟩;obtain⟨v,v1,v2⟩:=g2 c y hc;have w8:c<f'.sz:=by have:=(zf0z.1 hc).1;omega
    have:=s5 (show j-(E.im k).lo<n-(E.im k).lo by omega) w8;exact⟨v,by rw[hget,if_pos (by omega)];exact v1,v2⟩
   .rw[zf4z (by omega),hn]at hx'';obtain⟨g1,g2⟩:=n4 _ x' hx'';refine⟨by omega,λc y hc=>?_⟩;obtain⟨v,v1,v2⟩:=g2 c y hc;have w8:c<f'.sz:=by have:=(zf0z.1 hc).1;omega
    have hjy:j-n<ys.length:=by have:=(zf0z.1 hx'').1;omega
    have h5:=s5 hjy w8;have ej:(j-(E.im k).lo)*f'.sz=(n-(E.im k).lo)*f'.sz+(j-n)*f'.sz:=by
     rw[←zf2z];congr 1;omega
    refine⟨v,?_,v2⟩;rw[hget,ej,if_neg (by omega),if_pos (by rw[n1,←L4];omega)];rw[show (E.im k).o+((n-(E.im k).lo)*f'.sz+(j-n)*f'.sz)+c-((E.im k).o+(n-(E.im k).lo)*f'.sz)=(j-n)*i.size+c from by rw[←L4];omega];exact v1
  .simp only[VR,Env.setFam];refine⟨base,cap,{f' with xs:=f'.xs++ys},rfl,by simp[Bz],⟨by simp[hn],λ_=>?_⟩,λ_=>⟨l1,by omega,l3,l4,l5⟩⟩
   by_cases hc0:cap=0
   .exfalso;omega
   .exact⟨_,_,l5 hc0⟩
 ·-- there is none
  have hold:∃olds:List Value,olds.length=len*i.size/\(∀b,base=some b->∀(j:Nat) (u:Value),olds[j]?=some u->E.w.cell? (b.add j)=some u)/\DR E olds ((f'.xs.drop off).take len) i.size:=by
   have hll:((f'.xs.drop off).take len).length=len:=by simp;omega
   by_cases hl0:len=0
   .subst hl0;exact⟨[],by simp,λb _ j u h=>by simp at h,λj x h=>by simp at h⟩
   .obtain⟨ad',cx',g1,g2,g3⟩:=Jk hS (sz:=i.size) G7 e1' (ys:=(f'.xs.drop off).take len) (by simp only[elems,hfk];rw[if_pos ⟨hn,L4,by omega⟩]);obtain⟨b',q',rfl,g4⟩:=g3 (by intro h;rw[h]at hll;simp at hll;omega);obtain⟨olds,o1,o2,_,o4⟩:=Ja G7 g4;rw[e2]at g1;have:base=some ⟨b',q',none⟩:=by simp at g1;exact g1.1
    subst this;exact⟨olds,by rw[o1,hll],λb'' hb''=>by cases hb'';exact o2,o4⟩
  obtain⟨olds,o1,o2,o3⟩:=hold;have hll:((f'.xs.drop off).take len).length=len:=by simp;omega
  obtain⟨us,newCap,r1,r2,r3,r4,r5⟩:=hsrc.grow h0 o.type _ base _ cap olds _ q2 q3 (λe=>absurd e l4) hlencap o1 hll o2 o3 (by omega) (by omega) (by
   refine Nat.le_trans (zf3z _ ?_) hb;omega)
  have hE1:=Xb hS;have hx1:=TS hS;refine⟨_,.slice (some ⟨E.w.heap.size,0,none⟩) (len+ys.length) newCap,({E with w:=E.w.drew}:Env).moveFam k us e off newCap {f' with xs:=f'.xs++ys},Cf ho h1 h2 ?_,.inl rfl,
   hx1.trans (Jr hE1 hfk _ _ _ _ rfl (by simp;omega)),
   Oh hE1 hfk rfl (by simp;omega) (by simp;omega) (by simp;omega) r3 (by rw[L4];exact r4) ?_,rfl,?_⟩
  .rw[e2,r1];rfl
  .intro j x' hj hx';have hx'':(f'.xs++ys)[j]?=some x':=hx';rw[L4];refine Kl (Jc hx1 r5) (j-off) x' ?_;by_cases hjn:j<n
   .rw[zf5z (by omega)]at hx'';rw[zf5z (by omega),List.getElem?_take,if_pos (by omega),List.getElem?_drop,show off+(j-off)=j from by omega];exact hx''
   .rw[zf4z (by omega)]at hx'';rw[zf4z (by omega),hll,show j-off-len=j-f'.xs.length from by omega];exact hx''
  .simp only[VR,Env.moveFam,P7];refine⟨_,_,{f' with xs:=f'.xs++ys},rfl,by simp[Bz],⟨by simp[hn],λ_=>⟨_,_,rfl⟩⟩,λ_=>⟨Nat.le_refl _,by omega,by omega,(λh=>nomatch h),λ_=>by simp⟩⟩
theorem Yd {args:Array Operand} {ats:Array TypeId} {s x:Operand} {s':Opd} {t u e:TypeId} {i:TypeInfo} {z:AV} {k n off len:Nat} {f:Fam} {ys:C6} (hS:SR E) (hf:FR E fr a.tmps)
  (ho:o.op=.call {callee:=.builtin .append,args:=args,argTypes:=ats}) (h1:args.toList=[s,x]) (h2:ats.toList=[t,u]) (ht:P.underlying t=some (.slice e)) (hi:P.info? e=some i) (hz:Program.zeroA P e=some z) (G7:0<i.size)
  (hs:B7 s=some s') (hg:get fr s'=.sl k n off len) {news:List Value} (hsrc:Src P E t u e i (a.eval x) ys news) (hfk:E.h.fams[k]?=some f) (hn:f.xs.length=n) (L4:f.sz=i.size) (hwr:f.wr=true) (hfits:off+len+ys.length<=n) :
  Ea P a o E (.sl k n off (len+ys.length)) {E.h with fams:=E.h.fams.set k {f with xs:=f.xs.take (off+len)++ys++f.xs.drop (off+len+ys.length)}}:=by
 obtain⟨i',zv,q1,q2,q3,q4,q5⟩:=Aw hz;rw[hi]at q1;cases q1;have e1:=B6 hf hs;rw[hg]at e1;have e1':=e1;simp only[VR]at e1;obtain⟨base,cap,f',e2,hf',e4,e5⟩:=e1;have:f'=f:=by rw[hfk]at hf';simpa using hf'.symm
 subst this;obtain⟨l1,l2,l3,l4,l5⟩:=e5 hn;have hF:=hS.fams k f' hfk;have U0:=hF.room;have Bz:=(zf0z.1 hfk).1;have n1:=hsrc.len;have n3:=hsrc.one;have n4:=hsrc.row;have hlencap:len<=cap:=by omega
 by_cases h0:ys=[]
 .subst h0;have cL:E.h.fams.set k {f' with xs:=f'.xs.take (off+len)++[]++f'.xs.drop (off+len+0)}=E.h.fams:=HU (by rw[zg2z,zf9z,List.take_append_drop];exact hfk)
  refine⟨_,.slice base len cap,E,Cf ho h1 h2 ?_,.inl rfl,Ext.refl E,hS,by rw[List.length_nil,cL],by rw[e2]at e1';simpa using e1'⟩;rw[e2];exact hsrc.zero rfl _ base len cap hlencap
 have hylen:0<ys.length:=by
  rcases zg0z ys.length with h|h
  .exact absurd (zf1z h) h0
  .exact h
 have Ph:len+ys.length<=cap:=by omega
 have hbase:=l5 (by omega);obtain⟨cur,t',c1,c2,c3⟩:=hF.cells;have hnl:off-(E.im k).lo+len=off+len-(E.im k).lo:=by omega
 have epos:(E.im k).o+(off-(E.im k).lo)*f'.sz+len*i.size=(E.im k).o+(off+len-(E.im k).lo)*f'.sz:=by
  rw[←hnl,zf2z,L4];omega
 have j8:(E.im k).o+(off+len-(E.im k).lo)*f'.sz+news.length<=cur.size:=by
  have h3:(off+len-(E.im k).lo+ys.length)*f'.sz<=(E.im k).cap*f'.sz:=zf3z _ (by omega);rw[zf2z]at h3;rw[n1,←L4];omega
 have hrun:=hsrc.room h0 o.type (E.im k).b ((E.im k).o+(off-(E.im k).lo)*f'.sz) len cap cur t' c1 Ph (by rw[epos];exact j8);rw[epos]at hrun;obtain⟨us,LH⟩:∃us:Array Value,us=(cur.toList.take ((E.im k).o+(off+len-(E.im k).lo)*f'.sz)++news++cur.toList.drop ((E.im k).o+(off+len-(E.im k).lo)*f'.sz+news.length)).toArray:=⟨_,rfl⟩;rw[←LH]at hrun;have hget:∀j:Nat,us[j]?=if j<(E.im k).o+(off+len-(E.im k).lo)*f'.sz then cur[j]? else if j<(E.im k).o+(off+len-(E.im k).lo)*f'.sz+news.length then news[j-((E.im k).o+(off+len-(E.im k).lo)*f'.sz)]? else cur[j]?:=by
  intro j;have:=Cv (l:=cur.toList) (off:=(E.im k).o+(off+len-(E.im k).lo)*f'.sz) (vs:=news) (by simpa using j8) j;simp only[zf7z]at this;rw[LH,zf8z,this]
 have hkeep:f'.wr=false->∀j,j<(E.im k).o+(f'.xs.length-(E.im k).lo)*f'.sz->us[j]?=cur[j]?:=λh=>by rw[hwr]at h;cases h
 obtain⟨zs,hzs⟩:∃zs,zs=f'.xs.take (off+len)++ys++f'.xs.drop (off+len+ys.length):=⟨_,rfl⟩;have WE:zs.length=f'.xs.length:=by rw[hzs];simp;omega
 have hzget:∀j:Nat,zs[j]?=if j<off+len then f'.xs[j]? else if j<off+len+ys.length then ys[j-(off+len)]? else f'.xs[j]?:=by
  intro j;rw[hzs];exact Cv (l:=f'.xs) (off:=off+len) (vs:=ys) (by omega) j
 rw[←hzs];refine⟨_,.slice base (len+ys.length) cap,E.setFam k us {f' with xs:=zs},Cf ho h1 h2 ?_,.inl rfl,Fg hS hfk c1 rfl rfl (by simp[WE]) hkeep,
  Ii hS hfk c1 rfl rfl (by simp[WE]) hkeep (by simp[WE];omega) (by rw[LH];simp;omega) ?_,rfl,?_⟩
 .rw[e2,hbase,hrun];rfl
 .intro j x' hj hx';have hx'':zs[j]?=some x':=hx';rw[hzget]at hx'';by_cases hjn:j<off+len
  .rw[if_pos hjn]at hx'';obtain⟨g1,g2⟩:=c3 j x' hj hx'';refine⟨g1,λc y hc=>?_⟩;obtain⟨v,v1,v2⟩:=g2 c y hc;have w8:c<f'.sz:=by have:=(zf0z.1 hc).1;omega
   have:=s5 (show j-(E.im k).lo<off+len-(E.im k).lo by omega) w8;exact⟨v,by rw[hget,if_pos (by omega)];exact v1,v2⟩
  .rw[if_neg hjn]at hx'';by_cases hjy:j<off+len+ys.length
   .rw[if_pos hjy]at hx'';obtain⟨g1,g2⟩:=n4 _ x' hx'';refine⟨by omega,λc y hc=>?_⟩;obtain⟨v,v1,v2⟩:=g2 c y hc;have w8:c<f'.sz:=by have:=(zf0z.1 hc).1;omega
    have hr:=s5 (show j-(off+len)<ys.length by omega) w8;have ep:(E.im k).o+(j-(E.im k).lo)*f'.sz+c=(E.im k).o+(off+len-(E.im k).lo)*f'.sz+((j-(off+len))*f'.sz+c):=by
     rw[show j-(E.im k).lo=(off+len-(E.im k).lo)+(j-(off+len)) from by omega,zf2z];omega
    refine⟨v,?_,v2⟩;rw[hget,if_neg (by omega),if_pos (by rw[n1,←L4];omega),ep,show (E.im k).o+(off+len-(E.im k).lo)*f'.sz+((j-(off+len))*f'.sz+c)-((E.im k).o+(off+len-(E.im k).lo)*f'.sz)=(j-(off+len))*f'.sz+c from by omega,L4];exact v1
   .rw[if_neg hjy]at hx'';obtain⟨g1,g2⟩:=c3 j x' hj hx'';refine⟨g1,λc y hc=>?_⟩;obtain⟨v,v1,v2⟩:=g2 c y hc;have h3:(off+len-(E.im k).lo+ys.length)*f'.sz<=(j-(E.im k).lo)*f'.sz:=zf3z _ (by omega);rw[zf2z]at h3;exact⟨v,by rw[hget,if_neg (by omega),if_neg (by rw[n1,←L4];omega)];exact v1,v2⟩
 .simp only[VR,Env.setFam];exact⟨base,cap,{f' with xs:=zs},rfl,by simp[Bz],⟨by simp[WE,hn],λ_=>⟨_,_,l5 (by omega)⟩⟩,λ_=>⟨l1,by omega,l3,l4,l5⟩⟩
theorem QI {c:Ctx} {args:Array Operand} {ats:Array TypeId} {s x:Operand} {s':Opd} {t u e:TypeId} {i:TypeInfo} {z v:AV} {h':AH} {ys:C6} {news:List Value} (hS:SR E) (hf:FR E fr a.tmps)
  (ho:o.op=.call {callee:=.builtin .append,args:=args,argTypes:=ats}) (h1:args.toList=[s,x]) (h2:ats.toList=[t,u]) (ht:P.underlying t=some (.slice e)) (hi:P.info? e=some i) (hz:Program.zeroA P e=some z) (G7:0<i.size)
  (hs:B7 s=some s') (hsrc:Src P E t u e i (a.eval x) ys news) (C2:U4 c E.h i.size i.bytes (get fr s') ys=some (v,h')):Ea P a o E v h':=by
 unfold U4 at C2;split at C2
 .rename_i z0 xs hg;split at C2
  .rename_i h0;cases C2;have e1:=B6 hf hs;have e1':=e1;rw[hg]at e1;simp only[VR,PV]at e1;obtain⟨base,len,cap,e2,_,e4,_⟩:=e1;refine⟨_,.slice base len cap,E,Cf ho h1 h2 ?_,.inl rfl,Ext.refl E,hS,rfl,by rw[hg,e2]at e1';exact e1'⟩;rw[e2];exact hsrc.zero (zf1z h0) _ base len cap e4
  .rename_i h0;split at C2
   .rename_i hb;cases C2;exact Vr hS hf ho h1 h2 ht hi hz G7 hs hg hsrc h0 hb.1 hb.2.1 hb.2.2
   .cases C2
 .rename_i k n off len hg;split at C2
  .rename_i f hfk;split at C2
   .rename_i hb;cases C2;exact Ye hS hf ho h1 h2 ht hi hz G7 hs hg hsrc hfk hb.1 hb.2.1 hb.2.2.1 hb.2.2.2.1 hb.2.2.2.2
   .split at C2
    .rename_i hb;cases C2;exact Yd hS hf ho h1 h2 ht hi hz G7 hs hg hsrc hfk hb.1 hb.2.1 hb.2.2.1 hb.2.2.2
    .cases C2
  .cases C2
 .cases C2
end
end Go.Abs
