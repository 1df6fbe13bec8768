/- A part of the proof. -/
import Derived.Test.YtnnjamknplefbaaGreatDoorTN4
import Derived.Lib.AppendStr
import Derived.MapKept
import Derived.Laws.BytesArg
import Derived.Laws.StructEq
set_option linter.all false
open List renaming getElem?_eq_some_iff->zf0z,eq_nil_of_length_eq_zero->zf1z,getElem?_append_left->zf2z,getElem?_append_right->zf5z,getElem?_set_ne->zf8z,getElem?_map->zf9z,length_append->zg2z,map_cons->zg3z,getElem?_toArray->zg4z,map_nil->zg5z,set_cons_succ->zg6z,ext_getElem?->zt0z,getElem?_set->zt1z,append_nil->zt2z,map_append->zt3z,map_set->zt4z
open Nat renaming add_mul->zf3z,mul_le_mul_right->zf6z,le_refl->zf7z,add_zero->zg7z,eq_zero_or_pos->zg8z,le_trans->zt5z,mul_one->zt6z
open Option renaming map_eq_some_iff->zf4z
open Array renaming getElem?_toList->zg0z,getElem?_setIfInBounds_ne->zg1z,toList_push->zg9z
set_option linter.all false
namespace Go.Abs
open Go.RowKit (Below)
section
variable {E:Env} {P:Program} {fr:Fr} {a:Act} {o:Oper}
theorem HQ{args ats s x t u}(ho:o.op=.call {callee:=.builtin .append,args:=args,argTypes:=ats})(h1:args.toList=[s,x])(h2:ats.toList=[t,u]){v w w'}
  (h:(Builtin.append_ #[t,u] o.type #[a.eval s,a.eval x]).run P w=.ok v w'):(execOp a.eval o).run P w=.ok (.value v) w':=by
 rw[Ys h1,Ys h2]at ho;simp only[execOp,ho,resolve,invoke,builtin,Sem.run_bind,Sem.run_pure,Result.andThen_ok,List.map_toArray,zg3z,zg5z,h]
theorem XG{us xs sz n cap}(hr:IV E us xs sz)(hl:us.length=n*sz)(z)(hz:z.size=sz)(hcap:n<=cap) :
  IV E (us.toArray++Builtin.zeroCells z (cap-n)).toList xs sz/\cap*sz<=(us.toArray++Builtin.zeroCells z (cap-n)).size:=by
 refine⟨?_,?_⟩
 .rw[Array.toList_append];exact vK hr
 .rw[Array.size_append,size_zeroCells,hz,List.size_toArray,hl,←zf3z];exact zf6z _ a_
theorem bC{t ty e i z}(ht:P.underlying t=some (.slice e))(hi:P.info? e=some i)(hz:i.zero=some z)(hzs:z.cells.size=i.size)
  {base n cap olds xs} (hb:base=none->cap=0) (hnc:n<=cap) (hold:olds.length=n*i.size) (wJ:xs.length=n)
  (holds:∀b,base=some b->∀(j:Nat) (u:Value),olds[j]?=some u->E.w.cell? (b.add j)=some u) (hro:IV E olds xs i.size)
  {ad ys c news} (hl:news.length=ys.length*i.size) (hnews:∀(j:Nat) (u:Value),news[j]?=some u->E.w.cell? (ad.add j)=some u) (hrn:IV E news ys i.size)
  (hg:cap<n+ys.length) (hm:n+ys.length<=maxLen) (hbytes:(n+ys.length)*i.bytes<=K7) :
  ∃us newCap,(Builtin.append_ #[t,t] ty #[.slice base n cap,.slice (some ad) ys.length c]).run P E.w=.ok (.slice (some ⟨E.w.heap.size,0,none⟩) (n+ys.length) newCap) (E.w.drew.alloc (.cells us e)) /\
   n+ys.length<=newCap/\newCap<=maxLen/\newCap*i.size<=us.size/\IV E us.toList (xs++ys) i.size:=by
 have P5:=growslice_fits hg hbytes;have h63:((n+ys.length:Nat):Int)<=9223372036854775807:=by unfold maxLen at hm;omega
 refine⟨(olds++news).toArray++Builtin.zeroCells z.cells (grownCap E.w (n+ys.length) cap e-(n+ys.length)),grownCap E.w (n+ys.length) cap e,?_,grownCap_ge _ _ _ _,grownCap_le_maxLen _ _ _ _ hm,?_,?_⟩
 rotate_left 1
 .exact(XG (us:=olds++news) (xs:=xs++ys) (n:=n+ys.length) (LX hro (by rw[hold,wJ]) hrn) (by rw[zg2z,hold,hl,zf3z]) z.cells hzs (grownCap_ge E.w _ cap e)).2
 .exact(XG (us:=olds++news) (xs:=xs++ys) (n:=n+ys.length) (LX hro (by rw[hold,wJ]) hrn) (by rw[zg2z,hold,hl,zf3z]) z.cells hzs (grownCap_ge E.w _ cap e)).1
 .cases base with
  |none =>
   have hc:=hb rfl;subst hc;have hn0:n=0:=by omega
   subst hn0;have ho0:=zf1z (by simpa using hold);subst ho0;have:=run_append_nil (P:=P) E.w t ty e i z ht hi hz ad ys.length c news hl hnews a_ (by simpa using h63) (by simp at hbytes;unfold K7 at hbytes;omega);simpa using this
  |some b =>
   have:=run_append_grow (P:=P) E.w t ty e i z ht hi hz b n cap olds hold (holds b rfl) ad ys.length c news hl hnews hg h63 P5;rw[this];simp
structure Src (P:Program) (E:Env) (t u e:TypeId) (i:TypeInfo) (x:Value) (ys:List AV) (news:List Value):Prop where
 len:news.length=ys.length*i.size
 one:∀v∈news,v.oneCell'=true
 row:IV E news ys i.size
 zero:ys=[]->∀(ty:TypeId) (base:Option Addr) (n c:Nat),n<=c->(Builtin.append_ #[t,u] ty #[.slice base n c,x]).run P E.w=.ok (.slice base n c) E.w
 room:ys≠[]->∀(ty:TypeId) (g q sLen sCap:Nat) (cur:Array Value) (t':TypeId),E.w.heap[g]?=some (.cells cur t' (0,0))->sLen+ys.length<=sCap->q+sLen*i.size+news.length<=cur.size ->
  (Builtin.append_ #[t,u] ty #[.slice (some ⟨g,q,none⟩) sLen sCap,x]).run P E.w =
   .ok (.slice (some ⟨g,q,none⟩) (sLen+ys.length) sCap) (E.w.setRow g (cur.toList.take (q+sLen*i.size)++news++cur.toList.drop (q+sLen*i.size+news.length)).toArray)
 grow:ys≠[]->∀(ty:TypeId) (z:Value) (base:Option Addr) (n cap:Nat) (olds:List Value) (xs:List AV),i.zero=some z->z.cells.size=i.size->(base=none->cap=0)->n<=cap->olds.length=n*i.size->xs.length=n ->
  (∀b,base=some b->∀(j:Nat) (u:Value),olds[j]?=some u->E.w.cell? (b.add j)=some u)->IV E olds xs i.size->cap<n+ys.length->n+ys.length<=maxLen->(n+ys.length)*i.bytes<=K7 ->
  ∃us newCap,(Builtin.append_ #[t,u] ty #[.slice base n cap,x]).run P E.w=.ok (.slice (some ⟨E.w.heap.size,0,none⟩) (n+ys.length) newCap) (E.w.drew.alloc (.cells us e)) /\
   n+ys.length<=newCap/\newCap<=maxLen/\newCap*i.size<=us.size/\IV E us.toList (xs++ys) i.size
theorem xb(hS:SR E)(hf:FR E fr a.tmps){t e i}(ht:P.underlying t=some (.slice e))(hi:P.info? e=some i)(V5:0<i.size){x x' ys}(hx:C7 x=some x')(Uw:elems E.h i.size (get fr x')=some ys) :
  ∃news,Src P E t t e i (a.eval x) ys news:=by
 obtain⟨ad,cx,f1,f2,f3⟩:=Rq hS V5 (C8 hf hx) Uw;by_cases h0:ys=[]
 .subst h0;refine⟨[],e_,e_,λj x h=>by simp at h,λ_ ty base n c hnc=>?_,λh=>absurd rfl h,λh=>absurd rfl h⟩;rw[f1];exact Yk t _ e i ht hi base ad n c cx hnc E.w
 .obtain⟨b,q,rfl,f4⟩:=f3 h0;obtain⟨news,n1,n2,n3,n4⟩:=Ri V5 f4;refine⟨news,n1,n3,n4,λh=>absurd h h0,λ_ ty g q' sLen sCap cur t' hg Am P5=>?_,λ_ ty z base n cap olds xs hz hzs hb hnc hold wJ holds hro hgr hm hby=>?_⟩
  .rw[f1];exact dJ (P:=P) t ty e i ht hi g q' sLen sCap cur t' E.w hg ⟨b,q,none⟩ ys.length cx news n1 n2 n3 Am P5
  .rw[f1];exact bC (P:=P) ht hi hz hzs hb hnc hold wJ holds hro n1 n2 n4 hgr hm hby
theorem WX(str):IV E (Lib.strCells str) (PJ str) 1:=by
 intro j x hj;unfold PJ at hj;rw[zf9z,zf4z]at hj;obtain⟨b,hb,rfl⟩:=hj;refine⟨rfl,λc y hc=>?_⟩;cases c with
 |zero =>
  simp only[AV.cells,List.getElem?_cons_zero,Option.some.injEq]at hc;subst hc;refine⟨.int .u8 b.toNat,?_,rfl,by simp[PV]⟩;simp only[Lib.strCells,zt6z,zg7z,zf9z,hb,Option.map_some]
 |succ c=>simp[AV.cells]at hc
theorem nR(str):(PJ str).length=str.size:=by
 unfold PJ;rw[List.length_map,Array.length_toList];rfl
theorem src_str{t u e i}(ht:P.underlying t=some (.slice e))(hu:P.underlying u=some .string)(hi:P.info? e=some i)(hs1:i.size=1)(str) :
  Src P E t u e i (.string str) (PJ str) (Lib.strCells str):=by
 have hl:=Lib.strCells_length str;have hl':=nR str;refine⟨by rw[hs1,hl,hl',zt6z],Lib.strCells_oneCell str,by rw[hs1];exact WX str,λh0 ty base n c hnc=>?_,λh0 ty g q sLen sCap cur t' hg Am P5=>?_,λh0 ty z base n cap olds xs hz hzs hb hnc hold wJ holds hro hgr hm hby=>?_⟩
 .have hz:str.size=0:=by rw[←hl',h0];rfl
  have he:str=.empty:=by
   obtain⟨⟨l⟩⟩:=str;cases l with
   |nil=>rfl
   |cons x l=>simp[ByteArray.size]at hz
  subst he;cases base<;>simp[Builtin.append_,run_underlying ht,run_underlying hu,sizeOf,typeInfo,hi,Builtin.lenOf,hnc,Builtin.firstCells,storeCells]
 .have hf:=Lib.run_firstCells_string (P:=P) E.w i.size str;have X8:=run_storeCells_at P g (q+sLen*i.size) t' (Lib.strCells str) 0 cur E.w hg (by simpa using P5) (Lib.strCells_oneCell str);simp only[zg7z]at X8;rw[hl']at Am ⊢;rw[hs1]at X8 hf ⊢;simp[Builtin.append_,run_underlying ht,run_underlying hu,sizeOf,typeInfo,hi,hs1,Builtin.lenOf,Am,hf,Dl]at X8 ⊢;rw[X8];rfl
 .rw[hl']at hgr hm hby ⊢;have P5:=growslice_fits hgr hby;have h63:((n+str.size:Nat):Int)<=9223372036854775807:=by unfold maxLen at hm;omega
  have hrn:IV E (Lib.strCells str) (PJ str) i.size:=by rw[hs1];exact WX str
  have hL:(olds++Lib.strCells str).length=(n+str.size)*i.size:=by rw[zg2z,hold,hl,zf3z,hs1];omega
  have hG:=XG (us:=olds++Lib.strCells str) (xs:=xs++PJ str) (n:=n+str.size) (LX hro (by rw[hold,wJ]) hrn) hL z.cells hzs (grownCap_ge E.w (n+str.size) cap e);refine⟨(olds++Lib.strCells str).toArray++Builtin.zeroCells z.cells (grownCap E.w (n+str.size) cap e-(n+str.size)),grownCap E.w (n+str.size) cap e,?_,grownCap_ge _ _ _ _,grownCap_le_maxLen _ _ _ _ hm,hG.2,hG.1⟩;cases base with
  |none =>
   have hc:=hb rfl;subst hc;have hn0:n=0:=by omega
   subst hn0;have ho0:=zf1z (by simpa using hold);subst ho0;have:=run_append_nil_string (P:=P) E.w t u ty e i z ht hu hi hz str a_ (by simpa using h63) (by simp at hby;unfold K7 at hby;omega);rw[this];have hm:(List.map (λb:UInt8=>Value.int IntKind.u8 (b.toNat:Int)) str.data.toList).toArray=Array.map (λb=>Value.int IntKind.u8 (b.toNat:Int)) str.data:=by
    apply Array.ext';simp
   simp[Lib.strCells,hm]
  |some b =>
   have:=Lib.run_append_grow_string (P:=P) E.w t u ty e i z ht hu hi hz b n cap olds hold (holds b rfl) str hgr h63 P5;rw[this];simp
theorem jl(hS:SR E):Ext E {E with w:=E.w.drew}:=Bi hS (Qh _)
theorem sH(hS:SR E):SR {E with w:=E.w.drew}:=FO hS (Qh _)
theorem nW{c:Ctx}{args ats s x s' t u e i z z0 xs ys}(hS:SR E)(hf:FR E fr a.tmps)
  (ho:o.op=.call {callee:=.builtin .append,args:=args,argTypes:=ats}) (h1:args.toList=[s,x]) (h2:ats.toList=[t,u]) (ht:P.underlying t=some (.slice e)) (hi:P.info? e=some i) (hz:Program.zeroA P e=some z) (V5:0<i.size)
  (hs:C7 s=some s') (hg:get fr s'=.vs true z0 xs) {news} (hsrc:Src P E t u e i (a.eval x) ys news) (AS:ys.length≠0) (hz0:z0=i.size\/xs.length=0)
  (hb:(xs.length+ys.length)*i.bytes<=K7) (hm:xs.length+ys.length<=maxLen) :
  Ji P a o E (.sl E.h.fams.length (xs.length+ys.length) 0 (xs.length+ys.length)) {E.h with fams:=E.h.fams++[⟨xs++ys,i.size,c.mutApp⟩]}:=by
 obtain⟨i',zv,q1,q2,q3,q4,q5⟩:=Fn hz;rw[hi]at q1;cases q1;have e1:=C8 hf hs;rw[hg]at e1;simp only[VR,PV]at e1;obtain⟨base,len,cap,e2,rfl,e4,e5,e6,e7,e8⟩:=e1;have ecap:=e6 trivial;have n1:=hsrc.len;have n3:=hsrc.one;have n4:=hsrc.row;have hold:∃olds:List Value,olds.length=xs.length*i.size/\(∀b,base=some b->∀(j:Nat) (u:Value),olds[j]?=some u->E.w.cell? (b.add j)=some u)/\IV E olds xs i.size:=by
  by_cases hxe:xs=[]
  .subst hxe;exact⟨[],e_,λb _ j u h=>by simp at h,λj x h=>by simp at h⟩
  .obtain⟨b',q',rfl,_,hels⟩:=e8 hxe;have:z0=i.size:=by
    rcases hz0 with h|h
    .exact h
    .exact absurd (zf1z h) hxe
   subst this;obtain⟨olds,o1,o2,_,o4⟩:=Ri (E:=E) (b:=b') (q:=q') V5 (ys:=xs) (λj x hj=>by
    obtain⟨p1,p2⟩:=NL hels hj;refine⟨p1,λc y hc=>?_⟩;obtain⟨u,_,u2,u3,u4⟩:=CM p2 hc;exact⟨u,u2,u3,u4⟩)
   exact⟨olds,o1,λb'' hb''=>by cases hb'';exact o2,o4⟩
 obtain⟨olds,o1,o2,o3⟩:=hold;obtain⟨us,newCap,r1,r2,r3,r4,r5⟩:=hsrc.grow (by intro h;subst h;simp at AS) o.type _ base _ cap olds xs q2 q3 e7.1 e4 o1 rfl o2 o3 a_ hm hb;have hE1:=sH hS;have hx1:=jl hS;refine⟨_,.slice (some ⟨E.w.heap.size,0,none⟩) (xs.length+ys.length) newCap,({E with w:=E.w.drew}:Env).newFam us e newCap ⟨xs++ys,i.size,c.mutApp⟩,?_,.inl rfl,hx1.trans (JQ hE1 _ _ _ _),
  NI hE1 V5 (by simpa using r2) r3 r4 (λj x hj=>UC (Rk hx1 r5) j x hj),rfl,?_⟩
 .refine HQ ho h1 h2 ?_;rw[e2,r1];rfl
 .simp only[VR,Env.newFam,X5];exact⟨_,_,⟨xs++ys,i.size,c.mutApp⟩,rfl,e_,⟨e_,λ_=>⟨_,_,rfl⟩⟩,λ_=>⟨Nat.zero_le _,e_,e_,(λh=>nomatch h),λ_=>by simp⟩⟩
theorem bI{α:Type}{l:List α}{k x}(h:l[k]?=some x):l.set k x=l:=by
 apply zt0z;intro j;rw[zt1z];split
 .rename_i hj;subst hj;have:=(zf0z.1 h).1;rw[if_pos this];exact h.symm
 .rfl
theorem vh{args ats s x s' t u e i z k n off len f ys}(hS:SR E)(hf:FR E fr a.tmps)
  (ho:o.op=.call {callee:=.builtin .append,args:=args,argTypes:=ats}) (h1:args.toList=[s,x]) (h2:ats.toList=[t,u]) (ht:P.underlying t=some (.slice e)) (hi:P.info? e=some i) (hz:Program.zeroA P e=some z) (V5:0<i.size)
  (hs:C7 s=some s') (hg:get fr s'=.sl k n off len) {news} (hsrc:Src P E t u e i (a.eval x) ys news) (hfk:E.h.fams[k]?=some f) (hn:f.xs.length=n) (X9:f.sz=i.size) (hoff:off+len=n)
  (hb:(n+ys.length)*i.bytes<=K7) (hm:n+ys.length<=maxLen) :
  Ji P a o E (.sl k (n+ys.length) off (len+ys.length)) {E.h with fams:=E.h.fams.set k {f with xs:=f.xs++ys}}:=by
 obtain⟨i',zv,q1,q2,q3,q4,q5⟩:=Fn hz;rw[hi]at q1;cases q1;have e1:=C8 hf hs;rw[hg]at e1;have e1':=e1;simp only[VR]at e1;obtain⟨base,cap,f',e2,hf',e4,e5⟩:=e1;have:f'=f:=by rw[hfk]at hf';simpa using hf'.symm
 subst this;obtain⟨l1,l2,l3,l4,l5⟩:=e5 hn;have hF:=hS.fams k f' hfk;have Am:=hF.room;have Ef:=(zf0z.1 hfk).1;have n1:=hsrc.len;have n3:=hsrc.one;have n4:=hsrc.row;have hlencap:len<=cap:=by omega
 by_cases h0:ys=[]
 .subst h0;have Zy:E.h.fams.set k {f' with xs:=f'.xs++[]}=E.h.fams:=bI (by rw[zt2z];exact hfk)
  refine⟨_,.slice base len cap,E,HQ ho h1 h2 ?_,.inl rfl,Ext.refl E,hS,by rw[Zy],by rw[e2]at e1';simpa using e1'⟩;rw[e2];exact hsrc.zero rfl _ base len cap hlencap
 have hylen:0<ys.length:=by
  rcases zg8z ys.length with h|h
  .exact absurd (zf1z h) h0
  .exact h
 by_cases jO:len+ys.length<=cap
 ·-- there is room
  have hbase:=l5 a_;obtain⟨cur,t',c1,c2,c3⟩:=hF.cells;have hnl:off-(E.im k).lo+len=n-(E.im k).lo:=by omega
  have epos:(E.im k).o+(off-(E.im k).lo)*f'.sz+len*i.size=(E.im k).o+(n-(E.im k).lo)*f'.sz:=by
   rw[←hnl,zf3z,X9];omega
  have P5:(E.im k).o+(n-(E.im k).lo)*f'.sz+news.length<=cur.size:=by
   have h3:(n-(E.im k).lo+ys.length)*f'.sz<=(E.im k).cap*f'.sz:=zf6z _ a_;rw[zf3z]at h3;rw[n1,←X9];omega
  have hrun:=hsrc.room h0 o.type (E.im k).b ((E.im k).o+(off-(E.im k).lo)*f'.sz) len cap cur t' c1 jO (by rw[epos];exact P5);rw[epos]at hrun;obtain⟨us,Wk⟩:∃us:Array Value,us=(cur.toList.take ((E.im k).o+(n-(E.im k).lo)*f'.sz)++news++cur.toList.drop ((E.im k).o+(n-(E.im k).lo)*f'.sz+news.length)).toArray:=⟨_,rfl⟩;rw[←Wk]at hrun;have hget:∀j:Nat,us[j]?=if j<(E.im k).o+(n-(E.im k).lo)*f'.sz then cur[j]? else if j<(E.im k).o+(n-(E.im k).lo)*f'.sz+news.length then news[j-((E.im k).o+(n-(E.im k).lo)*f'.sz)]? else cur[j]?:=by
   intro j;have:=Hk (l:=cur.toList) (off:=(E.im k).o+(n-(E.im k).lo)*f'.sz) (vs:=news) (by simpa using P5) j;simp only[zg0z]at this;rw[Wk,zg4z,this]
  have hkeep:f'.wr=false->∀j,j<(E.im k).o+(f'.xs.length-(E.im k).lo)*f'.sz->us[j]?=cur[j]?:=by
   intro _ j hj;rw[hn]at hj;rw[hget,if_pos hj]
  refine⟨_,.slice base (len+ys.length) cap,E.setFam k us {f' with xs:=f'.xs++ys},HQ ho h1 h2 ?_,.inl rfl,Kt hS hfk c1 rfl rfl e_ hkeep,
   QU hS hfk c1 rfl rfl e_ hkeep f8 (by rw[Wk];simp;omega) ?_,rfl,?_⟩
  .rw[e2,hbase,hrun];rfl
  .intro j x' hj hx';have hx'':(f'.xs++ys)[j]?=some x':=hx';by_cases hjn:j<n
   .rw[zf2z a_]at hx'';obtain⟨g1,g2⟩:=c3 j x' hj hx'';refine⟨g1,λc y hc=>?_⟩;obtain⟨v,v1,v2⟩:=g2 c y hc;have Au:c<f'.sz:=by have:=(zf0z.1 hc).1;omega
    have:=DE (show j-(E.im k).lo<n-(E.im k).lo by omega) Au;exact⟨v,by rw[hget,if_pos a_];exact v1,v2⟩
   .rw[zf5z a_,hn]at hx'';obtain⟨g1,g2⟩:=n4 _ x' hx'';refine⟨a_,λc y hc=>?_⟩;obtain⟨v,v1,v2⟩:=g2 c y hc;have Au:c<f'.sz:=by have:=(zf0z.1 hc).1;omega
    have hjy:j-n<ys.length:=by have:=(zf0z.1 hx'').1;omega
    have h5:=DE hjy Au;have ej:(j-(E.im k).lo)*f'.sz=(n-(E.im k).lo)*f'.sz+(j-n)*f'.sz:=by
     rw[←zf3z];congr 1;omega
    refine⟨v,?_,v2⟩;rw[hget,ej,if_neg a_,if_pos (by rw[n1,←X9];omega)];rw[show (E.im k).o+((n-(E.im k).lo)*f'.sz+(j-n)*f'.sz)+c-((E.im k).o+(n-(E.im k).lo)*f'.sz)=(j-n)*i.size+c from by rw[←X9];omega];exact v1
  .simp only[VR,Env.setFam];refine⟨base,cap,{f' with xs:=f'.xs++ys},rfl,by simp[Ef],⟨by simp[hn],λ_=>?_⟩,λ_=>⟨l1,a_,l3,l4,l5⟩⟩
   by_cases hc0:cap=0
   .exfalso;omega
   .exact⟨_,_,l5 hc0⟩
 ·-- there is none
  have hold:∃olds:List Value,olds.length=len*i.size/\(∀b,base=some b->∀(j:Nat) (u:Value),olds[j]?=some u->E.w.cell? (b.add j)=some u)/\IV E olds ((f'.xs.drop off).take len) i.size:=by
   have hll:((f'.xs.drop off).take len).length=len:=by simp;omega
   by_cases hl0:len=0
   .subst hl0;exact⟨[],e_,λb _ j u h=>by simp at h,λj x h=>by simp at h⟩
   .obtain⟨ad',cx',g1,g2,g3⟩:=Rq hS (sz:=i.size) V5 e1' (ys:=(f'.xs.drop off).take len) (by simp only[elems,hfk];rw[if_pos ⟨hn,X9,a_⟩]);obtain⟨b',q',rfl,g4⟩:=g3 (by intro h;rw[h]at hll;simp at hll;omega);obtain⟨olds,o1,o2,_,o4⟩:=Ri V5 g4;rw[e2]at g1;have:base=some ⟨b',q',none⟩:=by simp at g1;exact g1.1
    subst this;exact⟨olds,by rw[o1,hll],λb'' hb''=>by cases hb'';exact o2,o4⟩
  obtain⟨olds,o1,o2,o3⟩:=hold;have hll:((f'.xs.drop off).take len).length=len:=by simp;omega
  obtain⟨us,newCap,r1,r2,r3,r4,r5⟩:=hsrc.grow h0 o.type _ base _ cap olds _ q2 q3 (λe=>absurd e l4) hlencap o1 hll o2 o3 a_ a_ (by
   refine zt5z (zf6z _ ?_) hb;omega)
  have hE1:=sH hS;have hx1:=jl hS;refine⟨_,.slice (some ⟨E.w.heap.size,0,none⟩) (len+ys.length) newCap,({E with w:=E.w.drew}:Env).moveFam k us e off newCap {f' with xs:=f'.xs++ys},HQ ho h1 h2 ?_,.inl rfl,
   hx1.trans (SA hE1 hfk _ _ _ _ rfl f8),
   aJ hE1 hfk rfl f8 f8 f8 r3 (by rw[X9];exact r4) ?_,rfl,?_⟩
  .rw[e2,r1];rfl
  .intro j x' hj hx';have hx'':(f'.xs++ys)[j]?=some x':=hx';rw[X9];refine UC (Rk hx1 r5) (j-off) x' ?_;by_cases hjn:j<n
   .rw[zf2z a_]at hx'';rw[zf2z a_,List.getElem?_take,if_pos a_,List.getElem?_drop,show off+(j-off)=j from by omega];exact hx''
   .rw[zf5z a_]at hx'';rw[zf5z a_,hll,show j-off-len=j-f'.xs.length from by omega];exact hx''
  .simp only[VR,Env.moveFam,X5];refine⟨_,_,{f' with xs:=f'.xs++ys},rfl,by simp[Ef],⟨by simp[hn],λ_=>⟨_,_,rfl⟩⟩,λ_=>⟨zf7z _,a_,a_,(λh=>nomatch h),λ_=>by simp⟩⟩
theorem vf{args ats s x s' t u e i z k n off len f ys}(hS:SR E)(hf:FR E fr a.tmps)
  (ho:o.op=.call {callee:=.builtin .append,args:=args,argTypes:=ats}) (h1:args.toList=[s,x]) (h2:ats.toList=[t,u]) (ht:P.underlying t=some (.slice e)) (hi:P.info? e=some i) (hz:Program.zeroA P e=some z) (V5:0<i.size)
  (hs:C7 s=some s') (hg:get fr s'=.sl k n off len) {news} (hsrc:Src P E t u e i (a.eval x) ys news) (hfk:E.h.fams[k]?=some f) (hn:f.xs.length=n) (X9:f.sz=i.size) (hwr:f.wr=true) (hfits:off+len+ys.length<=n) :
  Ji P a o E (.sl k n off (len+ys.length)) {E.h with fams:=E.h.fams.set k {f with xs:=f.xs.take (off+len)++ys++f.xs.drop (off+len+ys.length)}}:=by
 obtain⟨i',zv,q1,q2,q3,q4,q5⟩:=Fn hz;rw[hi]at q1;cases q1;have e1:=C8 hf hs;rw[hg]at e1;have e1':=e1;simp only[VR]at e1;obtain⟨base,cap,f',e2,hf',e4,e5⟩:=e1;have:f'=f:=by rw[hfk]at hf';simpa using hf'.symm
 subst this;obtain⟨l1,l2,l3,l4,l5⟩:=e5 hn;have hF:=hS.fams k f' hfk;have Am:=hF.room;have Ef:=(zf0z.1 hfk).1;have n1:=hsrc.len;have n3:=hsrc.one;have n4:=hsrc.row;have hlencap:len<=cap:=by omega
 by_cases h0:ys=[]
 .subst h0;have Zy:E.h.fams.set k {f' with xs:=f'.xs.take (off+len)++[]++f'.xs.drop (off+len+0)}=E.h.fams:=bI (by rw[zt2z,zg7z,List.take_append_drop];exact hfk)
  refine⟨_,.slice base len cap,E,HQ ho h1 h2 ?_,.inl rfl,Ext.refl E,hS,by rw[List.length_nil,Zy],by rw[e2]at e1';simpa using e1'⟩;rw[e2];exact hsrc.zero rfl _ base len cap hlencap
 have hylen:0<ys.length:=by
  rcases zg8z ys.length with h|h
  .exact absurd (zf1z h) h0
  .exact h
 have jO:len+ys.length<=cap:=by omega
 have hbase:=l5 a_;obtain⟨cur,t',c1,c2,c3⟩:=hF.cells;have hnl:off-(E.im k).lo+len=off+len-(E.im k).lo:=by omega
 have epos:(E.im k).o+(off-(E.im k).lo)*f'.sz+len*i.size=(E.im k).o+(off+len-(E.im k).lo)*f'.sz:=by
  rw[←hnl,zf3z,X9];omega
 have P5:(E.im k).o+(off+len-(E.im k).lo)*f'.sz+news.length<=cur.size:=by
  have h3:(off+len-(E.im k).lo+ys.length)*f'.sz<=(E.im k).cap*f'.sz:=zf6z _ a_;rw[zf3z]at h3;rw[n1,←X9];omega
 have hrun:=hsrc.room h0 o.type (E.im k).b ((E.im k).o+(off-(E.im k).lo)*f'.sz) len cap cur t' c1 jO (by rw[epos];exact P5);rw[epos]at hrun;obtain⟨us,Wk⟩:∃us:Array Value,us=(cur.toList.take ((E.im k).o+(off+len-(E.im k).lo)*f'.sz)++news++cur.toList.drop ((E.im k).o+(off+len-(E.im k).lo)*f'.sz+news.length)).toArray:=⟨_,rfl⟩;rw[←Wk]at hrun;have hget:∀j:Nat,us[j]?=if j<(E.im k).o+(off+len-(E.im k).lo)*f'.sz then cur[j]? else if j<(E.im k).o+(off+len-(E.im k).lo)*f'.sz+news.length then news[j-((E.im k).o+(off+len-(E.im k).lo)*f'.sz)]? else cur[j]?:=by
  intro j;have:=Hk (l:=cur.toList) (off:=(E.im k).o+(off+len-(E.im k).lo)*f'.sz) (vs:=news) (by simpa using P5) j;simp only[zg0z]at this;rw[Wk,zg4z,this]
 have hkeep:f'.wr=false->∀j,j<(E.im k).o+(f'.xs.length-(E.im k).lo)*f'.sz->us[j]?=cur[j]?:=λh=>by rw[hwr]at h;cases h
 obtain⟨zs,hzs⟩:∃zs,zs=f'.xs.take (off+len)++ys++f'.xs.drop (off+len+ys.length):=⟨_,rfl⟩;have cM:zs.length=f'.xs.length:=by rw[hzs];simp;omega
 have hzget:∀j:Nat,zs[j]?=if j<off+len then f'.xs[j]? else if j<off+len+ys.length then ys[j-(off+len)]? else f'.xs[j]?:=by
  intro j;rw[hzs];exact Hk (l:=f'.xs) (off:=off+len) (vs:=ys) a_ j
 rw[←hzs];refine⟨_,.slice base (len+ys.length) cap,E.setFam k us {f' with xs:=zs},HQ ho h1 h2 ?_,.inl rfl,Kt hS hfk c1 rfl rfl (by simp[cM]) hkeep,
  QU hS hfk c1 rfl rfl (by simp[cM]) hkeep (by simp[cM];omega) (by rw[Wk];simp;omega) ?_,rfl,?_⟩
 .rw[e2,hbase,hrun];rfl
 .intro j x' hj hx';have hx'':=hx';rw[hzget]at hx'';by_cases hjn:j<off+len
  .rw[if_pos hjn]at hx'';obtain⟨g1,g2⟩:=c3 j x' hj hx'';refine⟨g1,λc y hc=>?_⟩;obtain⟨v,v1,v2⟩:=g2 c y hc;have Au:c<f'.sz:=by have:=(zf0z.1 hc).1;omega
   have:=DE (show j-(E.im k).lo<off+len-(E.im k).lo by omega) Au;exact⟨v,by rw[hget,if_pos a_];exact v1,v2⟩
  .rw[if_neg hjn]at hx'';by_cases hjy:j<off+len+ys.length
   .rw[if_pos hjy]at hx'';obtain⟨g1,g2⟩:=n4 _ x' hx'';refine⟨a_,λc y hc=>?_⟩;obtain⟨v,v1,v2⟩:=g2 c y hc;have Au:c<f'.sz:=by have:=(zf0z.1 hc).1;omega
    have hr:=DE (show j-(off+len)<ys.length by omega) Au;have ep:(E.im k).o+(j-(E.im k).lo)*f'.sz+c=(E.im k).o+(off+len-(E.im k).lo)*f'.sz+((j-(off+len))*f'.sz+c):=by
     rw[show j-(E.im k).lo=(off+len-(E.im k).lo)+(j-(off+len)) from by omega,zf3z];omega
    refine⟨v,?_,v2⟩;rw[hget,if_neg a_,if_pos (by rw[n1,←X9];omega),ep,show (E.im k).o+(off+len-(E.im k).lo)*f'.sz+((j-(off+len))*f'.sz+c)-((E.im k).o+(off+len-(E.im k).lo)*f'.sz)=(j-(off+len))*f'.sz+c from by omega,X9];exact v1
   .rw[if_neg hjy]at hx'';obtain⟨g1,g2⟩:=c3 j x' hj hx'';refine⟨g1,λc y hc=>?_⟩;obtain⟨v,v1,v2⟩:=g2 c y hc;have h3:(off+len-(E.im k).lo+ys.length)*f'.sz<=(j-(E.im k).lo)*f'.sz:=zf6z _ a_;rw[zf3z]at h3;exact⟨v,by rw[hget,if_neg a_,if_neg (by rw[n1,←X9];omega)];exact v1,v2⟩
 .simp only[VR,Env.setFam];exact⟨base,cap,{f' with xs:=zs},rfl,by simp[Ef],⟨by simp[cM,hn],λ_=>⟨_,_,l5 a_⟩⟩,λ_=>⟨l1,a_,l3,l4,l5⟩⟩
theorem dQ{c args ats s x s' t u e i z v h' ys news}(hS:SR E)(hf:FR E fr a.tmps)
  (ho:o.op=.call {callee:=.builtin .append,args:=args,argTypes:=ats}) (h1:args.toList=[s,x]) (h2:ats.toList=[t,u]) (ht:P.underlying t=some (.slice e)) (hi:P.info? e=some i) (hz:Program.zeroA P e=some z) (V5:0<i.size)
  (hs:C7 s=some s') (hsrc:Src P E t u e i (a.eval x) ys news) (E3:q9 c E.h i.size i.bytes (get fr s') ys=some (v,h')):Ji P a o E v h':=by
 unfold q9 at E3;split at E3
 .rename_i z0 xs hg;split at E3
  .rename_i h0;cases E3;have e1:=C8 hf hs;have e1':=e1;rw[hg]at e1;simp only[VR,PV]at e1;obtain⟨base,len,cap,e2,_,e4,_⟩:=e1;refine⟨_,.slice base len cap,E,HQ ho h1 h2 ?_,.inl rfl,Ext.refl E,hS,rfl,by rw[hg,e2]at e1';exact e1'⟩;rw[e2];exact hsrc.zero (zf1z h0) _ base len cap e4
  .rename_i h0;split at E3
   .rename_i hb;cases E3;exact nW hS hf ho h1 h2 ht hi hz V5 hs hg hsrc h0 hb.1 hb.2.1 hb.2.2
   .cases E3
 .rename_i k n off len hg;split at E3
  .rename_i f hfk;split at E3
   .rename_i hb;cases E3;exact vh hS hf ho h1 h2 ht hi hz V5 hs hg hsrc hfk hb.1 hb.2.1 hb.2.2.1 hb.2.2.2.1 hb.2.2.2.2
   .split at E3
    .rename_i hb;cases E3;exact vf hS hf ho h1 h2 ht hi hz V5 hs hg hsrc hfk hb.1 hb.2.1 hb.2.2.1 hb.2.2.2
    .cases E3
  .cases E3
 .cases E3
end
section
variable {E:Env} {P:Program} {fr:Fr} {a:Act} {o:Oper}
theorem Zx(w:World)(x):(w.alloc x).heap[w.heap.size]?=some x:=(MapKept.heap_alloc w x).1
def Env.newMap(E:Env):Env :=
 {E with w:=E.w.alloc (.map #[] 0),nb:=upd E.nb E.h.boxes.length E.w.heap.size,h:={E.h with boxes:=E.h.boxes++[[.mbox [] []]]}}
theorem aN(h:SR E):Ext E E.newMap:=by
 refine⟨λb o ho=>?_,by simp[Env.newMap],λi hi=>⟨dy rfl hi,Cu _ _ (by have:=hi.lt;omega)⟩,zf7z _,λk f f' hf hf'=>?_,rfl,rfl,⟨(Below.refl _ _).alloc h.basele _,λ_=>zf7z _⟩⟩
 .have C2:=Vy h ho;refine⟨?_,LB (Below.heap_alloc _ _ _ C2)⟩;rcases ho with ho|⟨h1,_,h3,h4⟩
  .exact .inl ho
  .refine .inr ⟨h1,by simp[Env.newMap];omega,λi hi=>?_,h4⟩;by_cases hn:i=E.h.boxes.length
   .subst hn;simp only[Env.newMap,X5];intro e;omega
   .have BR:=(Lc (E:=E) rfl hi).resolve_right hn;simp only[Env.newMap,Cu _ _ hn];intro e;obtain⟨cs',hcs'⟩:=h3 i BR e;exact⟨cs',by rw[zf2z BR.lt];exact hcs'⟩
 .have:f=f':=by have:=hf.symm.trans hf';simpa using this
  subst this;exact⟨rfl,zf7z _,λ_=>rfl⟩
theorem wg(h:SR E):SR E.newMap:=by
 have hx:=aN h;have D6:E.newMap.h.boxes.length=E.h.boxes.length+1:=by simp[Env.newMap]
 have hnb:∀i,E.Live i->E.newMap.nb i=E.nb i:=λi hi=>Cu _ _ (by have:=hi.lt;omega);have CN:E.newMap.nb E.h.boxes.length=E.w.heap.size:=X5 _ _ _;refine⟨zt5z h.basele (by simp[Env.newMap]),λi cs' hi hh=>?_,λk f hk=>?_,λi j hi hj he=>?_,h.injf,λi k hi hk=>?_⟩
 .by_cases hn:i=E.h.boxes.length
  .subst hn;have:cs'=[.mbox [] []]:=by simpa[Env.newMap]using hi.symm
   subst this;exact⟨by rw[CN];exact h.basele,.inr (.inl ⟨[],[],#[],0,rfl,by rw[CN];exact Zx _ _,by simp[DV],by simp[i7]⟩)⟩
  .have BR:i<E.h.boxes.length:=by have:=(zf0z.1 hi).1;omega
   have Au:E.h.boxes[i]?=some cs':=by
    simp only[Env.newMap]at hi
    rwa [zf2z BR]at hi
   have hl:=EY Au hh;exact(h.boxes i cs' Au hh).ext hx hl (Below.heap_alloc _ _ _ (h.nb_lt hl).2)
 .have Ef:k<E.h.fams.length:=(zf0z.1 hk).1;exact(h.fams k f hk).ext hx rfl (Below.heap_alloc _ _ _ (h.im_lt Ef).2)
 .rcases Lc (E:=E) rfl hi with BR|rfl<;>rcases Lc (E:=E) rfl hj with hj' | rfl
  .rw[hnb i BR,hnb j hj']at he;exact h.inj i j BR hj' he
  .rw[hnb i BR,CN]at he;have:=(h.nb_lt BR).2;omega
  .rw[hnb j hj',CN]at he;have:=(h.nb_lt hj').2;omega
  .rfl
 .have Ef:k<E.h.fams.length:=hk;rcases Lc (E:=E) rfl hi with BR|rfl
  .rw[hnb i BR];exact h.sep i k BR Ef
  .rw[CN];have:=(h.im_lt Ef).2;simp only[Env.newMap];omega
theorem d_mkmap{t}(hS:SR E)(ho:o.op=.makeMap t none):Ji P a o E (.mp E.h.boxes.length) {E.h with boxes:=E.h.boxes++[[.mbox [] []]]}:=by
 refine⟨_,.map (some E.w.heap.size),E.newMap,?_,.inl rfl,aN hS,wg hS,rfl,?_⟩
 .simp[execOp,ho,Instr.makeMap,Env.newMap,Result.andThen]
 .simp only[VR];exact⟨EY (cs:=[.mbox [] []]) (by simp[Env.newMap]) rfl,by simp only[Env.newMap,X5]⟩
def Env.setMap(E:Env)(i:Nat)(es:Array MapEntry)(clk:Nat)(cs:List AV):Env :=
 {E with w:={E.w with heap:=E.w.heap.setIfInBounds (E.nb i) (.map es clk)},h:={E.h with boxes:=E.h.boxes.set i cs}}
theorem xZ{w B g}(x)(hg:B<=g):Below B w {w with heap:=w.heap.setIfInBounds g x} :=
 ⟨rfl,rfl,rfl,e_,λk hk=>by simp[zg1z (show g≠k by omega)]⟩
theorem Xa(w:World)(g k x)(h:k≠g):({w with heap:=w.heap.setIfInBounds g x}:World).heap[k]?=w.heap[k]?:=by
 simp[zg1z (Ne.symm h)]
theorem Ub(h:SR E){i}(hi:E.Live i){ks vs}(hold:E.h.boxes[i]?=some [.mbox ks vs])(es clk cs)(Au:CU cs=false):Ext E (E.setMap i es clk cs):=by
 have hb:=h.nb_lt hi;refine⟨λb o ho=>?_,by simp[Env.setMap],λ_ h=>⟨Va rfl Au h,rfl⟩,zf7z _,λk f f' hf hf'=>?_,rfl,rfl,⟨xZ _ hb.1,λ_=>zf7z _⟩⟩
 .have AS:b≠E.nb i:=by
   rcases ho with ⟨ho,_⟩|⟨_,_,h3,_⟩
   .omega
   .intro e;obtain⟨cs',hcs'⟩:=h3 i hi e.symm;rw[hold]at hcs';cases hcs'
  refine⟨?_,LB (Xa _ _ _ _ AS)⟩;rcases ho with ho|⟨h1,h2,h3,h4⟩
  .exact .inl ho
  .refine .inr ⟨h1,by simpa[Env.setMap]using h2,λj hj e=>?_,h4⟩;have hij:i≠j:=λe'=>AS (by rw[e'];exact e.symm);obtain⟨cs',hcs'⟩:=h3 j ((JN (E:=E) rfl hj).resolve_right (Ne.symm hij)) e;exact⟨cs',by simpa[Env.setMap,zf8z hij]using hcs'⟩
 .have:f=f':=by have:=hf.symm.trans hf';simpa using this
  subst this;exact⟨rfl,zf7z _,λ_=>rfl⟩
theorem aq{ks vs}{es:List MapEntry}{E w ok}(h1:DV w ok ks (es.map (·.key)))(h2:i7 E vs (es.map (·.val))):CU [.mbox ks vs]=false:=by
 unfold CU;split
 .rename_i e;cases e;have e1:=(Jl h1).1;have e2:=(EW h2).1;simp at e1 e2;rw[e2]at e1;simp at e1
 .rfl
theorem eU(h:SR E){i ks vs ks' vs'}(hl:E.Live i)(hi:E.h.boxes[i]?=some [.mbox ks vs]){es clk}(h1:DV E.w E.ok ks' (es.toList.map (·.key)))(h2:i7 E vs' (es.toList.map (·.val))) :
  SR (E.setMap i es clk [.mbox ks' vs']):=by
 have BR:=hl.lt;have hx:=Ub h hl hi es clk [.mbox ks' vs'] (aq h1 h2);have hb1:=(h.boxes i _ hi (hl.ne hi)).1;have C2:=h.nb_lt hl;have hun:∀a,(E.setMap i es clk [.mbox ks' vs']).Live a->E.Live a:=λa ha=>(JN (E:=E) rfl ha).elim id λe=>e ▸ hl;refine⟨by simpa[Env.setMap]using h.basele,λj cs' hj hh=>?_,λk f hk=>?_,λa b ha hb=>h.inj a b (hun a ha) (hun b hb),h.injf,λa k ha=>h.sep a k (hun a ha)⟩
 .by_cases hn:i=j
  .subst hn;have:cs'=[.mbox ks' vs']:=by simpa[Env.setMap,BR]using hj.symm
   subst this;exact⟨hb1,.inr (.inl ⟨ks',vs',es,clk,rfl,by simp[Env.setMap,C2.2],Dk hx.cells _ _ h1,EV hx _ _ h2⟩)⟩
  .have Au:E.h.boxes[j]?=some cs':=by simpa[Env.setMap,zf8z hn]using hj
   have hlj:=EY Au hh;exact(h.boxes j cs' Au hh).ext hx hlj (Xa _ _ _ _ (λe=>hn (h.inj _ _ hl hlj e.symm)))
 .have Ef:=(zf0z.1 hk).1;exact(h.fams k f hk).ext hx rfl (Xa _ _ _ _ (λe=>h.sep i k hl Ef e.symm))
theorem Xy{kt str}(h:Qq P kt=some str):(str=true/\P.underlying kt=some .string)\/(str=false/\∃k,P.underlying kt=some (.int k)):=by
 unfold Qq at h;split at h
 .rename_i hu;cases h;exact .inl ⟨rfl,hu⟩
 .rename_i k hu;cases h;exact .inr ⟨rfl,k,hu⟩
 .cases h
theorem JB{kt str}(h:Qq P kt=some str)(w v e n):(Instr.checkKey e (n+1) kt v).run P w=.ok () w:=by
 rcases Xy h with ⟨_,hu⟩|⟨_,k,hu⟩<;>(unfold Instr.checkKey;simp only[Sem.run_bind,run_underlying hu,Result.andThen];cases v<;>rfl)
theorem Xr{w ok str d}(hd:(str=true/\d=.string)\/(str=false/\∃k,d=.int k)){x y u v b}(hx:VR E x u)(hy:PV w ok y v)(h:jy str x y=some b) :
  Instr.sameNow d u v=some b/\(b=true->u=v):=by
 unfold jy at h;split at h
 .simp only[VR]at hx;simp only[PV]at hy;subst hx hy;split at h
  .rename_i hs;cases h;rcases hd with ⟨_,rfl⟩|⟨h1,_⟩
   .exact⟨rfl,λe=>by rw[(MapKept.bytes_beq _ _).1 e]⟩
   .rw[h1]at hs;cases hs
  .cases h
 .simp only[VR]at hx;simp only[PV]at hy;subst hx hy;split at h
  .rename_i hs;cases h;rcases hd with ⟨h1,_⟩|⟨_,k',rfl⟩
   .rw[h1]at hs;simp at hs
   .obtain⟨_,rfl⟩:=hs;exact⟨by simp[Instr.sameNow],λe=>by rw[eq_of_beq e]⟩
  .cases h
 .cases h
theorem La{w ok str d}(hd:(str=true/\d=.string)\/(str=false/\∃k,d=.int k)){x u}(hx:VR E x u):∀{ks:b9} {es:List MapEntry} {i:Nat} {r:Option Nat},
  DV w ok ks (es.map (·.key))->NU str x ks i=some r ->
  (r=none/\Instr.findNow d u es i=some none)\/∃j e,r=some (i+j)/\es[j]?=some e/\Instr.findNow d u es i=some (some (i+j,e.val))/\u=e.key
 | [],es,i,r,hp,h=>by
  simp only[NU]at h;cases h;cases es with
  |nil=>exact .inl ⟨rfl,rfl⟩
  |cons e es=>simp[DV]at hp
 |y::ks,[],i,r,hp,h=>by simp[DV]at hp
 |y::ks,e::es,i,r,hp,h=>by
  simp only[DV,zg3z]at hp;obtain⟨v,vs,he,h1,h2⟩:=hp;cases he;simp only[NU]at h;split at h
  .rename_i hq;cases h;obtain⟨g1,g2⟩:=Xr hd hx h1 hq;exact .inr ⟨0,e,rfl,rfl,by simp[Instr.findNow,g1],g2 rfl⟩
  .rename_i hq;obtain⟨g1,g2⟩:=Xr hd hx h1 hq;rcases La hd hx h2 h with ⟨k1,k2⟩|⟨j,e',k1,k2,k3,k4⟩
   .exact .inl ⟨k1,by simp[Instr.findNow,g1,k2]⟩
   .refine .inr ⟨j+1,e',by rw[k1];congr 1;omega,by simpa using k2,?_,k4⟩;simp only[Instr.findNow,g1,k3];rw[show i+1+j=i+(j+1) by omega]
  .cases h
theorem Xx{kt str}(h:Qq P kt=some str):∃d,P.underlying kt=some d/\((str=true/\d=.string)\/(str=false/\∃k,d=.int k)):=by
 rcases Xy h with ⟨h1,hu⟩|⟨h1,k,hu⟩
 .exact⟨_,hu,.inl ⟨h1,rfl⟩⟩
 .exact⟨_,hu,.inr ⟨h1,k,rfl⟩⟩
theorem cu(hS:SR E){x v ks vs}(hv:VR E x v)(h:Hz E.h x=some (ks,vs)) :
  ∃es,DV E.w E.ok ks (es.toList.map (·.key))/\i7 E vs (es.toList.map (·.val))/\((v=.map none/\es=#[])\/∃b clk,v=.map (some b)/\E.w.heap[b]?=some (.map es clk)):=by
 unfold Hz at h;split at h
 .cases h;simp only[VR,PV]at hv;obtain⟨b,es,clk,rfl,_,h1,h2,h3⟩:=hv;exact⟨es,h2,Kd _ _ h3,.inr ⟨b,clk,rfl,h1⟩⟩
 .split at h
  .rename_i ks' vs' hb;cases h;simp only[VR]at hv;obtain⟨hlv,rfl⟩:=hv;obtain⟨es,clk,h1,h2,h3⟩:=(hS.boxes _ _ hb (hlv.ne hb)).map;exact⟨es,h2,h3,.inr ⟨_,clk,rfl,h1⟩⟩
  .cases h
 .cases h;simp only[VR]at hv;subst hv;exact⟨#[],by simp[DV],by simp[i7],.inl ⟨rfl,rfl⟩⟩
 .cases h
theorem d_mlook{t kt et x k x' k' ok str z v h'}(hS:SR E)(hf:FR E fr a.tmps)(ho:o.op=.lookup t x k ok)(ht:P.underlying t=some (.map kt et))(hk:Qq P kt=some str)(hz:Program.zeroA P et=some z)
  (hx:C7 x=some x') (Qo:C7 k=some k') (E3:Js str ok z E.h (get fr x') (get fr k')=some (v,h')):Ji P a o E v h':=by
 unfold Js at E3;split at E3
 case isFalse=>cases E3
 split at E3
 case h_2=>cases E3
 rename_i ks vs hm;obtain⟨es,e1,e2,e3⟩:=cu hS (C8 hf hx) hm;have hkv:=C8 hf Qo;obtain⟨d,hd,hd'⟩:=Xx hk;obtain⟨i,zv,z1,z2,z3,z4,z5⟩:=Fn hz;have hzv:VR E z zv:=CR _ _ (EF z4);have pair:∀{y:AV} {u:Value} (b:Bool),VR E y u->VR E (if ok then .tup [y,.bool b]else y) (if ok then .tuple #[u,.bool b]else u):=by
  intro y u b hy;cases ok with
  |false=>exact hy
  |true =>
   simp only[if_true,VR];exact⟨_,rfl,by simp[i7,VR,hy]⟩
 have run:∀(r:Option (Nat×Value)),Instr.findNow d (a.eval k) es.toList 0=some r->∀(u:Value) (b:Bool),(match r with|some (_,v)=>u=v/\b=true|none=>u=zv/\b=false) ->
   (execOp a.eval o).run P E.w=.ok (.value (if ok then .tuple #[u,.bool b]else u)) E.w:=by
  intro r hr u b hu;rcases e3 with ⟨hm,rfl⟩|⟨bl,clk,hm,hb⟩
  .cases r with
   |some p=>simp[Instr.findNow]at hr
   |none =>
    obtain⟨rfl,rfl⟩:=hu;simp[execOp,ho,Instr.lookup,run_underlying ht,hm,JB hk,MapKept.run_findKey hd hr,zeroValue,typeInfo,z1,z2,Result.andThen]
  .cases r with
   |some p =>
    obtain⟨q,v⟩:=p;obtain⟨rfl,rfl⟩:=hu;simp[execOp,ho,Instr.lookup,run_underlying ht,hm,MapKept.run_getObj_map hb,JB hk,MapKept.run_findKey hd hr,Result.andThen]
   |none =>
    obtain⟨rfl,rfl⟩:=hu;simp[execOp,ho,Instr.lookup,run_underlying ht,hm,MapKept.run_getObj_map hb,JB hk,MapKept.run_findKey hd hr,zeroValue,typeInfo,z1,z2,Result.andThen]
 split at E3
 .rename_i j hj;split at E3
  .rename_i y hy;cases E3;rcases La hd' hkv e1 hj with ⟨h1,_⟩|⟨q,e,h1,h2,h3,_⟩
   .cases h1
   .have hq:j=q:=by simpa using h1
    subst hq;obtain⟨hl,hg⟩:=EW e2;obtain⟨u,hu,hpu⟩:=hg hy;have hue:u=e.val:=by
     rw[zf9z,h2]at hu;simpa using hu.symm
    subst hue;exact DT.does hS ⟨_,run _ h3 e.val true ⟨rfl,rfl⟩,pair true hpu⟩
  .cases E3
 .rename_i hj;cases E3;rcases La hd' hkv e1 hj with ⟨_,h2⟩|⟨q,e,h1,_⟩
  .exact DT.does hS ⟨_,run _ h2 zv false ⟨rfl,rfl⟩,pair false hzv⟩
  .cases h1
 .cases E3
theorem YR{α:Type}{x}:∀{l:List α} {j:Nat},l[j]?=some x->l.set j x=l
 | [],_,h=>by simp at h
 |y::l,0,h=>by simp at h;simp[h]
 |y::l,j+1,h=>by simp only[zg6z];rw[YR (l:=l) oE]
theorem yU{w ok cs us}(h:DV w ok cs us){c u}(hc:PV w ok c u):DV w ok (cs++[c]) (us++[u]):=by
 obtain⟨hl,hg⟩:=Jl h;refine ZN c_ λj x y hx hy=>?_;by_cases e:j<cs.length
 .rw[zf2z e]at hx;rw[zf2z a_]at hy;obtain⟨y',h1,h2⟩:=hg hx;rw[hy]at h1;cases h1;exact h2
 .rw[zf5z a_]at hx hy;rw[hl]at hy;have:j-cs.length=0:=by
   have:=(zf0z.1 hx).1;simp at this;omega
  rw[this]at hx hy;simp at hx hy;subst hx hy;exact hc
theorem A0L{x v str}(hv:VR E x v)(h:VY str x=true):PV E.w E.ok x v/\∀n,Instr.sameBits n v v=true:=by
 unfold VY at h;split at h
 .simp only[VR]at hv;subst hv;exact⟨by simp[PV],MapKept.sameBits_self (d:=.string) (by simp[MapKept.IsKey])⟩
 .rename_i k n;simp only[VR]at hv;subst hv;exact⟨by simp[PV],MapKept.sameBits_self (d:=.int k) (by simp[MapKept.IsKey])⟩
 .cases h
theorem VRs_set{E cs us}(h:i7 E cs us)(i){c u}(hc:VR E c u):i7 E (cs.set i c) (us.set i u):=by
 induction cs generalizing us i with
 |nil =>
  simp only[i7]at h;subst h;simp[i7]
 |cons x cs ih =>
  simp only[i7]at h;obtain⟨y,ys,rfl,h1,h2⟩:=h;cases i with
  |zero=>simp only[List.set_cons_zero,i7];exact⟨u,ys,rfl,hc,h2⟩
  |succ i=>simp only[zg6z,i7];exact⟨y,_,rfl,h1,ih h2 i⟩
theorem yZ{E cs us}(h:i7 E cs us){c u}(hc:VR E c u):i7 E (cs++[c]) (us++[u]):=by
 induction cs generalizing us with
 |nil =>
  simp only[i7]at h;subst h;simp only[List.nil_append,i7];exact⟨u,[],rfl,hc,rfl⟩
 |cons x cs ih =>
  simp only[i7]at h;obtain⟨y,ys,rfl,h1,h2⟩:=h;simp only[List.cons_append,i7];exact⟨y,_,rfl,h1,ih h2⟩
theorem pd(hS:SR E){x y v}(hv:VR E x v)(h:wd E.h x=some y):VR E y v:=by
 unfold wd at h;split at h
 .cases h;exact hv
 .exact CR _ _ (NF hS ⟨λ_ _ h=>h,λh=>by cases h⟩ hv h).1
theorem d_mup{t kt et m k x m' k' x' str v h'}(hS:SR E)(hf:FR E fr a.tmps)(ho:o.op=.mapUpdate t m k x\/o.op=.insert t m k x)(ht:P.underlying t=some (.map kt et))(hk:Qq P kt=some str)
  (hm:C7 m=some m') (Qo:C7 k=some k') (hx:C7 x=some x') (E3:cv str E.h (get fr m') (get fr k') (get fr x')=some (v,h')):Ji P a o E v h':=by
 unfold cv at E3;split at E3
 case h_2=>cases E3
 rename_i b hgm;split at E3
 case h_2=>cases E3
 rename_i ks vs u hb hu;split at E3
 case isFalse=>cases E3
 rename_i O9;have hmv:=C8 hf hm;rw[hgm]at hmv;simp only[VR]at hmv;obtain⟨C2,hme⟩:=hmv;obtain⟨es,clk,b1,b2,b3⟩:=(hS.boxes b _ hb (C2.ne hb)).map;have hkv:=C8 hf Qo;obtain⟨d,hd,hd'⟩:=Xx hk;obtain⟨hkp,hbits⟩:=A0L hkv O9.1;have hup:=pd hS (C8 hf hx) hu;have hex:(execOp a.eval o).run P E.w=((do Instr.mapUpdate t (a.eval m) (a.eval k) (a.eval x);pure Next.skip:Sem Next)).run P E.w:=by
  rcases ho with ho|ho<;>simp only[execOp,ho]
 split at E3
 .rename_i j hj;cases E3;rcases La hd' hkv b2 hj with ⟨h1,_⟩|⟨q,e,h1,h2,h3,h4⟩
  .cases h1
  .have hq:j=q:=by simpa using h1
   subst hq;have hj':es[j]?=some e:=by simpa using h2
   have hlist:(es.modify j λe=>{e with key:=a.eval k,val:=a.eval x}).toList=es.toList.set j {e with key:=a.eval k,val:=a.eval x}:=by
    apply zt0z;intro i;rw[zg0z,Array.getElem?_modify,zt1z];by_cases hij:j=i
    .subst hij;have hl:j<es.size:=by have:=(zf0z.1 h2).1;simpa using this
     have hje:es[j]'hl=e:=by rw[Array.getElem?_eq_getElem hl]at hj';exact Option.some.inj hj'
     simp[hj',hl,hje]
    .simp[hij]
   have HK:DV E.w E.ok ks ((es.modify j λe=>{e with key:=a.eval k,val:=a.eval x}).toList.map (·.key)):=by
    rw[hlist,zt4z];have:(es.toList.map (·.key)).set j (a.eval k)=es.toList.map (·.key):=YR (by rw[zf9z,h2,h4];rfl);rw[this];exact b2
   have HV:i7 E (vs.set j u) ((es.modify j λe=>{e with key:=a.eval k,val:=a.eval x}).toList.map (·.val)):=by
    rw[hlist,zt4z];exact VRs_set b3 j hup
   refine⟨.skip,undef,E.setMap b (es.modify j λe=>{e with key:=a.eval k,val:=a.eval x}) clk [.mbox ks (vs.set j u)],?_,.inr ⟨rfl,rfl⟩,Ub hS C2 hb _ _ _ (aq HK HV),eU hS C2 hb HK HV,rfl,by simp[Ig]⟩
   .rw[hex];simp[Instr.mapUpdate,run_underlying ht,hme,MapKept.run_getObj_map b1,JB hk,MapKept.run_findKey hd h3,hj',h4.symm,Instr.keyThatStays,hbits,MapKept.run_setObj_map _ b1,Result.andThen,Env.setMap]
 .rename_i hj;cases E3;rcases La hd' hkv b2 hj with ⟨_,h2⟩|⟨q,e,h1,_⟩
  .have HK:DV E.w E.ok (ks++[get fr k']) ((es.push {key:=a.eval k,val:=a.eval x,born:=clk}).toList.map (·.key)):=by
    simp only[zg9z,zt3z,zg3z,zg5z];exact yU b2 hkp
   have HV:i7 E (vs++[u]) ((es.push {key:=a.eval k,val:=a.eval x,born:=clk}).toList.map (·.val)):=by
    simp only[zg9z,zt3z,zg3z,zg5z];exact yZ b3 hup
   refine⟨.skip,undef,E.setMap b (es.push {key:=a.eval k,val:=a.eval x,born:=clk}) (clk+1) [.mbox (ks++[get fr k']) (vs++[u])],?_,.inr ⟨rfl,rfl⟩,Ub hS C2 hb _ _ _ (aq HK HV),eU hS C2 hb HK HV,rfl,by simp[Ig]⟩
   .rw[hex];simp[Instr.mapUpdate,run_underlying ht,hme,MapKept.run_getObj_map b1,JB hk,MapKept.run_findKey hd h2,MapKept.run_setObj_map _ b1,Result.andThen,Env.setMap]
  .cases h1
 .cases E3
def Env.setRo(E:Env)(i:Nat)(ys:List AV):Env:={E with h:={E.h with boxes:=E.h.boxes.set i [.rbox ys]}}
theorem eV(h:SR E){i}(hi:i<E.h.boxes.length)(ys):Ext E (E.setRo i ys):=by
 refine⟨λb o ho=>⟨?_,If.refl _ _ _⟩,by simp[Env.setRo],λ_ h=>⟨Va rfl rfl h,rfl⟩,zf7z _,λk f f' hf hf'=>?_,rfl,rfl,Bl.refl _ _⟩
 .rcases ho with ho|⟨h1,h2,h3,h4⟩
  .exact .inl ho
  .refine .inr ⟨h1,h2,λj hj e=>?_,h4⟩;by_cases hij:i=j
   .subst hij;exact⟨ys,by simp[Env.setRo,hi]⟩
   .obtain⟨cs',hcs'⟩:=h3 j ((JN (E:=E) rfl hj).resolve_right (Ne.symm hij)) e;exact⟨cs',by simpa[Env.setRo,zf8z hij]using hcs'⟩
 .have:f=f':=by have:=hf.symm.trans hf';simpa using this
  subst this;exact⟨rfl,zf7z _,λ_=>rfl⟩
theorem dn:∀{cs:b9} {us:List Value},i7 E cs us->cs.all AV.flat=true->DV E.w E.ok cs us
 | [],us,h,_=>by simpa[i7,DV]using h
 |c::cs,us,h,hf=>by
  simp only[i7]at h;obtain⟨u,us',rfl,h1,h2⟩:=h;simp only[List.all_cons,Bool.and_eq_true]at hf;simp only[DV];exact⟨u,us',rfl,VS h1 hf.1,dn h2 hf.2⟩
theorem A1U(h:SR E){i cs}(hi:E.h.boxes[i]?=some cs)(hmb:BE cs=false)(hf:cs.all AV.flat=true) :
  SR (E.setRo i cs)/\VR (E.setRo i cs) (.pv cs) (.pointer (some ⟨E.nb i,0,none⟩)):=by
 have hl:=EY hi (DC hmb);have BR:=hl.lt;have hx:=eV h BR cs;have hb1:=(h.boxes i _ hi (DC hmb)).1;have C2:=h.nb_lt hl;obtain⟨cur,t,hc,hv,h1⟩:=(h.boxes i _ hi (DC hmb)).row hmb;have hun:∀a,(E.setRo i cs).Live a->E.Live a:=λa ha=>(JN (E:=E) rfl ha).elim id λe=>e ▸ hl;have hp:=dn hv hf;have hp':=Dk hx.cells _ _ hp;refine⟨⟨h.basele,λj cs' hj hh=>?_,λk f hk=>?_,λa b ha hb=>h.inj a b (hun a ha) (hun b hb),h.injf,λa k ha=>h.sep a k (hun a ha)⟩,?_⟩
 .by_cases hn:i=j
  .subst hn;have:cs'=[.rbox cs]:=by simpa[Env.setRo,BR]using hj.symm
   subst this;exact⟨hb1,.inr (.inr (.inl ⟨cs,cur,t,rfl,hc,hp',h1⟩))⟩
  .have Au:E.h.boxes[j]?=some cs':=by simpa[Env.setRo,zf8z hn]using hj
   exact(h.boxes j cs' Au hh).ext hx (EY Au hh) rfl
 .have Ef:=(zf0z.1 hk).1;exact(h.fams k f hk).ext hx rfl rfl
 .simp only[VR,PV];refine⟨E.nb i,0,rfl,NB λj c hj=>?_⟩;obtain⟨_,hg⟩:=Jl hp';obtain⟨u,hu,hpu⟩:=hg hj;refine⟨u,.inr ⟨hb1,C2.2,λj' hj' e=>?_,λk f hk he=>?_⟩,?_,h1 u (List.mem_of_getElem? hu),hpu⟩
  .have:=h.inj j' i (hun j' hj') hl e;subst this;exact⟨cs,by simp[Env.setRo,BR]⟩
  .exact absurd he.symm (h.sep i k hl (zf0z.1 hk).1)
  .rw[Nat.zero_add];show E.w.cell? ⟨E.nb i,j,none⟩=some u;rw[cell_of_row _ _ _ _ _ _ hc];simpa using hu
theorem Qx:∀{xs:b9} {E:Env} {us:List Value} {ys:b9} {h':AH},SR E->i7 E xs us->Aw E.h xs=some (ys,h')->∃E',E'.w=E.w/\Ext E E'/\SR E'/\E'.h=h'/\i7 E' ys us
 | [],E,us,ys,h',hS,hv,h=>by
  simp only[Aw]at h;cases h;exact⟨E,rfl,Ext.refl E,hS,rfl,hv⟩
 |x::xs,E,us,ys,h',hS,hv,h=>by
  simp only[i7]at hv;obtain⟨u,us',rfl,h1,h2⟩:=hv;by_cases hp:∃b off,x=.ptr b off
  .obtain⟨b,off,rfl⟩:=hp;simp only[Aw]at h;split at h
   case isFalse=>cases h
   rename_i h0;subst h0;split at h
   case h_2=>cases h
   rename_i cs Au;split at h
   case isFalse=>cases h
   rename_i hc;simp only[zf4z]at h;obtain⟨⟨ys',h''⟩,hr,he⟩:=h;cases he;simp only[VR]at h1;obtain⟨hb,rfl⟩:=h1;obtain⟨hS1,hv1⟩:=A1U hS Au hc.1 hc.2;have hx1:=eV hS hb.lt cs;obtain⟨E',w',hx',hS',hh,Ki⟩:=Qx (E:=E.setRo b cs) hS1 (EV hx1 _ _ h2) hr;refine⟨E',w',hx1.trans hx',hS',hh,?_⟩;simp only[i7];exact⟨_,_,rfl,Wp hx' _ _ hv1,Ki⟩
  .have hr:Aw E.h (x::xs)=(Aw E.h xs).map λp=>(x::p.1,p.2):=by
    cases x<;>first|rfl|exact absurd ⟨_,_,rfl⟩ hp
   rw[hr]at h;simp only[zf4z]at h;obtain⟨⟨ys',h''⟩,hr,he⟩:=h;cases he;obtain⟨E',w',hx',hS',hh,Ki⟩:=Qx hS h2 hr;refine⟨E',w',hx',hS',hh,?_⟩;simp only[i7];exact⟨_,_,rfl,Wp hx' _ _ h1,Ki⟩
theorem zG{f first caps cs v h'}(hS:SR E)(hf:FR E fr a.tmps)(ho:o.op=.makeFunc (.func f) first caps)(h0:first.size=0)(hc:IW C7 caps.toList=some cs)
  (h:(Aw E.h (cs.map (get fr))).map (λp=>((.fn f p.1:AV),p.2))=some (v,h')):Ji P a o E v h':=by
 simp only[zf4z]at h;obtain⟨⟨ys,h''⟩,hr,he⟩:=h;cases he;have hv:=Qv hf hc;obtain⟨E',w',hx',hS',hh,Ki⟩:=Qx hS hv hr;have:=Array.size_eq_zero_iff.1 h0;subst this;refine⟨_,.func (.func f) #[] (caps.map a.eval),E',?_,.inl rfl,hx',hS',hh,?_⟩
 .rw[w'];simp[execOp,ho,Instr.makeFunc]
 .simp only[VR];exact⟨_,rfl,Ki⟩
theorem VK:∀{ys:b9} {ns:List Int},Rm ys=some ns->ns.length=ys.length/\∀(i:Nat) (n:Int),ns[i]?=some n->ys[i]?=some (.int .u8 n)
 | [],ns,h=>by simp[Rm]at h;subst h;simp
 |y::ys,ns,h=>by
  unfold Rm at h;split at h
  .rename_i e;cases e
  .rename_i n xs e;cases e;simp only[zf4z]at h;obtain⟨ns',h1,rfl⟩:=h;obtain⟨h2,h3⟩:=VK h1;refine⟨by simp[h2],λi m hi=>?_⟩;cases i with
   |zero=>simp at hi;subst hi;rfl
   |succ i=>simpa using h3 i m (by simpa using hi)
  .cases h
theorem q_bstr{s d e x x' v h'}(hS:SR E)(hf:FR E fr a.tmps)(ho:o.op=.convert s d x)(hs:P.underlying s=some (.slice e))(hd:P.underlying d=some .string)(he:P.underlying e=some (.int .u8))
  (hx:C7 x=some x') (E3:ZY E.h (get fr x')=some (v,h')):Ji P a o E v h':=by
 unfold ZY at E3;split at E3
 case h_2=>cases E3
 rename_i ys Uw;split at E3
 case h_2=>cases E3
 rename_i ns hns;cases E3;obtain⟨ad,c,e1,e2,e3⟩:=Rq hS a_ (C8 hf hx) Uw;obtain⟨g1,g2⟩:=VK hns;refine DT.does hS ⟨.string (A1g ns),?_,by simp[VR]⟩;have ex:(execOp a.eval o).run P E.w=(do let v ←convert s d (a.eval x);pure (Next.value v):Sem Next).run P E.w:=by simp[execOp,ho]
 rw[ex];have key:(convert s d (a.eval x)).run P E.w=.ok (.string (A1g ns)) E.w:=by
  rw[e1];cases ad with
  |none =>
   have:=zf1z (e2 rfl);subst this;have:ns=[]:=zf1z g1;subst this;exact run_convert_bytes_nil E.w s e hs he _ _ d hd
  |some ad =>
   by_cases hy:ys=[]
   .subst hy;have:=zf1z g1;subst this;rw[run_convert_bytes_string E.w s d e _ _ _ hs he hd];simp[Conv.bytesToString,loadCells,Result.andThen];rfl
   .obtain⟨b,q,h1,h2⟩:=e3 hy;cases h1;refine run_convert_bytes_arg E.w s e hs he b q ys.length c ns g1 (λi hi=>?_) d hd;have jO:ns[i]?=some (ns.getD i 0):=by rw[List.getD,List.getElem?_eq_getElem a_];rfl
    have hyi:=g2 i _ jO;obtain⟨_,h4⟩:=h2 i _ hyi;obtain⟨u,h5,_,h6⟩:=h4 0 _ rfl;simp only[VR,PV]at h6;subst h6;simpa using h5
 simp[key,Result.andThen]
end
end Go.Abs
