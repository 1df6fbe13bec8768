/- A part of the proof. -/
import Derived.Test.YtohjdamplbhdpaaGreatDoorSO1
set_option linter.all false
open List renaming getElem?_eq_some_iff->A0Q,getElem?_drop->A0S,getElem?_take->A0T,getElem?_append_right->A0V,getElem?_append_left->A0W,mem_of_getElem?->A0X,mem_of_mem_drop->A0c,mem_of_mem_take->A0d,getElem?_set_ne->A0g,mem_append->A0j,getElem?_set_self->A0k,getElem?_of_mem->A0o,getD->A0q,append_assoc->A0u,length_cons->A0w,replicate->A0z,map_cons->A00,drop->A03,take->A04
open Option renaming map_eq_some_iff->A0R,bind_eq_some_iff->A0f,getD_some->A0i,getD_none->A0x,map_some->A0y
open Nat renaming mul_le_mul_right->A0U,le_refl->A0a,succ_mul->A0e,add_mul->A0l,add_zero->A0r,lt_or_gt_of_ne->A0s,zero_add->A0t,add_assoc->A01,lt_or_ge->A02
open Array renaming length_toList->A0Y,size_eq_zero_iff->A0Z,getElem?_toList->A0b,getElem?_range->A0m,toList_extract->A0n,getElem?_map->A0p,toList_map->A0v
open Bool renaming false_eq_true->A0h
namespace Go.Abs
open Go.RowKit (Below)
structure FR (E:Env) (fr:Fr) (tmps:Array Value):Prop where
 len:fr.length=tmps.size
 val:∀t:Nat,VR E (fr.getD t C5) (tmps.getD t undef)
theorem FO (E:Env):VR E C5 undef:=by simp[C5,undef,VR,Be]
theorem FR.ext {E E':Env} (h:Ext E E') {fr:Fr} {tmps:Array Value} (hf:FR E fr tmps):FR E' fr tmps:=⟨hf.len,λt=>ay h _ _ (hf.val t)⟩
theorem FR.put {E:Env} {fr:Fr} {a:Act} (hf:FR E fr a.tmps) (dst:Option Nat) {v:AV} {u:Value} (hv:VR E v u):FR E (put fr dst v) (a.put dst u).tmps:=by
 cases dst with
 |none=>exact hf
 |some d =>
  refine⟨by simp[Abs.put,Act.put,hf.len],λt=>?_⟩;simp only[Abs.put,Act.put];by_cases hd:d<fr.length
  .by_cases ht:d=t
   .subst ht;have hd':d<a.tmps.size:=by rw[←hf.len];exact hd
    simpa[A0q,Array.getD,hd,hd']using hv
   .have:=hf.val t;simpa[A0q,A0g ht,Array.getElem?_setIfInBounds_ne ht]using this
  .have:=hf.val t;have hd':¬d<a.tmps.size:=by rw[←hf.len];exact hd
   have e1:fr.set d v=fr:=List.set_eq_of_length_le (by omega);have e2:a.tmps.setIfInBounds d u=a.tmps:=Array.setIfInBounds_eq_of_size_le (by omega);rw[e1,e2];exact this
theorem SV {α β:Type} {f:α->Option β}:∀{l:List α} {r:List β},KZ f l=some r->r.length=l.length/\∀(j:Nat) (x:α),l[j]?=some x->∃y,f x=some y/\r[j]?=some y
 | [],r,h=>by simp[KZ]at h;subst h;simp
 |a::l,r,h=>by
  simp only[KZ]at h;split at h
  .rename_i y ys h1 h2;cases h;obtain⟨hl,hg⟩:=SV h2;refine⟨by simp[hl],λj x hx=>?_⟩;cases j with
   |zero=>simp at hx;subst hx;exact⟨y,h1,rfl⟩
   |succ j=>simpa using hg j x (by simpa using hx)
  .cases h
theorem Mp {w:World} {ok:Nat->Nat->Prop}:∀{v:Value} {x:AV},RB v=some x->PV w ok x v/\v.oneCell'=true:=by
 intro v x h;unfold RB at h;split at h
 case h_1=>cases h;exact⟨by simp[PV],rfl⟩
 case h_2=>cases h;exact⟨by simp[PV],rfl⟩
 case h_3=>cases h;exact⟨by simp[PV],rfl⟩
 case h_4=>cases h;exact⟨by simp only[PV];exact⟨none,0,0,rfl,rfl,by omega,by omega,λ_=>rfl,⟨λ_=>rfl,by simp⟩,λh=>absurd rfl h⟩,rfl⟩
 case h_5=>cases h;exact⟨by simp[PV],rfl⟩
 case h_6=>cases h;exact⟨by simp[PV],rfl⟩
 case h_7=>cases h;exact⟨by simp[PV],rfl⟩
 case h_9=>cases h
 case h_8 f a b =>
  split at h
  .rename_i hs;cases h;have ha:a=#[]:=A0Z.1 hs.1;have hb:b=#[]:=A0Z.1 hs.2;subst ha;subst hb;exact⟨by simp[PV,Dg],rfl⟩
  .cases h
theorem Fn {w:World} {ok:Nat->Nat->Prop} {v:Value} {x:AV} (h:SN v=some x):PV w ok x v:=by
 unfold SN at h;split at h
 .rename_i cs;cases hm:KZ RB cs.toList with
  |none=>simp[hm]at h
  |some ys =>
   simp[hm]at h;subst h;obtain⟨hl,hg⟩:=SV hm;simp only[PV];refine⟨cs,rfl,λu hu=>?_,Up hl.symm λj c u hc hu=>?_⟩
   .obtain⟨j,hj⟩:=A0o hu;obtain⟨y,hy,_⟩:=hg j u hj;exact(Mp (w:=w) (ok:=ok) hy).2
   .obtain⟨y,hy,hy'⟩:=hg j u hu;have:c=y:=by rw[hc]at hy';simpa using hy'
    subst this;exact(Mp hy).1
 .rename_i vs;split at h
  .rename_i hs;cases h;have:vs=#[]:=A0Z.1 hs;subst this;simp[PV,Dg]
  .cases h
 .exact(Mp h).1
section
variable {E:Env}
theorem D8 {fr:Fr} {a:Act} (hf:FR E fr a.tmps) {x:Operand} {y:Opd} (h:D7 x=some y):VR E (get fr y) (a.eval x):=by
 cases x with
 |tmp t=>simp[D7]at h;subst h;exact hf.val t
 |const v =>
  simp only[D7]at h;cases hc:SN v with
  |none=>simp[hc]at h
  |some av=>simp[hc]at h;subst h;exact FN _ _ (Fn hc)
 |global g=>simp[D7]at h
 |func f=>simp[D7]at h;subst h;simp[get,Act.eval,VR,Be]
theorem QB {fr:Fr} {a:Act} (hf:FR E fr a.tmps) {xs:Array Operand} {ys:List Opd} (h:KZ D7 xs.toList=some ys):Be E (ys.map (get fr)) (xs.map a.eval).toList:=by
 obtain⟨hl,hg⟩:=SV h;refine Ut (by simpa using hl.symm) λj c u hc hu=>?_;simp only[A0v,List.getElem?_map]at hc hu;cases hx:xs.toList[j]? with
 |none=>simp[hx]at hu
 |some x =>
  obtain⟨y,hy,hy'⟩:=hg j x hx;simp[hx]at hu;simp[hy']at hc;subst hu;subst hc;exact D8 hf hy
theorem xC {x:AV} {v:Value} (h:VR E x v) (ht:x.isTup=false) (ha:∀cs,x≠.agg cs):v.oneCell'=true/\v.cells=#[v]:=by
 cases x<;>simp only[VR,PV]at h
 case agg cs=>exact absurd rfl (ha cs)
 case tup=>simp[AV.isTup]at ht
 case junk=>refine⟨h,?_⟩;cases v<;>simp_all [Value.oneCell',Value.cells]
 case vs=>obtain⟨a,len,cap,rfl,_⟩:=h;exact⟨rfl,rfl⟩
 case sl=>obtain⟨a,cap,f,rfl,_⟩:=h;exact⟨rfl,rfl⟩
 case pv=>obtain⟨b,o,rfl,_⟩:=h;exact⟨rfl,rfl⟩
 case ep=>obtain⟨b,o,f,rfl,_⟩:=h;exact⟨rfl,rfl⟩
 case ptr=>obtain⟨_,rfl⟩:=h;exact⟨rfl,rfl⟩
 case mp=>obtain⟨_,rfl⟩:=h;exact⟨rfl,rfl⟩
 case vm=>obtain⟨b,es,clk,rfl,_⟩:=h;exact⟨rfl,rfl⟩
 case fn=>obtain⟨us,rfl,_⟩:=h;exact⟨rfl,rfl⟩
 all_goals (subst h;exact⟨rfl,rfl⟩)
theorem Qv {x:AV} {v:Value} (h:VR E x v) (ht:x.isTup=false):Be E x.cells v.cells.toList/\∀u∈v.cells.toList,u.oneCell'=true:=by
 by_cases ha:∃cs,x=.agg cs
 .obtain⟨cs,rfl⟩:=ha;simp only[VR]at h;obtain⟨us,rfl,h1,h2⟩:=h;exact⟨h2,h1⟩
 .have ha':∀cs,x≠.agg cs:=λcs e=>ha ⟨cs,e⟩;obtain⟨h1,h2⟩:=xC h ht ha';have hc:x.cells=[x]:=by cases x<;>first|rfl|exact absurd rfl (ha' _)
  rw[hc,h2];exact⟨by simp[Be,h],by simpa using h1⟩
theorem Cz {i n sz c:Nat} (hi:i<n) (hc:c<sz):i*sz+c<n*sz:=by
 have:(i+1)*sz<=n*sz:=A0U _ hi;rw[A0e]at this;omega
theorem sl_PV (hS:SR E) {k n off len:Nat} {v:Value} {f:Fam} (hv:VR E (.sl k n off len) v) (hf:E.h.fams[k]?=some f) (hn:f.xs.length=n) (ho:off+len<=n)
  {ok':Nat->Nat->Prop} (Bf:∀b o,E.ok b o->ok' b o) (hown:f.wr=true->∀b o,E.base<=b->b<E.w.heap.size->ok' b o) :
  PV E.w ok' (.vs false f.sz ((f.xs.drop off).take len)) v:=by
 simp only[VR]at hv;obtain⟨a,cap,f',rfl,hf',PL,hc⟩:=hv;have:f'=f:=by rw[hf]at hf';simpa using hf'.symm
 subst this;obtain⟨h1,h2,h3,h4,h5⟩:=hc hn;have hF:=hS.fams k f' hf;have hk:=(A0Q.1 hf).1;have hb:=hS.im_lt hk;have BF:=hF.room;have hcap:=hF.cap;have B8:((f'.xs.drop off).take len).length=len:=by simp;omega
 simp only[PV];refine⟨a,len,cap,rfl,B8.symm,by omega,by omega,by simp,⟨λe=>absurd e h4,⟨λe=>absurd e h4,λe=>absurd hF.sz (by omega)⟩⟩,λP0=>?_⟩;have M2:0<len:=by
  rcases Nat.eq_zero_or_pos len with h0|h0
  .subst h0;simp at P0
  .exact h0
 refine⟨_,_,h5 (by omega),hF.sz,WP λj x hx=>?_⟩;have hj:j<len:=by have:=(A0Q.1 hx).1;omega
 have hx':f'.xs[off+j]?=some x:=by
  rw[A0T,if_pos hj,A0S]at hx;exact hx
 obtain⟨cur,t,c1,c2,c3⟩:=hF.cells;obtain⟨e1,e2⟩:=c3 (off+j) x (by omega) hx';have epos:(E.im k).o+(off+j-(E.im k).lo)*f'.sz=(E.im k).o+(off-(E.im k).lo)*f'.sz+j*f'.sz:=by
  rw[show off+j-(E.im k).lo=(off-(E.im k).lo)+j from by omega,A0l];omega
 refine⟨e1,PC λc y hy=>?_⟩;obtain⟨u,u1,u2,u3⟩:=e2 c y hy;have Lq:c<f'.sz:=by have:=(A0Q.1 hy).1;omega
 rw[epos]at u1;refine⟨u,?_,?_,u2,Dq (λb o h=>⟨Bf b o h,KG.refl _ _ _⟩) _ _ u3⟩
 .cases hw:f'.wr with
  |true=>exact hown hw _ _ hb.1 hb.2
  |false =>
   refine Bf _ _ (.inr ⟨hb.1,hb.2,λi hi e=>absurd e (hS.sep i k hi hk),λk' g Dt he=>?_⟩);have hk'':=(A0Q.1 Dt).1;have:=hS.injf k' k hk'' hk he;subst this;have:g=f':=by rw[hf]at Dt;simpa using Dt.symm
   subst this;refine⟨hw,?_⟩;rw[←epos,A01];exact Nat.add_lt_add_left (Cz (by omega) Lq) _
 .rw[cell_of_row _ _ _ _ _ _ c1];exact u1
theorem WU {x:AV} {v:Value} (h:VR E x v) (hf:x.flat=true):PV E.w E.ok x v:=by
 cases x<;>simp only[VR]at h<;>first|exact h|(simp[AV.flat]at hf;done)|skip
 all_goals simp only[PV]
 all_goals first
  |exact h
  |skip
 case fn f caps =>
  obtain⟨us,rfl,hu⟩:=h;have hc:caps=[]:=by simpa[AV.flat]using hf
  subst hc;refine⟨us,rfl,?_⟩;simpa[Be,Dg]using hu
def qN (E:Env) (am:Bool) (ok':Nat->Nat->Prop):Prop:=(∀b o,E.ok b o->ok' b o)/\(am=true->∀b o,E.base<=b->b<E.w.heap.size->ok' b o)
theorem XF (hS:SR E) {am:Bool} {ok':Nat->Nat->Prop} (Bf:qN E am ok') {x y:AV} {v:Value} (hv:VR E x v) (h:Ej E.h am x=some y):PV E.w ok' y v/\(v.oneCell'=true->True)/\y.isTup=false:=by
 have up:∀{z:AV} {u:Value},PV E.w E.ok z u->PV E.w ok' z u:=λhz=>Dq (λb o h=>⟨Bf.1 b o h,KG.refl _ _ _⟩) _ _ hz;cases x<;>simp only[Ej]at h
 case sl k n off len =>
  split at h
  .rename_i f hf;split at h
   .rename_i hc;cases h;refine⟨sl_PV hS hv hf hc.1 hc.2.1 Bf.1 (λhw=>Bf.2 ?_),λ_=>trivial,rfl⟩;have:=hc.2.2;simpa[hw]using this
   .cases h
  .cases h
 case ep=>cases h
 case ptr=>cases h
 case agg=>cases h
 case tup=>cases h
 case mbox=>cases h
 case rbox=>cases h
 case mp b =>
  split at h
  .rename_i ks vs hb;split at h
   .rename_i ham;cases h;simp only[VR]at hv;obtain⟨A7,rfl⟩:=hv;obtain⟨es,clk,h1,h2,h3⟩:=(hS.boxes b _ hb).map;have t6:=hS.nb_lt A7;refine⟨?_,λ_=>trivial,rfl⟩;simp only[PV];exact⟨E.nb b,es,clk,rfl,Bf.2 ham _ _ t6.1 t6.2,h1,d6 (λb o h=>⟨Bf.1 b o h,KG.refl _ _ _⟩) _ _ h2,d6 (λb o h=>⟨Bf.1 b o h,KG.refl _ _ _⟩) _ _ h3⟩
   .cases h
  .cases h
 case fn f caps =>
  split at h
  .rename_i hc;cases h;refine⟨?_,λ_=>trivial,rfl⟩;simp only[VR]at hv;obtain⟨us,rfl,hu⟩:=hv;obtain⟨hl,hg⟩:=IW hu;simp only[PV];refine⟨us,rfl,Up hl λj c u hc' hu'=>?_⟩;obtain⟨u',h1,h2⟩:=hg hc';have:u'=u:=by rw[hu']at h1;simpa using h1.symm
   subst this;exact up (WU h2 ((List.all_eq_true.1 hc) c (A0X hc')))
  .cases h
 all_goals (cases h;exact⟨up (WU hv rfl),λ_=>trivial,rfl⟩)
theorem XG (hS:SR E) {am:Bool} {ok':Nat->Nat->Prop} (Bf:qN E am ok'):∀{xs ys:G3} {us:List Value},Be E xs us->TV E.h am xs=some ys->Dg E.w ok' ys us
 | [],ys,us,hv,h=>by simp[TV]at h;subst h;simpa[Be,Dg]using hv
 |x::xs,ys,us,hv,h=>by
  simp only[TV,A0f,A0R]at h;obtain⟨y,hy,ys',WZ,rfl⟩:=h;simp only[Be]at hv;obtain⟨u,us',rfl,h1,h2⟩:=hv;simp only[Dg];exact⟨u,us',rfl,(XF hS Bf h1 hy).1,XG hS Bf h2 WZ⟩
theorem Mh (hS:SR E) {am:Bool} {ok':Nat->Nat->Prop} (Bf:qN E am ok') {x y:AV} {v:Value} (hv:VR E x v) (h:KH E.h am x=some y):PV E.w ok' y v/\y.isTup=false:=by
 unfold KH at h;split at h
 .rename_i cs;simp only[A0R]at h;obtain⟨ys,WZ,rfl⟩:=h;simp only[VR]at hv;obtain⟨us,rfl,h1,h2⟩:=hv;simp only[PV];exact⟨⟨us,rfl,h1,XG hS Bf h2 WZ⟩,rfl⟩
 .have:=XF hS Bf hv h;exact⟨this.1,this.2.2⟩
theorem MR (hS:SR E) {am:Bool} {ok':Nat->Nat->Prop} (Bf:qN E am ok'):∀{xs ys:G3} {us:List Value},Be E xs us->Bj E.h am xs=some ys->Dg E.w ok' ys us
 | [],ys,us,hv,h=>by simp[Bj]at h;subst h;simpa[Be,Dg]using hv
 |x::xs,ys,us,hv,h=>by
  simp only[Bj,A0f,A0R]at h;obtain⟨y,hy,ys',WZ,rfl⟩:=h;simp only[Be]at hv;obtain⟨u,us',rfl,h1,h2⟩:=hv;simp only[Dg];exact⟨u,us',rfl,(Mh hS Bf h1 hy).1,MR hS Bf h2 WZ⟩
theorem bQ (hS:SR E) {ok':Nat->Nat->Prop} (Bf:qN E true ok') {x y:AV} {v:Value} (hv:VR E x v) (h:DX E.h x=some y):PV E.w ok' y v:=by
 unfold DX at h;split at h
 .rename_i vs;simp only[A0R]at h;obtain⟨ys,WZ,rfl⟩:=h;simp only[VR]at hv;obtain⟨us,rfl,h2⟩:=hv;simp only[PV];exact⟨us,rfl,MR hS Bf h2 WZ⟩
 .exact(Mh hS Bf hv h).1
def Pd (E:Env) (b o:Nat) (cs:List AV):Prop :=
 ∀(j:Nat) (c:AV),cs[j]?=some c->∃u,E.w.cell? ⟨b,o+j,none⟩=some u/\u.oneCell'=true/\VR E c u
theorem Pd.drop {b o n:Nat} {cs:G3} (h:Pd E b o cs):Pd E b (o+n) (cs.drop n):=by
 intro j c hc;rw[A0S]at hc;have:=h (n+j) c hc
 rwa [show o+(n+j)=o+n+j from by omega]at this
theorem Um {b o:Nat} {cs:G3} (h:Hf E.w E.ok b o cs):Pd E b o cs:=by
 intro j c hc;obtain⟨u,_,h2,h3,h4⟩:=KT h hc;exact⟨u,h2,h3,FN _ _ h4⟩
theorem Vm (hS:SR E) {agg:Bool} {n:Nat} {x r:AV} {v:Value} (hv:VR E x v) (h:JT E.h agg n x=some r) :
  ∃b o cs,v=.pointer (some ⟨b,o,none⟩)/\Pd E b o cs/\AJ agg n cs=some r:=by
 cases x<;>simp only[JT]at h<;>try (cases h;done)
 case pv cs =>
  simp only[VR,PV]at hv;obtain⟨b,o,rfl,hc⟩:=hv;exact⟨b,o,cs,rfl,Um hc,h⟩
 case ptr b off =>
  split at h
  .rename_i cs Lq;simp only[VR]at hv;obtain⟨_,rfl⟩:=hv;by_cases hmb1:Es cs=true
   .rw[if_pos hmb1]at h;unfold vz at h;split at h
    .rename_i ys;obtain⟨_,hb⟩:=hS.boxes b _ Lq;rcases hb with ⟨cur,t,h2,h3,h4⟩|⟨ks,vs,es,clk,e,_⟩|⟨ys',cur,t,e,h2,h3,h4⟩
     .exfalso
      simp only[Be,VR,false_and,and_false,exists_false]at h3
     .cases e
     .cases e;refine⟨E.nb b,0+off,ys.drop off,by simp,Pd.drop ?_,h⟩;obtain⟨hl,hg⟩:=JL h3;intro j c hc;obtain⟨u,h5,h6⟩:=hg hc;refine⟨u,?_,h4 u (A0X h5),FN _ _ h6⟩;rw[A0t,cell_of_row _ _ _ _ _ _ h2];simpa using h5
    .cases h
   have hmb:Es cs=false:=by simpa using hmb1
   rw[hmb,if_neg (by simp)]at h;obtain⟨cur,t,h2,h3,h4⟩:=(hS.boxes b cs Lq).row hmb;refine⟨E.nb b,0+off,cs.drop off,by simp,Pd.drop ?_,h⟩;obtain⟨hl,hg⟩:=IW h3;intro j c hc;obtain⟨u,h5,h6⟩:=hg hc;refine⟨u,?_,h4 u (A0X h5),h6⟩;rw[A0t,cell_of_row _ _ _ _ _ _ h2];simpa using h5
  .cases h
 case ep k m i c sz =>
  split at h
  .rename_i f hf;split at h
   .rename_i hm;split at h
    .rename_i y hy;simp only[VR]at hv;obtain⟨b,o,f',rfl,hf',_,hc⟩:=hv;have:f'=f:=by rw[hf]at hf';simpa using hf'.symm
     subst this;obtain⟨TY,hbo⟩:=hc hm;rw[hbo];obtain⟨cur,t,c1,c2,c3⟩:=(hS.fams k f' hf).cells;obtain⟨e1,e2⟩:=c3 i y TY hy;refine⟨_,_,y.cells.drop c,rfl,Pd.drop ?_,h⟩;intro j z hz;obtain⟨u,u1,u2,u3⟩:=e2 j z hz;exact⟨u,by rw[cell_of_row _ _ _ _ _ _ c1];exact u1,u2,FN _ _ u3⟩
    .cases h
   .cases h
  .cases h
theorem FP (b o j:Nat):(⟨b,o,none⟩:Addr).add j=⟨b,o+j,none⟩:=by unfold Addr.add;split<;>simp_all
theorem Rj {P:Program} {t:TypeId} {agg:Bool} {n b o:Nat} {cs:G3} {r:AV} (hc:Pd E b o cs) (h:AJ agg n cs=some r)
  (ha:Program.agg? P t=some agg) (hn:Program.size? P t=some n):∃v,(loadVar t ⟨b,o,none⟩).run P E.w=.ok v E.w/\VR E r v:=by
 have hisAgg:(isAgg t).run P E.w=.ok agg E.w:=by
  unfold Program.agg? at ha;unfold isAgg underlying;split at ha<;>simp_all
 have Zl:(sizeOf t).run P E.w=.ok n E.w:=by
  unfold Program.size? at hn;unfold sizeOf typeInfo;simp only[A0R]at hn;obtain⟨i,hi,rfl⟩:=hn;simp[hi]
 cases agg with
 |true =>
  simp only[AJ]at h;split at h
  .rename_i PL;cases h;have hex:∀j,j<n->∃u,E.w.cell? ⟨b,o+j,none⟩=some u/\u.oneCell'=true/\VR E (cs.getD j default) u:=by
    intro j hj;have hj':cs[j]?=some (cs.getD j default):=by simp[A0q,List.getElem?_eq_getElem (show j<cs.length by omega)]
    exact hc j _ hj'
   have hpick:∃g:Nat->Value,∀j,j<n->E.w.cell? ⟨b,o+j,none⟩=some (g j)/\(g j).oneCell'=true/\VR E (cs.getD j default) (g j):=by
    refine⟨λj=>if hj:j<n then Classical.choose (hex j hj)else default,λj hj=>?_⟩
    simp only[hj,dif_pos];exact Classical.choose_spec (hex j hj)
   obtain⟨g,hg⟩:=hpick;have hl:=run_loadCells (P:=P) E.w ⟨b,o,none⟩ n g (λj hj=>by rw[FP];exact(hg j hj).1);refine⟨.agg (List.map g (List.range n)).toArray,?_,?_⟩
   .unfold loadVar;simp only[Sem.run_bind,hisAgg,Result.andThen_ok,if_true,Zl,hl,Sem.run_pure]
   .simp only[VR];refine⟨_,rfl,λu hu=>?_,Ut (by simp;omega) λj c u hc' hu=>?_⟩
    .simp at hu;obtain⟨j,hj,rfl⟩:=hu;exact(hg j hj).2.1
    .have hj:j<n:=by have:=(A0Q.1 hc').1;simp at this;omega
     rw[A0T,if_pos hj]at hc';have e1:u=g j:=by simpa[hj]using hu.symm
     have e2:cs.getD j default=c:=by simp[A0q,hc']
     rw[e1,←e2];exact(hg j hj).2.2
  .cases h
 |false =>
  simp only[AJ]at h;have h0:cs[0]?=some r:=by rw[←h];cases cs<;>rfl
  obtain⟨u,h1,_,h3⟩:=hc 0 r h0;refine⟨u,?_,h3⟩;unfold loadVar;simp only[Sem.run_bind,hisAgg,Result.andThen_ok,A0h,if_false];simp at h1;simp[h1]
end
section
variable {E:Env} {P:Program} {fr:Fr} {a:Act}
def Dh (P:Program) (a:Act) (o:Oper) (E:Env) (v:AV):Prop:=∃u,(execOp a.eval o).run P E.w=.ok (.value u) E.w/\VR E v u
theorem Lm (k:IntKind) (n:Int):VR E (.int k n) (.int k n):=by simp[VR]
theorem Tt (b:Bool):VR E (.bool b) (.bool b):=by simp[VR]
theorem iC (b:J2):VR E (.str b) (.string b):=by simp[VR]
theorem dx (op:BinOp) (t:TypeId) (x y:Operand) (k k':IntKind) (i j:Int) (w:World):(eqGuard op t x y (.int k i) (.int k' j)).run P w=.ok () w:=by
 unfold eqGuard;cases op<;>simp
theorem dy (op:BinOp) (t:TypeId) (x y:Operand) (i j:J2) (w:World):(eqGuard op t x y (.string i) (.string j)).run P w=.ok () w:=by
 unfold eqGuard;cases op<;>simp
theorem bJ (op:BinOp) (t:TypeId) (x y:Operand) (i j:Bool) (w:World):(eqGuard op t x y (.bool i) (.bool j)).run P w=.ok () w:=by
 unfold eqGuard;cases op<;>simp
theorem Yj {op:BinOp} {t:TypeId} {k k':IntKind} {i j:Int} {v:AV} (w:World) (h:G5 op (.int k i) (.int k' j)=some v) :
  ∃u,(binOp op t (.int k i) (.int k' j)).run P w=.ok u w/\VR E v u:=by
 cases op<;>simp only[G5]at h<;>try (cases h;done)
 case quo =>
  split at h
  .rename_i hk;cases h;obtain⟨rfl,hj⟩:=hk;refine⟨_,?_,Lm _ _⟩;simp[binOp,Op.intDiv,hj]
  .cases h
 case rem =>
  split at h
  .rename_i hk;cases h;obtain⟨rfl,hj⟩:=hk;refine⟨_,?_,Lm _ _⟩;simp[binOp,Op.intDiv,hj]
  .cases h
 case shl =>
  split at h
  .rename_i hk;cases h;refine⟨_,?_,Lm _ _⟩;simp[binOp,Op.shift,show ¬j<0 from by omega]
  .cases h
 case shr =>
  split at h
  .rename_i hk;cases h;refine⟨_,?_,Lm _ _⟩;simp[binOp,Op.shift,show ¬j<0 from by omega]
  .cases h
 all_goals
  split at h
  .rename_i hk;cases h;subst hk;first|(refine⟨_,?_,Lm _ _⟩;simp[binOp,Op.intArith,Op.intBits];done)|(refine⟨_,?_,Tt _⟩;simp[binOp,Op.intCmp];done)
  .cases h
theorem Yk {op:BinOp} {t:TypeId} {i j:J2} {v:AV} (w:World) (h:G5 op (.str i) (.str j)=some v) :
  ∃u,(binOp op t (.string i) (.string j)).run P w=.ok u w/\VR E v u:=by
 cases op<;>simp only[G5]at h<;>try (cases h;done)
 case add =>
  split at h
  .cases h
  .rename_i hk;cases h;refine⟨_,?_,iC _⟩;simp only[binOp,Op.stringOp,hk,if_false,Sem.run_pure]
 all_goals (cases h;refine⟨_,?_,Tt _⟩;simp[binOp,Op.stringOp])
theorem mL {op:BinOp} {t:TypeId} {x y:AV} {v:AV} {xv yv:Value} (hx:VR E x xv) (hy:VR E y yv) (px py:Operand) (w:World) (h:G5 op x y=some v) :
  ∃u,(do eqGuard op t px py xv yv;binOp op t xv yv:Sem Value).run P w=.ok u w/\VR E v u:=by
 cases x<;>cases y<;>try (simp[G5]at h;done)
 .simp only[VR]at hx hy;subst hx;subst hy;obtain⟨u,h1,h2⟩:=Yj (E:=E) (P:=P) (t:=t) w h;exact⟨u,by simp[dx,h1],h2⟩
 .simp only[VR]at hx hy;subst hx;subst hy;obtain⟨u,h1,h2⟩:=Yk (E:=E) (P:=P) (t:=t) w h;exact⟨u,by simp[dy,h1],h2⟩
theorem N9 {t:TypeId} {d:TypeDesc} (h:P.underlying t=some d) (w:World):(underlying t).run P w=.ok d w:=by unfold underlying;simp[h]
theorem IK {t:TypeId} {n:Nat} (h:Program.size? P t=some n) (w:World):(sizeOf t).run P w=.ok n w:=by
 unfold Program.size? at h;simp only[A0R]at h;obtain⟨i,hi,rfl⟩:=h;unfold sizeOf typeInfo;simp[hi]
theorem bM {t:TypeId} (ht:P.underlying t=some .bool) (d:Nat) (i j:Bool) (w:World):(Op.equalIn (d+1) t (.bool i) (.bool j)).run P w=.ok (i == j) w:=by
 simp[Op.equalIn,N9 ht]
theorem mJ {neg:Bool} {t:TypeId} {i j:Bool} (ht:P.underlying t=some .bool) (px py:Operand) (w:World) :
  (do eqGuard (if neg then .neq else .eql) t px py (.bool i) (.bool j);binOp (if neg then .neq else .eql) t (.bool i) (.bool j):Sem Value).run P w=.ok (.bool (if neg then !(i == j)else i == j)) w:=by
 have h:(Op.equal t (.bool i) (.bool j)).run P w=.ok (i == j) w:=bM ht 9999 i j w;cases neg<;>simp only[if_true,if_false,A0h,Sem.run_bind,bJ,Result.andThen_ok,binOp,h,Sem.run_pure]
theorem dz {t e:TypeId} {ad:Option Addr} {len cap:Nat} (ht:P.underlying t=some (.slice e)) (d:Nat) (w:World):(Op.equalIn (d+1) t (.slice ad len cap) (.slice none 0 0)).run P w=.ok ad.isNone w:=by
 cases ad<;>simp[Op.equalIn,N9 ht]
theorem fE {neg:Bool} {t e:TypeId} {ad:Option Addr} {len cap:Nat} (ht:P.underlying t=some (.slice e)) (px py:Operand) (w:World) :
  (do eqGuard (if neg then .neq else .eql) t px py (.slice ad len cap) (.slice none 0 0);binOp (if neg then .neq else .eql) t (.slice ad len cap) (.slice none 0 0):Sem Value).run P w=.ok (.bool (if neg then !ad.isNone else ad.isNone)) w:=by
 have h:(Op.equal t (.slice ad len cap) (.slice none 0 0)).run P w=.ok ad.isNone w:=dz ht 9999 w;have g:(eqGuard (if neg then .neq else .eql) t px py (.slice ad len cap) (.slice none 0 0)).run P w=.ok () w:=by
  unfold eqGuard;cases neg<;>simp
 cases neg<;>simp only[if_true,if_false,A0h,Sem.run_bind,binOp,Sem.run_pure]at g⊢<;>simp only[g,Result.andThen_ok,h]
theorem W0 (hf:FR E fr a.tmps) {x:Option Operand} {y:Option Opd} (hr:Ij x=some y) {r:Option Int} (h:L6 fr y=some r) :
  (r=none/\x.map a.eval=none)\/∃k i,r=some i/\x.map a.eval=some (.int k i):=by
 cases x with
 |none=>simp[Ij]at hr;subst hr;simp[L6]at h;subst h;exact .inl ⟨rfl,rfl⟩
 |some x =>
  simp only[Ij,A0R]at hr;obtain⟨z,hz,rfl⟩:=hr;have hv:=D8 hf hz;simp only[L6]at h;split at h
  .rename_i k i hg;cases h;rw[hg]at hv;simp only[VR]at hv;exact .inr ⟨k,i,rfl,by simp[hv]⟩
  .cases h
theorem j9 {k:IntKind} {i:Int} {y:Nat} {code:Go.BoundsCode} (w:World) (h0:0<=i) (h1:i<=y):(Instr.sliceBound (.int k i) y code).run P w=.ok i.toNat w:=by
 unfold Instr.sliceBound;simp[asIntOf,h0,h1]
theorem Kj {b:Bool} {len cap:Nat} {lo hi:Option Value} {l h:Option Int} (w:World) (hl:(l=none/\lo=none)\/∃k i,l=some i/\lo=some (.int k i)) (hh:(h=none/\hi=none)\/∃k i,h=some i/\hi=some (.int k i))
  (h0:0<=l.getD 0) (h1:l.getD 0<=h.getD len) (h2:h.getD len<=len) (hc:len<=cap) :
  (Instr.sliceBounds b len cap lo hi none).run P w=.ok ((l.getD 0).toNat,(h.getD len).toNat,cap) w:=by
 unfold Instr.sliceBounds;rcases hl with ⟨rfl,rfl⟩|⟨k,i,rfl,rfl⟩<;>rcases hh with ⟨rfl,rfl⟩|⟨k',j,rfl,rfl⟩<;>simp only[A0x,A0i]at h0 h1 h2 ⊢
 .simp
 .cases b<;>simp[j9 w (show (0:Int)<=j by omega) (show j<=(cap:Int) by omega)]
 .simp[j9 w h0 (show i<=(len:Int) by omega)]
 .have e:i<=((j.toNat:Nat):Int):=by omega
  cases b<;>simp[j9 w (show (0:Int)<=j by omega) (show j<=(cap:Int) by omega),j9 w h0 e]
theorem PZ {b:Bool} {len cap:Nat} {lo hi mx:Option Value} {l h:Option Int} {m:Int} (w:World) (hl:(l=none/\lo=none)\/∃k i,l=some i/\lo=some (.int k i)) (hh:(h=none/\hi=none)\/∃k i,h=some i/\hi=some (.int k i))
  (hm:∃k,mx=some (.int k m)) (hs:h.isSome=true)
  (h0:0<=l.getD 0) (h1:l.getD 0<=h.getD len) (h2:h.getD len<=m) (hc:m<=cap) :
  (Instr.sliceBounds b len cap lo hi mx).run P w=.ok ((l.getD 0).toNat,(h.getD len).toNat,m.toNat) w:=by
 unfold Instr.sliceBounds;obtain⟨km,rfl⟩:=hm;rcases hh with ⟨rfl,rfl⟩|⟨k',j,rfl,rfl⟩
 .simp at hs
 simp only[A0i]at h1 h2 ⊢;have em:j<=((m.toNat:Nat):Int):=by omega
 rcases hl with ⟨rfl,rfl⟩|⟨k,i,rfl,rfl⟩<;>simp only[A0x,A0i]at h0 h1 ⊢
 .cases b<;>simp[j9 w (show (0:Int)<=m by omega) hc,j9 w (show (0:Int)<=j by omega) em]
 .have e:i<=((j.toNat:Nat):Int):=by omega
  cases b<;>simp[j9 w (show (0:Int)<=m by omega) hc,j9 w (show (0:Int)<=j by omega) em,j9 w h0 e]
end
section
variable {E:Env} {P:Program} {fr:Fr} {a:Act} {o:Oper}
theorem wd {x:Operand} {y:Opd} (hf:FR E fr a.tmps) (ho:o.op=.move x\/o.op=.assign x) (hx:D7 x=some y):Dh P a o E (get fr y):=by
 refine⟨a.eval x,?_,D8 hf hx⟩;rcases ho with ho|ho<;>simp[execOp,ho]
theorem yR {c x y:Operand} {c' x' y':Opd} {t:Bool} (hf:FR E fr a.tmps) (ho:o.op=.pick c x y) (hc:D7 c=some c') (hx:D7 x=some x') (hy:D7 y=some y') (hg:get fr c'=.bool t) :
  Dh P a o E (if t then get fr x' else get fr y'):=by
 have h:=D8 hf hc;rw[hg]at h;simp only[VR]at h;refine⟨if t then a.eval x else a.eval y,?_,?_⟩
 .cases t<;>simp[execOp,ho,h,asBool]
 .cases t
  .exact D8 hf hy
  .exact D8 hf hx
theorem q_ld {t:TypeId} {x:Operand} {x':Opd} {b:Bool} {n:Nat} {v:AV} (hS:SR E) (hf:FR E fr a.tmps) (ho:o.op=.load t x) (hb:Program.agg? P t=some b) (hn:Program.size? P t=some n) (hx:D7 x=some x')
  (h:JT E.h b n (get fr x')=some v):Dh P a o E v:=by
 obtain⟨bl,of,cs,e1,e2,e3⟩:=Vm hS (D8 hf hx) h;obtain⟨u,h1,h2⟩:=Rj (P:=P) e2 e3 hb hn;exact⟨u,by simp[execOp,ho,Instr.loadAt,Instr.sureAddr,e1,h1],h2⟩
theorem vv {x:Operand} {x':Opd} {v:AV} (hf:FR E fr a.tmps) (ho:o.op=.nilCheck x) (hx:D7 x=some x')
  (h:(match get fr x' with | .pv cs=>some (AV.pv cs,E.h) | .ptr b o=>some (.ptr b o,E.h) | .ep k n i q s=>some (.ep k n i q s,E.h) | .fn f cs=>some (.fn f cs,E.h)|_=>none)=some (v,E.h)):Dh P a o E v:=by
 have hv:=D8 hf hx;refine⟨a.eval x,?_,?_⟩
 .split at h
  .rename_i hg;rw[hg]at hv;simp only[VR,PV]at hv;obtain⟨b,o',e,_⟩:=hv;simp[execOp,ho,e]
  .rename_i hg;rw[hg]at hv;simp only[VR]at hv;obtain⟨_,e⟩:=hv;simp[execOp,ho,e]
  .rename_i hg;rw[hg]at hv;simp only[VR]at hv;obtain⟨a',o',f,e,_⟩:=hv;simp[execOp,ho,e]
  .rename_i hg;rw[hg]at hv;simp only[VR]at hv;obtain⟨us,e,_⟩:=hv;simp[execOp,ho,e]
  .cases h
 .split at h<;>first|(cases h;done)|(rename_i hg;rw[hg]at hv;simp at h;rw[←h];exact hv)
theorem q_bin {op:BinOp} {t t':TypeId} {x y:Operand} {x' y':Opd} {v:AV} (hf:FR E fr a.tmps) (ho:o.op=.binOp op t x y t') (hx:D7 x=some x') (hy:D7 y=some y')
  (h:G5 op (get fr x') (get fr y')=some v):Dh P a o E v:=by
 obtain⟨u,h1,h2⟩:=mL (P:=P) (t:=t) (D8 hf hx) (D8 hf hy) x y E.w h;refine⟨u,?_,h2⟩;simp only[execOp,ho,Sem.run_bind]at h1 ⊢;rw[h1];rfl
theorem wc {neg:Bool} {t t':TypeId} {x y:Operand} {x' y':Opd} {i j:Bool} (hf:FR E fr a.tmps) (ho:o.op=.binOp (if neg then .neq else .eql) t x y t') (ht:P.underlying t=some .bool) (hx:D7 x=some x') (hy:D7 y=some y')
  (hi:get fr x'=.bool i) (hj:get fr y'=.bool j):Dh P a o E (.bool (if neg then !(i == j)else i == j)):=by
 have e1:=D8 hf hx;have e2:=D8 hf hy;rw[hi]at e1;rw[hj]at e2;simp only[VR]at e1 e2;refine⟨_,?_,Tt _⟩;have h:=mJ (neg:=neg) (i:=i) (j:=j) ht x y E.w;simp only[execOp,ho,Sem.run_bind,e1,e2]at h ⊢;rw[h];rfl
theorem lY {neg:Bool} {t e t':TypeId} {x y:Operand} {x':Opd} {full:Bool} {z:Nat} {xs:G3} (hf:FR E fr a.tmps) (ho:o.op=.binOp (if neg then .neq else .eql) t x y t') (ht:P.underlying t=some (.slice e)) (hx:D7 x=some x') (hy:D7 y=some (.c (.vs true 0 [])))
  (hi:get fr x'=.vs full z xs):Dh P a o E (.bool (if neg then !(z == 0)else z == 0)):=by
 have e1:=D8 hf hx;have e2:=D8 hf hy;rw[hi]at e1;simp only[get,VR,PV]at e1 e2;obtain⟨ad,len,cap,e3,e4,e5,e6,e7,e8,e9⟩:=e1;obtain⟨ad',len',cap',k3,k4,k5,k6,k7,k8,k9⟩:=e2;obtain rfl:ad'=none:=k8.2.2 trivial;obtain rfl:len'=0:=k4;obtain rfl:cap'=0:=k8.1 rfl;refine⟨_,?_,Tt _⟩;have h:=fE (neg:=neg) (ad:=ad) (len:=len) (cap:=cap) ht x y E.w;have hz:ad.isNone=(z == 0):=by
  cases ad with
  |none=>simp[e8.2.1 rfl]
  |some a =>
        have:z≠0:=λhz=>by have:=e8.2.2 hz;cases this
        simp[this]
 rw[hz]at h;simp only[execOp,ho,Sem.run_bind,e3,k3]at h ⊢;rw[h];rfl
theorem q_un {op:UnOp} {t:TypeId} {x:Operand} {x':Opd} {v:AV} (hf:FR E fr a.tmps) (ho:o.op=.unOp op t x) (hx:D7 x=some x') (h:TR op (get fr x')=some v):Dh P a o E v:=by
 have hv:=D8 hf hx;generalize get fr x'=y at h hv;cases y<;>cases op<;>simp only[TR]at h<;>cases h
 .simp only[VR]at hv;refine⟨_,?_,Tt _⟩;simp only[execOp,ho,hv,Op.unary,Sem.run_bind,Sem.run_pure,Result.andThen_ok]
 .simp only[VR]at hv;refine⟨_,?_,Lm _ _⟩;simp only[execOp,ho,hv,Op.unary,Op.intArith,Sem.run_bind,Sem.run_pure,Result.andThen_ok]
theorem yP {s d:TypeId} {k k0:IntKind} {x:Operand} {x':Opd} {q:IntKind} {n:Int} (hf:FR E fr a.tmps) (ho:o.op=.convert s d x) (hs:P.underlying s=some (.int k0)) (hd:P.underlying d=some (.int k)) (hx:D7 x=some x')
  (hg:get fr x'=.int q n):Dh P a o E (.int k (k.wrap n)):=by
 have hv:=D8 hf hx;rw[hg]at hv;simp only[VR]at hv;exact⟨_,by simp[execOp,ho,convert,N9 hs,N9 hd,hv,Conv.intToInt],Lm _ _⟩
theorem yQ {s d:TypeId} {x:Operand} {x':Opd} {n:J2} (hf:FR E fr a.tmps) (ho:o.op=.convert s d x) (hs:P.underlying s=some .string) (hd:P.underlying d=some .string) (hx:D7 x=some x')
  (hg:get fr x'=.str n):Dh P a o E (.str n):=by
 have hv:=D8 hf hx;rw[hg]at hv;simp only[VR]at hv;exact⟨_,by simp[execOp,ho,convert,N9 hs,N9 hd,hv],iC _⟩
theorem yO {f:FuncId} {first caps:Array Operand} {cs:List Opd} (hf:FR E fr a.tmps) (ho:o.op=.makeFunc (.func f) first caps) (h0:first.size=0) (hc:KZ D7 caps.toList=some cs) :
  Dh P a o E (.fn f (cs.map (get fr))):=by
 have:first=#[]:=A0Z.1 h0
 subst this;refine⟨.func (.func f) #[] (caps.map a.eval),by simp[execOp,ho,Instr.makeFunc],?_⟩;simp only[VR];exact⟨_,rfl,QB hf hc⟩
theorem vt {s:TypeId} {x:Operand} {x':Opd} {i n:Nat} {fs:Array Field} {f:Field} {v:AV} (hf:FR E fr a.tmps) (ho:o.op=.fieldAddr s x i) (hs:P.underlying s=some (.struct fs)) (hi:fs[i]?=some f)
  (hn:Program.size? P f.type=some n) (M2:0<n) (hx:D7 x=some x')
  (h:(match get fr x' with | .pv cs=>some (AV.pv (cs.drop f.offset),E.h) | .ptr b o=>some (.ptr b (o+f.offset),E.h) | .ep k n i q s=>some (.ep k n i (q+f.offset) s,E.h)|_=>none)=some (v,E.h)):Dh P a o E v:=by
 have hv:=D8 hf hx;have hp:∀b q,(fieldPlace ⟨b,q,none⟩ f).run P E.w=.ok ⟨b,q+f.offset,none⟩ E.w:=by
  intro b q;unfold fieldPlace;simp[IK hn,show ¬n=0 from by omega,FP]
 split at h
 .rename_i cs hg;rw[hg]at hv;simp only[VR,PV]at hv;obtain⟨b,q,e,hc⟩:=hv;simp at h;subst h;refine⟨.pointer (some ⟨b,q+f.offset,none⟩),by simp[execOp,ho,Instr.fieldAt,N9 hs,hi,e,Instr.sureAddr,hp],?_⟩;simp only[VR,PV];refine⟨b,q+f.offset,rfl,PC λj c hc'=>?_⟩;rw[A0S]at hc';have:=KT hc hc'
  rwa [show q+(f.offset+j)=q+f.offset+j from by omega]at this
 .rename_i b q hg;rw[hg]at hv;simp only[VR]at hv;obtain⟨hb,e⟩:=hv;simp at h;subst h;exact⟨.pointer (some ⟨E.nb b,q+f.offset,none⟩),by simp[execOp,ho,Instr.fieldAt,N9 hs,hi,e,Instr.sureAddr,hp],by simp only[VR];exact⟨hb,trivial⟩⟩
 .rename_i k m j q sz hg;rw[hg]at hv;simp only[VR]at hv;obtain⟨b,q',g,e,hg1,hg2,hg3⟩:=hv;simp at h;subst h;refine⟨.pointer (some ⟨b,q'+f.offset,none⟩),by simp[execOp,ho,Instr.fieldAt,N9 hs,hi,e,Instr.sureAddr,hp],?_⟩;simp only[VR];refine⟨b,_,g,rfl,hg1,hg2,λhm=>?_⟩;obtain⟨h1,h2⟩:=hg3 hm;simp only[Addr.mk.injEq]at h2 ⊢;exact⟨h1,h2.1,by omega,trivial⟩
 .cases h
theorem lg {t:TypeId} {b:Bool} (ha:Program.agg? P t=some b) (w:World):(isAgg t).run P w=.ok b w:=by
 unfold Program.agg? at ha;unfold isAgg underlying;split at ha<;>simp_all
theorem uQ {cs:G3} {us:Array Value} {off n:Nat} (h:Be E cs us.toList) (h1:∀u∈us.toList,u.oneCell'=true) {b:Bool} {v:AV} (hv:AJ b n (cs.drop off)=some v) :
  (b=true->VR E v (.agg (us.extract off (off+n))))/\(b=false->∃u,us[off]?=some u/\VR E v u):=by
 obtain⟨hl,hg⟩:=IW h;cases b with
 |true =>
  refine⟨λ_=>?_,λh=>by cases h⟩;simp only[AJ]at hv;split at hv
  .rename_i PL;cases hv;simp only[VR];have B8:us.size=cs.length:=by simpa using hl
   simp at PL;refine⟨_,rfl,λu hu=>h1 u ?_,Ut (by simp;omega) λj c u hc hu=>?_⟩
   .rw[A0n]at hu;exact A0c (A0d hu)
   .have hj:j<n:=by have:=(A0Q.1 hc).1;simp at this;omega
    rw[A0T,if_pos hj,A0S]at hc;obtain⟨u',h2,h3⟩:=hg hc;have:u=u':=by
     have h4:us.toList[off+j]?=some u:=by
      simp only[A0n,List.extract_eq_take_drop,A0T,A0S]at hu;split at hu
      .exact hu
      .cases hu
     rw[h4]at h2;simpa using h2
    subst this;exact h3
  .cases hv
 |false =>
  refine⟨λh=>by (cases h),λ_=>?_⟩;simp only[AJ]at hv;have h0:cs[off]?=some v:=by rw[←hv,List.head?_drop]
  obtain⟨u,h2,h3⟩:=hg h0;exact⟨u,by simpa using h2,h3⟩
theorem q_fld {s:TypeId} {x:Operand} {x':Opd} {i n:Nat} {fs:Array Field} {f:Field} {b:Bool} {cs:G3} {v:AV} (hf:FR E fr a.tmps) (ho:o.op=.field s x i) (hs:P.underlying s=some (.struct fs)) (hi:fs[i]?=some f)
  (hb:Program.agg? P f.type=some b) (hn:Program.size? P f.type=some n) (hx:D7 x=some x') (hg:get fr x'=.agg cs) (h:AJ b n (cs.drop f.offset)=some v):Dh P a o E v:=by
 have hv:=D8 hf hx;rw[hg]at hv;simp only[VR]at hv;obtain⟨us,e,h1,h2⟩:=hv;obtain⟨t1,t2⟩:=uQ h2 h1 h;cases b with
 |true=>exact⟨_,by simp[execOp,ho,Instr.field,N9 hs,hi,e,asAgg,part,lg hb,IK hn],t1 rfl⟩
 |false =>
  obtain⟨u,h3,h4⟩:=t2 rfl;exact⟨u,by simp[execOp,ho,Instr.field,N9 hs,hi,e,asAgg,part,lg hb,h3],h4⟩
theorem vu {t e:TypeId} {x i:Operand} {x' i':Opd} {n:Nat} {v:AV} (hS:SR E) (hf:FR E fr a.tmps) (ho:o.op=.indexAddr t x i) (ht:P.underlying t=some (.slice e)) (hn:Program.size? P e=some n)
  (hx:D7 x=some x') (hi:D7 i=some i')
  (h:(match get fr x',get fr i' with
   | .vs _ z xs,.int _ j=>if 0<=j/\z=n then (match xs[j.toNat]? with|some e=>some (AV.pv e.cells,E.h)|none=>none)else none
   | .sl k m off len,.int _ j=>if 0<=j/\j<len then some (.ep k m (off+j.toNat) 0 n,E.h)else none
   |_,_=>none)=some (v,E.h)):Dh P a o E v:=by
 have hv:=D8 hf hx;have hw:=D8 hf hi;split at h
 .rename_i full z xs q j hg hj;rw[hg]at hv;rw[hj]at hw;simp only[VR,PV]at hv hw;split at h
  .rename_i hc;split at h
   .rename_i el Ul;obtain⟨ad,len,cap,e1,e2,e3,e4,e5,e6,e7⟩:=hv;have A7:=(A0Q.1 Ul).1;obtain⟨b,q',rfl,_,hels⟩:=e7 (by intro hn;subst hn;simp at A7);have hp:=Qr hels Ul;simp at h;subst h;have hjl:j<(len:Int):=by omega
    refine⟨.pointer (some ⟨b,q'+j.toNat*n,none⟩),?_,?_⟩
    .simp[execOp,ho,Instr.indexAt,hw,asIntOf,N9 ht,e1,hc.1,hjl,IK hn,FP]
    .simp only[VR,PV];rw[hc.2]at hp;exact⟨b,_,rfl,hp.2⟩
   .cases h
  .cases h
 .rename_i k m off len q j hg hj;rw[hg]at hv;rw[hj]at hw;simp only[VR]at hv hw;split at h
  .rename_i hc;obtain⟨hj0,hjl⟩:=hc;obtain⟨ad,cap,f',e1,e2,⟨e3,e5⟩,e4⟩:=hv;obtain⟨b,q',rfl⟩:=e5 (by omega);simp at h;subst h;refine⟨.pointer (some ⟨b,q'+j.toNat*n,none⟩),?_,?_⟩
   .simp[execOp,ho,Instr.indexAt,hw,asIntOf,N9 ht,e1,hj0,hjl,IK hn,FP]
   .simp only[VR];refine⟨_,_,f',rfl,e2,e3,λhm=>?_⟩;obtain⟨l1,l2,l3,l4,l5⟩:=e4 hm.1;have hF:=hS.fams k f' e2;have BF:=hF.room;have ead:=l5 (by omega);simp only[Option.some.injEq,Addr.mk.injEq]at ead;obtain⟨rfl,rfl,_⟩:=ead;refine⟨by omega,?_⟩;rw[←hm.2,A0r,show off+j.toNat-(E.im k).lo=(off-(E.im k).lo)+j.toNat from by omega,A0l,←A01]
  .cases h
 .cases h
theorem q_idx {t:TypeId} {x i:Operand} {x' i':Opd} {s:J2} {q:IntKind} {j:Int} {b:UInt8} (hf:FR E fr a.tmps) (ho:o.op=.index t x i) (ht:P.underlying t=some .string) (hx:D7 x=some x') (hi:D7 i=some i')
  (hg:get fr x'=.str s) (hj:get fr i'=.int q j) (h0:0<=j) (hb:s[j.toNat]?=some b):Dh P a o E (.int .u8 b.toNat):=by
 have hv:=D8 hf hx;have hw:=D8 hf hi;rw[hg]at hv;rw[hj]at hw;simp only[VR]at hv hw;exact⟨_,by simp[execOp,ho,Instr.index,hw,hv,asIntOf,N9 ht,h0,hb],Lm _ _⟩
theorem q_ext {x:Operand} {x':Opd} {i:Nat} {vs:G3} {v:AV} (hf:FR E fr a.tmps) (ho:o.op=.extract x i) (hx:D7 x=some x') (hg:get fr x'=.tup vs) (h:vs[i]?=some v):Dh P a o E v:=by
 have hv:=D8 hf hx;rw[hg]at hv;simp only[VR]at hv;obtain⟨us,e,h2⟩:=hv;obtain⟨u,h3,h4⟩:=(IW h2).2 h;have h3':us[i]?=some u:=by simpa using h3
 exact⟨u,by simp[execOp,ho,Instr.extract,e,h3'],h4⟩
end
section
variable {E:Env} {P:Program} {fr:Fr} {a:Act} {o:Oper}
theorem WS {α:Type} {aas:Array α} {x:α} (h:aas.toList=[x]):aas=#[x]:=by cases aas;simp_all
theorem bB {α:Type} {aas:Array α} {x y:α} (h:aas.toList=[x,y]):aas=#[x,y]:=by cases aas;simp_all
theorem pd {args:Array Operand} {ats:Array TypeId} {x:Operand} {t:TypeId} {x':Opd} {s:J2} (hf:FR E fr a.tmps) (ho:o.op=.call {callee:=.builtin .len,args:=args,argTypes:=ats}) (h1:args.toList=[x]) (h2:ats.toList=[t])
  (hts:P.underlying t=some .string) (hx:D7 x=some x') (hs:get fr x'=.str s):Dh P a o E (.int .i64 s.size):=by
 have hv:=D8 hf hx;rw[WS h1,WS h2]at ho;rw[hs]at hv;simp only[VR]at hv;exact⟨_,by simp[execOp,ho,resolve,invoke,builtin,Builtin.len_,hv,N9 hts,goInt],Lm _ _⟩
theorem q_len {args:Array Operand} {ats:Array TypeId} {x:Operand} {t e:TypeId} {x':Opd} {v:AV} (hf:FR E fr a.tmps) (ho:o.op=.call {callee:=.builtin .len,args:=args,argTypes:=ats}) (h1:args.toList=[x]) (h2:ats.toList=[t])
  (hts:P.underlying t=some (.slice e)) (hx:D7 x=some x')
  (h:(match get fr x' with | .vs _ _ xs=>some (AV.int .i64 xs.length,E.h) | .sl _ _ _ len=>some (.int .i64 len,E.h)|_=>none)=some (v,E.h)):Dh P a o E v:=by
 have hv:=D8 hf hx;rw[WS h1,WS h2]at ho;split at h
 .rename_i full z xs hg;rw[hg]at hv;simp only[VR,PV]at hv;obtain⟨ad,len,cap,e1,rfl,_⟩:=hv;simp at h;subst h;exact⟨_,by simp[execOp,ho,resolve,invoke,builtin,Builtin.len_,e1,N9 hts,goInt],Lm _ _⟩
 .rename_i k n off len hg;rw[hg]at hv;simp only[VR]at hv;obtain⟨ad,cap,f,e1,_⟩:=hv;simp at h;subst h;exact⟨_,by simp[execOp,ho,resolve,invoke,builtin,Builtin.len_,e1,N9 hts,goInt],Lm _ _⟩
 .cases h
theorem q_max {args:Array Operand} {ats:Array TypeId} {x y:Operand} {x' y':Opd} {k k':IntKind} {i j:Int} (hf:FR E fr a.tmps) (ho:o.op=.call {callee:=.builtin .max,args:=args,argTypes:=ats}) (h1:args.toList=[x,y])
  (hx:D7 x=some x') (hy:D7 y=some y') (hi:get fr x'=.int k i) (hj:get fr y'=.int k' j):Dh P a o E (.int k (if j > i then j else i)):=by
 have e1:=D8 hf hx;have e2:=D8 hf hy;rw[hi]at e1;rw[hj]at e2;simp only[VR]at e1 e2;rw[bB h1]at ho;exact⟨_,by simp[execOp,ho,resolve,invoke,builtin,Builtin.max_,Builtin.max2,e1,e2],Lm _ _⟩
theorem qO {w:World} {ok:Nat->Nat->Prop} {sz b o:Nat} {xs:G3} (h:Sl w ok sz b o xs) (l n:Nat):Sl w ok sz b (o+l*sz) ((xs.drop l).take n):=by
 refine WP λj x hx=>?_;have hj:(xs.drop l)[j]?=some x:=by
  rw[A0T]at hx;split at hx
  .exact hx
  .cases hx
 rw[A0S]at hj;have:=Qr h hj
 rwa [show o+(l+j)*sz=o+l*sz+j*sz from by rw[A0l];omega]at this
theorem tz {w:World} {ok:Nat->Nat->Prop} {full full':Bool} {z sz:Nat} {xs:G3} {ad:Option Addr} {len cap l h m:Nat} (hv:PV w ok (.vs full z xs) (.slice ad len cap)) (hz:z=sz\/xs.length=0)
  (h1:l<=h) (h2:h<=len) (h3:h<=m) (h4:m<=cap) (hfull:full'=true->m=h) :
  PV w ok (.vs full' z ((xs.drop l).take (h-l))) (.slice (if m=l then ad else ad.map (·.add (l*sz))) (h-l) (m-l)):=by
 simp only[PV]at hv ⊢;obtain⟨ad',len',cap',e,e2,e3,e4,e5,e6,e7⟩:=hv;obtain⟨rfl,rfl,rfl⟩:ad=ad'/\len=len'/\cap=cap':=by simpa using e
 refine⟨_,_,_,rfl,by simp;omega,by omega,by omega,λhf=>by rw[hfull hf],?_,λP0=>?_⟩
 .have yy:(if m=l then ad else ad.map (·.add (l*sz)))=none↔ad=none:=by split<;>simp
  refine⟨λhn=>?_,yy.trans e6.2⟩;have:=e6.1 (yy.1 hn);omega
 .have A7:l<h:=by
   rcases A02 l h with h' | h'
   .exact h'
   .exact absurd (by simp[show h-l=0 from by omega]) P0
  have yz:xs≠[]:=by intro hn;subst hn;simp at e2;omega
  obtain⟨b,q,rfl,hp,hels⟩:=e7 yz;rw[if_neg (by omega)];have XL:z=sz:=by
   rcases hz with hz|hz
   .exact hz
   .exact absurd (List.eq_nil_of_length_eq_zero hz) yz
  subst XL;exact⟨b,q+l*z,by simp[FP],hp,qO hels l (h-l)⟩
theorem pe {t:TypeId} {x:Operand} {lo hi:Option Operand} {x':Opd} {lo' Cw:Option Opd} {s:J2} {l u:Option Int} (hf:FR E fr a.tmps) (ho:o.op=.slice t x lo hi none) (ht:P.underlying t=some .string)
  (hx:D7 x=some x') (TY:Ij lo=some lo') (Zk:Ij hi=some Cw) (hg:get fr x'=.str s) (hl:L6 fr lo'=some l) (hu:L6 fr Cw=some u)
  (h0:0<=l.getD 0) (h1:l.getD 0<=u.getD s.size) (h2:u.getD s.size<=s.size):Dh P a o E (.str (s.extract (l.getD 0).toNat (u.getD s.size).toNat)):=by
 have hv:=D8 hf hx;rw[hg]at hv;simp only[VR]at hv;have hb:=Kj (P:=P) (b:=false) E.w (W0 hf TY hl) (W0 hf Zk hu) h0 h1 h2 (A0a _);exact⟨_,by simp[execOp,ho,Instr.sliceAt,Instr.slice,N9 ht,hv,hb],iC _⟩
theorem gA {t e:TypeId} {x:Operand} {lo hi mx:Option Operand} {x':Opd} {lo' Cw mx':Option Opd} {full full':Bool} {z n:Nat} {xs:G3} {l u m:Option Int} (hf:FR E fr a.tmps) (ho:o.op=.slice t x lo hi mx) (ht:P.underlying t=some (.slice e)) (hn:Program.size? P e=some n)
  (hx:D7 x=some x') (TY:Ij lo=some lo') (Zk:Ij hi=some Cw) (hmx:Ij mx=some mx') (hg:get fr x'=.vs full z xs) (hl:L6 fr lo'=some l) (hu:L6 fr Cw=some u) (hm:L6 fr mx'=some m)
  (hz:z=n\/xs.length=0) (h0:0<=l.getD 0) (h1:l.getD 0<=u.getD xs.length)
  (hc:(m=none/\u.getD xs.length<=xs.length/\full'=(full&&decide (u.getD xs.length=xs.length)))\/(∃q,m=some q/\u.isSome=true/\u.getD xs.length<=q/\q<=xs.length/\full'=decide (q=u.getD xs.length))) :
  Dh P a o E (.vs full' z ((xs.drop (l.getD 0).toNat).take (u.getD xs.length-l.getD 0).toNat)):=by
 have hv:=D8 hf hx;rw[hg]at hv;simp only[VR]at hv;have hv':=hv;simp only[PV]at hv';obtain⟨ad,len,cap,e1,e2,e3,e4,e5,e6,e7⟩:=hv';rw[e1]at hv;subst e2;have etn:(u.getD xs.length-l.getD 0).toNat=(u.getD (xs.length:Int)).toNat-(l.getD 0).toNat:=by omega
 rw[etn];rcases hc with ⟨rfl,h2,hfull⟩|⟨q,rfl,hs,h2,h3,hfull⟩
 .have hmn:mx.map a.eval=none:=by
   rcases W0 hf hmx hm with ⟨_,h⟩|⟨k,i,h,_⟩
   .exact h
   .cases h
  have hb:=Kj (P:=P) (b:=true) (cap:=cap) E.w (W0 hf TY hl) (W0 hf Zk hu) h0 h1 h2 e3;refine⟨_,by simp[execOp,ho,Instr.sliceAt,Instr.slice,N9 ht,e1,hmn,hb,IK hn];rfl,?_⟩;simp only[VR];refine tz hv hz (by omega) (by omega) (by omega) (A0a _) λhf'=>?_;rw[hfull]at hf';simp at hf';have:=e5 hf'.1;omega
 .have hms:∃k,mx.map a.eval=some (.int k q):=by
   rcases W0 hf hmx hm with ⟨h,_⟩|⟨k,i,h,h'⟩
   .cases h
   .cases h;exact⟨k,h'⟩
  have hb:=PZ (P:=P) (b:=true) (len:=xs.length) (cap:=cap) E.w (W0 hf TY hl) (W0 hf Zk hu) hms hs h0 h1 h2 (by omega);refine⟨_,by simp[execOp,ho,Instr.sliceAt,Instr.slice,N9 ht,e1,hb,IK hn];rfl,?_⟩;simp only[VR];refine tz hv hz (by omega) (by omega) (by omega) (by omega) λhf'=>?_;rw[hfull]at hf';simp at hf';omega
theorem fz {t e:TypeId} {x:Operand} {lo hi mx:Option Operand} {x':Opd} {lo' Cw mx':Option Opd} {n k m off len:Nat} {f:Fam} {l u q:Option Int} {v:AV} (hS:SR E) (hf:FR E fr a.tmps) (ho:o.op=.slice t x lo hi mx) (ht:P.underlying t=some (.slice e)) (hn:Program.size? P e=some n)
  (hx:D7 x=some x') (TY:Ij lo=some lo') (Zk:Ij hi=some Cw) (hmx:Ij mx=some mx') (hg:get fr x'=.sl k m off len) (hl:L6 fr lo'=some l) (hu:L6 fr Cw=some u) (hm:L6 fr mx'=some q)
  (hfk:E.h.fams[k]?=some f) (hz:f.sz=n) (B8:f.xs.length=m)
  (hc:(q=none/\0<=l.getD 0/\l.getD 0<=u.getD len/\u.getD len<=len/\v=.sl k m (off+(l.getD 0).toNat) (u.getD len-l.getD 0).toNat)\/(q=some 0/\u.isSome=true/\l.getD 0=0/\u.getD len=0/\v=.vs true n [])) :
  Dh P a o E v:=by
 have hv:=D8 hf hx;rw[hg]at hv;simp only[VR]at hv;obtain⟨ad,cap,f',e1,e2,e3,e4⟩:=hv;have:f'=f:=by rw[hfk]at e2;simpa using e2.symm
 subst this;obtain⟨l1,l2,l3,l4,l5⟩:=e4 B8;have BF:=(hS.fams k f' hfk).room;rcases hc with ⟨rfl,h0,h1,h2,rfl⟩|⟨rfl,hs,h0,h1,rfl⟩
 .have hmn:mx.map a.eval=none:=by
   rcases W0 hf hmx hm with ⟨_,h⟩|⟨k,i,h,_⟩
   .exact h
   .cases h
  have hb:=Kj (P:=P) (b:=true) (len:=len) (cap:=cap) E.w (W0 hf TY hl) (W0 hf Zk hu) h0 h1 h2 (by omega);have etn:(u.getD len-l.getD 0).toNat=(u.getD (len:Int)).toNat-(l.getD 0).toNat:=by omega
  rw[etn];refine⟨_,by simp[execOp,ho,Instr.sliceAt,Instr.slice,N9 ht,e1,hmn,hb,IK hn];rfl,?_⟩;simp only[VR];refine⟨_,_,f',rfl,hfk,⟨e3.1,λhlen0=>?_⟩,λ_=>⟨by omega,by omega,by omega,λhnone=>?_,λP0=>?_⟩⟩
  .obtain⟨b,q',had⟩:=e3.2 (by omega);rw[if_neg (by omega),had];simp only[A0y,FP];exact⟨_,_,rfl⟩
  .split at hnone
   .exact l4 hnone
   .exact l4 (by simpa using hnone)
  .rw[if_neg (by omega),l5 (by omega)];simp only[A0y,FP];congr 2;rw[show off+(l.getD 0).toNat-(E.im k).lo=(off-(E.im k).lo)+(l.getD 0).toNat from by omega,A0l,hz];omega
 .have hms:∃k,mx.map a.eval=some (.int k 0):=by
   rcases W0 hf hmx hm with ⟨h,_⟩|⟨k,i,h,h'⟩
   .cases h
   .cases h;exact⟨k,h'⟩
  have hb:=PZ (P:=P) (b:=true) (len:=len) (cap:=cap) E.w (W0 hf TY hl) (W0 hf Zk hu) hms hs (by omega) (by omega) (by omega) (by omega);refine⟨.slice ad 0 0,by simp[execOp,ho,Instr.sliceAt,Instr.slice,N9 ht,e1,hb,IK hn,h0,h1],?_⟩;simp only[VR,PV];exact⟨_,_,_,rfl,rfl,A0a _,by simp,λ_=>rfl,⟨λ_=>rfl,⟨λe=>absurd e l4,λe=>absurd (hS.fams k f' hfk).sz (by omega)⟩⟩,λh=>absurd rfl h⟩
end
section
variable {E:Env} {P:Program} {fr:Fr} {a:Act} {o:Oper}
def Pe (P:Program) (a:Act) (o:Oper) (E:Env) (v:AV) (h':AH):Prop :=
 ∃nx u E',(execOp a.eval o).run P E.w=.ok nx E'.w/\(nx=.value u\/(nx=.skip/\u=undef))/\Ext E E'/\SR E'/\E'.h=h'/\VR E' v u
theorem Dh.does {v:AV} (hS:SR E) (h:Dh P a o E v):Pe P a o E v E.h:=by
 obtain⟨u,h1,h2⟩:=h;exact⟨_,u,E,h1,.inl rfl,Ext.refl E,hS,rfl,h2⟩
theorem LF {cs:G3} {us:List Value} (h:Be E cs us):us.length=cs.length:=(IW h).1
theorem TL {aas bs:G3} {us vs:List Value} (h1:Be E aas us) (h2:Be E bs vs):Be E (aas++bs) (us++vs):=by
 refine Ut (by simp[LF h1,LF h2]) λj c u hc hu=>?_;have e:=LF h1;by_cases hj:j<aas.length
 .rw[A0W hj]at hc;rw[A0W (by omega)]at hu;obtain⟨u',h3,h4⟩:=(IW h1).2 hc;rw[h3]at hu;cases hu;exact h4
 .rw[A0V (by omega)]at hc;rw[A0V (by omega),e]at hu;obtain⟨u',h3,h4⟩:=(IW h2).2 hc;rw[h3]at hu;cases hu;exact h4
theorem qS {aas:G3} {us:List Value} (h:Be E aas us) (n:Nat):Be E (aas.take n) (us.take n):=by
 refine Ut (by simp[LF h]) λj c u hc hu=>?_;rw[A0T]at hc hu;split at hc
 .rename_i hj;rw[if_pos hj]at hu;obtain⟨u',h3,h4⟩:=(IW h).2 hc;rw[h3]at hu;cases hu;exact h4
 .cases hc
theorem qR {aas:G3} {us:List Value} (h:Be E aas us) (n:Nat):Be E (aas.drop n) (us.drop n):=by
 refine Ut (by simp[LF h]) λj c u hc hu=>?_;rw[A0S]at hc hu;obtain⟨u',h3,h4⟩:=(IW h).2 hc;rw[h3]at hu;cases hu;exact h4
theorem Wo {cs ds:G3} {us vs:List Value} (h1:Be E cs us) (h2:Be E ds vs) (off:Nat):Be E (M5 cs off ds) (us.take off++vs++us.drop (off+vs.length)):=by
 unfold M5;rw[LF h2];exact TL (TL (qS h1 _) h2) (qR h1 _)
theorem Qs {w:World} {ok:Nat->Nat->Prop} {x:AV} {v:Value} (h:PV w ok x v) (ht:x.isTup=false):Dg w ok x.cells v.cells.toList/\∀u∈v.cells.toList,u.oneCell'=true:=by
 cases x<;>simp only[PV]at h
 case tup=>simp[AV.isTup]at ht
 case agg cs=>obtain⟨us,rfl,h1,h2⟩:=h;exact⟨h2,h1⟩
 case junk =>
  have hc:v.cells=#[v]:=by cases v<;>simp_all [Value.oneCell',Value.cells]
  rw[hc];exact⟨by simp[AV.cells,Dg,PV,h],by simpa using h⟩
 case vs=>obtain⟨ad,len,cap,rfl,h'⟩:=h;exact⟨by simp only[AV.cells,Value.cells,Dg,PV];exact⟨_,_,rfl,⟨_,_,_,rfl,h'⟩,rfl⟩,by simp[Value.cells,Value.oneCell']⟩
 case pv=>obtain⟨b,q,rfl,h'⟩:=h;exact⟨by simp only[AV.cells,Value.cells,Dg,PV];exact⟨_,_,rfl,⟨_,_,rfl,h'⟩,rfl⟩,by simp[Value.cells,Value.oneCell']⟩
 case fn=>obtain⟨us,rfl,h'⟩:=h;exact⟨by simp only[AV.cells,Value.cells,Dg,PV];exact⟨_,_,rfl,⟨_,rfl,h'⟩,rfl⟩,by simp[Value.cells,Value.oneCell']⟩
 case vm=>obtain⟨b,es,clk,rfl,h1,h2,h3,h4⟩:=h;exact⟨by simp only[AV.cells,Value.cells,Dg];exact⟨_,_,rfl,by simp only[PV];exact⟨b,es,clk,rfl,h1,h2,h3,h4⟩,rfl⟩,by simp[Value.cells,Value.oneCell']⟩
 all_goals (subst h;exact⟨by simp[AV.cells,Value.cells,Dg,PV],by simp[Value.cells,Value.oneCell']⟩)
theorem Iu {t:TypeId} {z:AV} (h:Program.zeroA P t=some z):∃i zv,P.info? t=some i/\i.zero=some zv/\zv.cells.size=i.size/\SN zv=some z/\z.isTup=false:=by
 unfold Program.zeroA at h;split at h
 .rename_i i hi;split at h
  .rename_i zv hz;split at h
   .rename_i x hx;split at h
    .rename_i hc;cases h;exact⟨i,zv,hi,hz,hc.1,hx,hc.2⟩
    .cases h
   .cases h
  .cases h
 .cases h
theorem A0N {t:TypeId} {x:Operand} {x':Opd} (hS:SR E) (hf:FR E fr a.tmps) (ho:o.op=.box t x) (hx:D7 x=some x') (ht:(get fr x').isTup=false) :
  Pe P a o E (.ptr E.h.boxes.length 0) {E.h with boxes:=E.h.boxes++[(get fr x').cells]}:=by
 obtain⟨h1,h2⟩:=Qv (D8 hf hx) ht;refine⟨_,.pointer (some ⟨E.w.heap.size,0,none⟩),E.newBox (a.eval x).cells t (get fr x').cells,?_,.inl rfl,Tc hS _ _ _,Zu hS h1 h2,rfl,?_⟩
 .simp only[execOp,ho,Instr.box,newVar,newRow,Sem.run_bind,run_newObj,Result.andThen_ok,Sem.run_pure,World.alloc_eq,Env.newBox]
 .simp only[VR,Env.newBox,u6];exact⟨by simp,trivial⟩
theorem ud {t:TypeId} {z:AV} (hS:SR E) (ho:o.op=.alloc t) (hz:Program.zeroA P t=some z) :
  Pe P a o E (.ptr E.h.boxes.length 0) {E.h with boxes:=E.h.boxes++[z.cells]}:=by
 obtain⟨i,zv,h1,h2,h3,h4,h5⟩:=Iu hz;obtain⟨h6,h7⟩:=Qv (E:=E) (FN _ _ (Fn h4)) h5;refine⟨_,.pointer (some ⟨E.w.heap.size,0,none⟩),E.newBox zv.cells t z.cells,?_,.inl rfl,Tc hS _ _ _,Zu hS h6 h7,rfl,?_⟩
 .simp only[execOp,ho,Instr.alloc,newVar,newRow,zeroValue,typeInfo,run_program,Sem.run_bind,h1,h2,run_newObj,Result.andThen_ok,Sem.run_pure,World.alloc_eq,Env.newBox]
 .simp only[VR,Env.newBox,u6];exact⟨by simp,trivial⟩
theorem UZ {t:TypeId} {b q:Nat} {v:Value} {cur:Array Value} {t':TypeId} {w:World} {n:Nat} (hn:Program.size? P t=some n) (hg:w.heap[b]?=some (.cells cur t' (0,0))) (hv:v.cells.size=n) (Dn:q+n<=cur.size)
  (h1:∀u∈v.cells.toList,u.oneCell'=true) :
  (storeVar t ⟨b,q,none⟩ v).run P w=.ok () (w.setRow b (cur.toList.take q++v.cells.toList++cur.toList.drop (q+n)).toArray):=by
 have Hg:=run_storeCells_at P b q t' v.cells.toList 0 cur w hg (by simp;omega) h1;simp only[A0r,A0Y,hv]at Hg;unfold storeVar;simp[IK hn,hv,Hg]
theorem qg {t:TypeId} {x y:Operand} {x' y':Opd} {n b off:Nat} {cs:G3} (hS:SR E) (hf:FR E fr a.tmps) (ho:o.op=.store t x y) (hn:Program.size? P t=some n) (hx:D7 x=some x') (hy:D7 y=some y')
  (hg:get fr x'=.ptr b off) (Lq:E.h.boxes[b]?=some cs) (hmb:Es cs=false) (ht:(get fr y').isTup=false) (hl:(get fr y').cells.length=n) (Dn:off+n<=cs.length) :
  Pe P a o E C5 {E.h with boxes:=E.h.boxes.set b (M5 cs off (get fr y').cells)}:=by
 have hv:=D8 hf hx;rw[hg]at hv;simp only[VR]at hv;obtain⟨hb,e⟩:=hv;obtain⟨h1,h2⟩:=Qv (D8 hf hy) ht;have hb1:=(hS.boxes b cs Lq).1;obtain⟨cur,t',hc1,hc2,hc3⟩:=(hS.boxes b cs Lq).row hmb;have J4:(a.eval y).cells.size=n:=by have:=LF h1;simp at this;omega
 have GJ:cur.size=cs.length:=by have:=LF hc2;simpa using this
 have hrun:=UZ (P:=P) (q:=off) hn hc1 J4 (by omega) h2;have Qp:=Wo hc2 h1 off;rw[show (a.eval y).cells.toList.length=n from by simp[J4]]at Qp;refine⟨_,undef,E.setBox b (cur.toList.take off++(a.eval y).cells.toList++cur.toList.drop (off+n)).toArray (M5 cs off (get fr y').cells),?_,.inr ⟨rfl,rfl⟩,YS hS hb Lq hmb _ _,pr hS Lq hmb Qp ?_,rfl,FO _⟩
 .simp only[execOp,ho,Instr.storeAt,e,Instr.sureAddr,Sem.run_bind,Sem.run_pure,Result.andThen_ok,hrun];rfl
 .intro u hu;simp only[A0j]at hu;rcases hu with (hu|hu)|hu
  .exact hc3 u (A0d hu)
  .exact h2 u hu
  .exact hc3 u (A0c hu)
theorem Kl {α:Type} {l:List α} {off:Nat} {vs:List α} (Dn:off+vs.length<=l.length) (j:Nat) :
  (l.take off++vs++l.drop (off+vs.length))[j]?=if j<off then l[j]? else if j<off+vs.length then vs[j-off]? else l[j]?:=by
 have hl:(l.take off).length=off:=by simp;omega
 by_cases h1:j<off
 .rw[if_pos h1,A0u,A0W (by omega),A0T,if_pos h1]
 .rw[if_neg h1];by_cases h2:j<off+vs.length
  .rw[if_pos h2,A0u,A0V (by omega),hl,A0W (by omega)]
  .rw[if_neg h2,A0V (by simp;omega),A0S];congr 1;simp;omega
theorem qh {t:TypeId} {x y:Operand} {x' y':Opd} {n k m i c sz:Nat} {f:Fam} {el u z:AV} (hS:SR E) (hf:FR E fr a.tmps) (ho:o.op=.store t x y) (hn:Program.size? P t=some n) (hx:D7 x=some x') (hy:D7 y=some y')
  (hg:get fr x'=.ep k m i c sz) (hfk:E.h.fams[k]?=some f) (hm:f.xs.length=m) (hmz:f.sz=sz) (hw:f.wr=true) (Ul:f.xs[i]?=some el) (hu:KH E.h false (get fr y')=some u)
  (hl:u.cells.length=n) (Dn:c+n<=el.cells.length) (hzc:z.cells=M5 el.cells c u.cells) :
  Pe P a o E C5 {E.h with fams:=E.h.fams.set k {f with xs:=f.xs.set i z}}:=by
 have hv:=D8 hf hx;rw[hg]at hv;simp only[VR]at hv;obtain⟨b0,o0,f',e,hfk',_,had⟩:=hv;have:f'=f:=by rw[hfk]at hfk';simpa using hfk'.symm
 subst this;obtain⟨TY,hbo⟩:=had ⟨hm,hmz⟩;rw[hbo]at e;have hF:=hS.fams k f' hfk;obtain⟨cur,t',c1,c2,c3⟩:=hF.cells;obtain⟨e1,e2⟩:=c3 i el TY Ul;obtain⟨hPu,hut⟩:=Mh hS (am:=false) (ok':=E.ok) ⟨λ_ _ h=>h,λh=>by cases h⟩ (D8 hf hy) hu;obtain⟨h1,h2⟩:=Qs hPu hut;obtain⟨hul,hug⟩:=JL h1;have J4:(a.eval y).cells.size=n:=by simp at hul;omega
 have hi:i<f'.xs.length:=(A0Q.1 Ul).1;have BF:=hF.room;have M2:(E.im k).o+(i-(E.im k).lo)*f'.sz+f'.sz<=cur.size:=by
  have h3:(i-(E.im k).lo+1)*f'.sz<=(E.im k).cap*f'.sz:=A0U _ (by omega);rw[A0e]at h3;omega
 have hrun:=UZ (P:=P) (q:=(E.im k).o+(i-(E.im k).lo)*f'.sz+c) hn c1 J4 (by omega) h2;obtain⟨us,WI⟩:∃us:Array Value,us=(cur.toList.take ((E.im k).o+(i-(E.im k).lo)*f'.sz+c)++(a.eval y).cells.toList++cur.toList.drop ((E.im k).o+(i-(E.im k).lo)*f'.sz+c+n)).toArray:=⟨_,rfl⟩;rw[←WI]at hrun;have hget:∀j:Nat,us[j]?=if j<(E.im k).o+(i-(E.im k).lo)*f'.sz+c then cur[j]? else if j<(E.im k).o+(i-(E.im k).lo)*f'.sz+c+n then (a.eval y).cells[j-((E.im k).o+(i-(E.im k).lo)*f'.sz+c)]? else cur[j]?:=by
  intro j;have:=Kl (l:=cur.toList) (off:=(E.im k).o+(i-(E.im k).lo)*f'.sz+c) (vs:=(a.eval y).cells.toList) (by simp;omega) j;simp only[A0Y,J4,A0b]at this;rw[WI,List.getElem?_toArray,this]
 have hussz:us.size=cur.size:=by rw[WI];simp;omega
 refine⟨_,undef,E.setFam k us {f' with xs:=f'.xs.set i z},?_,.inr ⟨rfl,rfl⟩,
  Ki hS hfk c1 rfl rfl (by simp) (λh=>by rw[hw]at h;cases h),PY hS hfk c1 rfl rfl (by simp) (λh=>by rw[hw]at h;cases h) (by simpa using BF) hussz ?_,rfl,FO _⟩
 .simp only[execOp,ho,Instr.storeAt,e,Instr.sureAddr,Sem.run_bind,Sem.run_pure,Result.andThen_ok,hrun];rfl
 .intro j x' hj hx';have hx'':(f'.xs.set i z)[j]?=some x':=hx';by_cases hij:i=j
  .subst hij;rw[A0k hi]at hx'';cases hx'';refine⟨by rw[hzc];simp[M5];omega,λq y' hq=>?_⟩;rw[hzc]at hq;unfold M5 at hq;rw[Kl (by omega)]at hq;have hq':q<f'.sz:=by
    rcases A02 q f'.sz with h|h
    .exact h
    .rw[if_neg (by omega),if_neg (by omega),List.getElem?_eq_none (by omega)]at hq;cases hq
   rw[hget];by_cases hqc:q<c
   .rw[if_pos hqc]at hq;rw[if_pos (by omega)];obtain⟨v,v1,v2,v3⟩:=e2 q y' hq;exact⟨v,by simpa using v1,v2,v3⟩
   .rw[if_neg hqc]at hq;by_cases hqn:q<c+u.cells.length
    .rw[if_pos hqn]at hq;rw[if_neg (by omega),if_pos (by omega)];obtain⟨v,v1,v2⟩:=hug hq;refine⟨v,?_,h2 v (A0X v1),v2⟩;rw[show (E.im k).o+(i-(E.im k).lo)*f'.sz+q-((E.im k).o+(i-(E.im k).lo)*f'.sz+c)=q-c from by omega];simpa using v1
    .rw[if_neg hqn]at hq;rw[if_neg (by omega),if_neg (by omega)];obtain⟨v,v1,v2,v3⟩:=e2 q y' hq;exact⟨v,by simpa using v1,v2,v3⟩
  .rw[A0g hij]at hx'';obtain⟨g1,g2⟩:=c3 j x' hj hx'';refine⟨g1,λq y' hq=>?_⟩;obtain⟨v,v1,v2,v3⟩:=g2 q y' hq;refine⟨v,?_,v2,v3⟩;have hqs:q<f'.sz:=by have:=(A0Q.1 hq).1;omega
   rw[hget];rcases A0s (show j≠i from λe=>hij e.symm)with A7|hgt
   .have h3:(j-(E.im k).lo+1)*f'.sz<=(i-(E.im k).lo)*f'.sz:=A0U _ (by omega);rw[A0e]at h3;rw[if_pos (by omega)];simpa using v1
   .have h3:(i-(E.im k).lo+1)*f'.sz<=(j-(E.im k).lo)*f'.sz:=A0U _ (by omega);rw[A0e]at h3;rw[if_neg (by omega),if_neg (by omega)];simpa using v1
end
section
variable {E:Env} {P:Program} {fr:Fr} {a:Act} {o:Oper}
theorem eF (off:Nat):∀(l:List Value) (k:Nat) (cells:Array Value),off+k+l.length<=cells.size ->
  ((l.zipIdx k).foldl (λcs (x:Value×Nat)=>cs.setIfInBounds (off+x.2) x.1) cells).toList=cells.toList.take (off+k)++l++cells.toList.drop (off+k+l.length)
 | [],k,cells,_=>by simp
 |v::l,k,cells,h=>by
  simp only[A0w]at h;simp only[List.zipIdx_cons,List.foldl_cons];rw[eF off l (k+1) _ (by simp;omega)];have:=list_seg_step cells.toList (off+k) v l (by simp;omega);simp only[Array.toList_setIfInBounds,A0w];rw[show off+(k+1)=off+k+1 from by omega];exact this
theorem ZW {place:Nat->Option (Nat×Nat)} {cells:Array Value} {i off size:Nat} {v:Value} {rest:List (Nat×Value)} (hp:place i=some (off,size)) (hs:v.cells.size=size) (Dn:off+size<=cells.size) :
  Instr.fill place cells ((i,v)::rest)=Instr.fill place (cells.toList.take off++v.cells.toList++cells.toList.drop (off+size)).toArray rest:=by
 have h:=eF off v.cells.toList 0 cells (by simp;omega);simp only[A0r,A0Y,hs]at h;have h2:(v.cells.zipIdx.foldl (λcs (x:Value×Nat)=>cs.setIfInBounds (off+x.2) x.1) cells)=(cells.toList.take off++v.cells.toList++cells.toList.drop (off+size)).toArray:=by
  apply Array.ext';rw[←h,←Array.foldl_toList];simp
 simp only[Instr.fill,hp,hs];rw[if_neg (by simp;omega)];exact congrArg (λc=>Instr.fill place c rest) h2
theorem Vd (hf:FR E fr a.tmps) {fs:Array Field} {places:Nat->Option (Nat×Nat)} (hpl:∀(j:Nat) (f:Field) (n:Nat),fs[j]?=some f->Program.size? P f.type=some n->places j=some (f.offset,n)) :
  ∀{parts:List (Nat×Operand)} {ps:List (Nat×Nat×Opd)} {qs:List (Nat×AV)} {cells:Array Value} {zs:List AV},KZ (Wg P fs) parts=some ps->D2 fr zs.length ps=some qs->Be E zs cells.toList->(∀u∈cells.toList,u.oneCell'=true) ->
   ∃us,Instr.fill places cells (parts.map λp=>(p.1,a.eval p.2))=some us/\Be E (E6 zs qs) us.toList/\∀u∈us.toList,u.oneCell'=true
 | [],ps,qs,cells,zs,hp,hq,hz,h1=>by
  simp[KZ]at hp;subst hp;simp[D2]at hq;subst hq;exact⟨cells,rfl,hz,h1⟩
 |(i,x)::parts,ps,qs,cells,zs,hp,hq,hz,h1=>by
  simp only[KZ]at hp;split at hp
  .rename_i y ys hy WZ;cases hp;obtain⟨off,n,x'⟩:=y;unfold Wg at hy;split at hy
   .rename_i f xx hfi qD;split at hy
    .rename_i n' hn';simp at hy;obtain⟨rfl,rfl,rfl⟩:=hy;simp only[D2]at hq;split at hq
     .rename_i hc;simp only[A0R]at hq;obtain⟨qs',hqs',rfl⟩:=hq;obtain⟨g1,g2⟩:=Qv (D8 hf qD) hc.1;have J4:(a.eval x).cells.size=n':=by have:=LF g1;simp at this;omega
      have GJ:cells.size=zs.length:=by have:=LF hz;simpa using this
      have hstep:=ZW (place:=places) (cells:=cells) (rest:=parts.map λp=>(p.1,a.eval p.2)) (hpl i f n' hfi hn') J4 (by omega);have Qp:=Wo hz g1 f.offset;rw[show (a.eval x).cells.toList.length=n' from by simp[J4]]at Qp;have B8:(M5 zs f.offset (get fr xx).cells).length=zs.length:=by simp[M5];omega
      obtain⟨us,k1,k2,k3⟩:=Vd hf hpl (cells:=(cells.toList.take f.offset++(a.eval x).cells.toList++cells.toList.drop (f.offset+n')).toArray) (zs:=M5 zs f.offset (get fr xx).cells) WZ (by rw[B8];exact hqs') (by simpa using Qp) (by
       intro u hu;simp only[A0j]at hu;rcases hu with (hu|hu)|hu
       .exact h1 u (A0d hu)
       .exact g2 u hu
       .exact h1 u (A0c hu))
      refine⟨us,?_,?_,k3⟩
      .simp only[A00];rw[hstep];exact k1
      .simpa[E6]using k2
     .cases hq
    .cases hy
   .cases hy
  .cases hp
theorem ez {α β:Type} {f:α->Option β}:∀{l:List α} {r:List β},l.mapM f=some r->∀{j:Nat} {x:α},l[j]?=some x->∃y,f x=some y/\r[j]?=some y
 | [],r,_,j,x,hx=>by simp at hx
 |b::l,r,h,j,x,hx=>by
  simp only[List.mapM_cons,Option.bind_eq_bind,Option.pure_def,A0f]at h;obtain⟨y,hy,ys,WZ,hr⟩:=h;cases hr;cases j with
  |zero=>simp at hx;subst hx;exact⟨y,hy,rfl⟩
  |succ j=>simpa using ez WZ (j:=j) (x:=x) (by simpa using hx)
theorem vr {t:TypeId} {parts:Array (Nat×Operand)} {fs:Array Field} {zs:G3} {ps:List (Nat×Nat×Opd)} {qs:List (Nat×AV)} (hf:FR E fr a.tmps) (ho:o.op=.build t parts) (hu:P.underlying t=some (.struct fs)) (hz:Program.zeroA P t=some (.agg zs))
  (hs:(fs.toList.mapM λf=>(P.info? f.type).map λi=>(f.offset,i.size)).isSome=true) (hp:KZ (Wg P fs) parts.toList=some ps) (hq:D2 fr zs.length ps=some qs):Dh P a o E (.agg (E6 zs qs)):=by
 obtain⟨i,zv,h1,h2,h3,h4,h5⟩:=Iu hz;obtain⟨places,hpl⟩:=Option.isSome_iff_exists.1 hs;obtain⟨g1,g2⟩:=Qv (E:=E) (FN _ _ (Fn h4)) h5;obtain⟨us,k1,k2,k3⟩:=Vd (E:=E) (P:=P) hf (places:=λj=>places.toArray[j]?) (λj f n hj hn=>by
  obtain⟨y,hy,hy'⟩:=ez hpl (j:=j) (x:=f) (by simpa using hj);unfold Program.size? at hn;simp only[A0R]at hn hy;obtain⟨i',Cw,rfl⟩:=hn;obtain⟨i'',hi'',rfl⟩:=hy;rw[Cw]at hi'';cases hi'';simpa using hy') hp hq g1 g2
 have hb:P.built t (parts.map λ(i,x)=>(i,a.eval x)).toList=some us:=by
  unfold Program.built;simp only[h1,hu,h2,hpl,A0v];exact k1
 refine⟨.agg us,?_,?_⟩
 .simp only[execOp,ho,Sem.run_bind,run_build E.w t _ us hb,Result.andThen_ok,Sem.run_pure]
 .simp only[VR];exact⟨us,rfl,k3,k2⟩
def KF (E:Env) (us:List Value) (xs:List AV) (sz:Nat):Prop :=
 ∀(i:Nat) (x:AV),xs[i]?=some x->x.cells.length=sz/\∀(c:Nat) (y:AV),x.cells[c]?=some y->∃v,us[i*sz+c]?=some v/\v.oneCell'=true/\PV E.w E.ok y v
theorem Yq (z:Array Value) (n:Nat) (i c:Nat) (hc:c<z.size) (hi:i<n):(madeCells z (n*z.size))[i*z.size+c]?=some z[c]:=by
 have A7:=Cz hi hc;unfold madeCells;rw[A0p,A0m,if_pos A7];have:(i*z.size+c) % z.size=c:=by rw[Nat.add_comm,Nat.mul_comm,Nat.add_mul_mod_self_left,Nat.mod_eq_of_lt hc]
 simp[this,getElem!_pos,hc]
theorem SU {t:TypeId} {z:AV} (hz:Program.zeroA P t=some z) {n:Nat} {i:TypeInfo} (hi:P.info? t=some i) (M2:0<i.size):∃zv,i.zero=some zv/\z.cells.length=i.size/\zv.cells.size=i.size/\KF E (madeCells zv.cells (n*i.size)).toList (A0z n z) i.size/\∀u∈(madeCells zv.cells (n*i.size)).toList,u.oneCell'=true:=by
 obtain⟨i',zv,h1,h2,h3,h4,h5⟩:=Iu hz;rw[hi]at h1;cases h1;have hpv:=Fn (w:=E.w) (ok:=E.ok) h4;obtain⟨g1,g2⟩:=Qs hpv h5;obtain⟨gl,gg⟩:=JL g1;have hl:z.cells.length=i.size:=by simp at gl;omega
 refine⟨zv,h2,hl,h3,λj x hx=>?_,λu hu=>?_⟩
 .rw[List.getElem?_replicate]at hx;split at hx
  .rename_i hj;cases hx;refine⟨hl,λc y hy=>?_⟩;have hc:c<zv.cells.size:=by have:=(A0Q.1 hy).1;omega
   obtain⟨v,v1,v2⟩:=gg hy;have:=Yq zv.cells n j c hc hj;rw[h3]at this;refine⟨zv.cells[c],by rw[A0b];exact this,g2 _ (by simp),?_⟩;have e:v=zv.cells[c]:=by
    rw[A0b,Array.getElem?_eq_getElem hc]at v1;simpa using v1.symm
   rw[←e];exact v2
  .cases hx
 .obtain⟨j,hj⟩:=A0o hu;rw[A0b]at hj;unfold madeCells at hj;rw[A0p,A0m]at hj;split at hj
  .simp at hj;have hm:j % zv.cells.size<zv.cells.size:=Nat.mod_lt _ (by omega);rw[getElem!_pos zv.cells _ hm]at hj;subst hj;exact g2 _ (by simp)
  .simp at hj
theorem WD (hS:SR E) (hf:FR E fr a.tmps) {sz:Nat} (M2:0<sz) :
  ∀{parts:List (Nat×Operand)} {ps:List (Nat×Opd)} {xs ys:List AV} {cells:Array Value},KZ Wf parts=some ps->A5 fr E.h xs ps=some ys->KF E cells.toList xs sz->cells.size=xs.length*sz->(∀u∈cells.toList,u.oneCell'=true) ->
   ∃us,Instr.fill (λi=>some (i*sz,sz)) cells (parts.map λp=>(p.1,a.eval p.2))=some us/\KF E us.toList ys sz/\us.size=ys.length*sz/\ys.length=xs.length
 | [],ps,xs,ys,cells,hp,hq,hr,hs,_=>by
  simp[KZ]at hp;subst hp;simp[A5]at hq;subst hq;exact⟨cells,rfl,hr,hs,rfl⟩
 |(i,x)::parts,ps,xs,ys,cells,hp,hq,hr,hs,h1=>by
  simp only[KZ]at hp;split at hp
  .rename_i y yr hy hyr;cases hp;unfold Wf at hy;simp only[A0R]at hy;obtain⟨x',hx',rfl⟩:=hy;simp only[A5]at hq;split at hq
   .rename_i z y hz hyy;split at hq
    .rename_i hc;obtain⟨hPu,hut⟩:=Mh hS (am:=false) (ok':=E.ok) ⟨λ_ _ h=>h,λh=>by cases h⟩ (D8 hf hx') hyy;obtain⟨g1,g2⟩:=Qs hPu hut;obtain⟨gl,gg⟩:=JL g1;obtain⟨r1,r2⟩:=hr i z hz;have hi:i<xs.length:=(A0Q.1 hz).1;have J4:(a.eval x).cells.size=sz:=by simp at gl;omega
     have Dn:i*sz+sz<=cells.size:=by
      have:(i+1)*sz<=xs.length*sz:=A0U _ hi;rw[A0e]at this;omega
     have hstep:=ZW (place:=λi=>some (i*sz,sz)) (cells:=cells) (i:=i) (rest:=parts.map λp=>(p.1,a.eval p.2)) rfl J4 Dn;have hget:=λj=>Kl (l:=cells.toList) (off:=i*sz) (vs:=(a.eval x).cells.toList) (by simp;omega) j;simp only[A0Y,J4]at hget;obtain⟨us,k1,k2,k3,k4⟩:=WD hS hf M2 (parts:=parts) (xs:=xs.set i y) (cells:=(cells.toList.take (i*sz)++(a.eval x).cells.toList++cells.toList.drop (i*sz+sz)).toArray) hyr hq (λj w hw=>by
      by_cases hij:i=j
      .subst hij;rw[A0k hi]at hw;cases hw;refine⟨by omega,λc q hq'=>?_⟩;obtain⟨v,v1,v2⟩:=gg hq';have Lq:c<sz:=by have:=(A0Q.1 hq').1;omega
       refine⟨v,?_,g2 v (A0X v1),v2⟩;show (A04 _ _++_++A03 _ _)[_]?=some v;rw[hget,if_neg (by omega),if_pos (by omega),show i*sz+c-i*sz=c from by omega];exact v1
      .rw[A0g hij]at hw;obtain⟨s1,s2⟩:=hr j w hw;refine⟨s1,λc q hq'=>?_⟩;obtain⟨v,v1,v2,v3⟩:=s2 c q hq';refine⟨v,?_,v2,v3⟩;have Lq:c<sz:=by have:=(A0Q.1 hq').1;omega
       show (A04 _ _++_++A03 _ _)[_]?=some v;rw[hget];rcases A0s (show j≠i from λe=>hij e.symm)with A7|hgt
       .have:=Cz A7 Lq;rw[if_pos this];exact v1
       .have h3:(i+1)*sz<=j*sz:=A0U _ hgt;rw[A0e]at h3;rw[if_neg (by omega),if_neg (by omega)];exact v1) (by
       simp only[List.size_toArray,List.length_append,List.length_take,List.length_drop,A0Y,J4,List.length_set];omega) (by
       intro u hu;simp only[A0j]at hu;rcases hu with (hu|hu)|hu
       .exact h1 u (A0d hu)
       .exact g2 u hu
       .exact h1 u (A0c hu))
     exact⟨us,by simp only[A00];rw[hstep];exact k1,k2,k3,by simpa using k4⟩
    .cases hq
   .cases hq
  .cases hp
theorem eG (hS:SR E) {us:Array Value} {e:TypeId} {xs:G3} {sz:Nat} (M2:0<sz) (hr:KF E us.toList xs sz) (hm:xs.length<=maxLen) :
  PV (E.w.alloc (.cells us e)) ({E with w:=E.w.alloc (.cells us e)}:Env).ok (.vs true sz xs) (.slice (some ⟨E.w.heap.size,0,none⟩) xs.length xs.length):=by
 have hb:Bl E.w.heap.size E.w (E.w.alloc (.cells us e)):=⟨(Below.refl _ _).alloc (A0a _) _,A0a _⟩;have hx:=Bk hS hb;simp only[PV];refine⟨_,_,_,rfl,rfl,A0a _,hm,λ_=>rfl,⟨(λh=>nomatch h),⟨(λh=>nomatch h),λe=>absurd M2 (by omega)⟩⟩,λ_=>⟨_,_,rfl,M2,WP λj x hj=>?_⟩⟩;obtain⟨r1,r2⟩:=hr j x hj;refine⟨r1,PC λc y hc=>?_⟩;obtain⟨v,v1,v2,v3⟩:=r2 c y hc;refine⟨v,?_,?_,v2,Dq hx.cells _ _ v3⟩
 .refine .inr ⟨hS.basele,by simp,λi hi=>?_,λk f hk he=>?_⟩
  .have:=(hS.nb_lt hi).2;intro e;have e':E.nb i=E.w.heap.size:=e;omega
  .have:=(hS.im_lt (A0Q.1 hk).1).2;have he':(E.im k).b=E.w.heap.size:=he;omega
 .rw[A0t,cell_of_row _ _ _ _ _ _ (heap_alloc_new _ _)];simpa using v1
theorem qe {t e:TypeId} {len:Nat} {parts:Array (Nat×Operand)} {z:AV} {n:Nat} {ps:List (Nat×Opd)} {xs:G3} (hS:SR E) (hf:FR E fr a.tmps) (ho:o.op=.buildSlice t len parts) (hu:P.underlying t=some (.slice e)) (hz:Program.zeroA P e=some z) (hn:Program.size? P e=some n)
  (M2:0<n) (hlim:len*n<=2 ^ 24) (hp:KZ Wf parts.toList=some ps) (hq:A5 fr E.h (A0z len z) ps=some xs):Pe P a o E (.vs true z.cells.length xs) E.h:=by
 have hn':=hn;unfold Program.size? at hn';simp only[A0R]at hn';obtain⟨i,hi,rfl⟩:=hn';obtain⟨zv,h2,hl,h3,hr,h1⟩:=SU (E:=E) hz (n:=len) hi M2;obtain⟨us,k1,k2,k3,k4⟩:=WD hS hf M2 hp hq hr (by simp[madeCells]) h1;have B8:xs.length=len:=by simpa using k4
 have hmax:xs.length<=maxLen:=by
  have:len*1<=len*i.size:=Nat.mul_le_mul_left _ M2;rw[B8];unfold maxLen;omega
 have hpv:=eG (e:=e) hS M2 k2 hmax;have hb:Bl E.w.heap.size E.w (E.w.alloc (.cells us e)):=⟨(Below.refl _ _).alloc (A0a _) _,A0a _⟩;rw[hl];refine⟨_,.slice (some ⟨E.w.heap.size,0,none⟩) xs.length xs.length,{E with w:=E.w.alloc (.cells us e)},?_,.inl rfl,Bk hS hb,HG hS hb,rfl,?_⟩
 .have Zl:(sizeOf e).run P E.w=.ok i.size E.w:=IK hn _;by_cases h0:len*i.size=0
  .have hc0:madeCells zv.cells (len*i.size)=#[]:=by simp[h0,madeCells]
   rw[hc0]at k1;simp[execOp,ho,Instr.buildSlice,N9 hu,Zl,h0,newRow,B8,Array.range_zero',k1]
  .simp[execOp,ho,Instr.buildSlice,N9 hu,Zl,h0,show ¬(16777216<len*i.size) from by omega,zeroValue,typeInfo,hi,h2,newRow,B8];unfold madeCells at k1;simp[k1]
 .simp only[VR];exact hpv
end
end Go.Abs
