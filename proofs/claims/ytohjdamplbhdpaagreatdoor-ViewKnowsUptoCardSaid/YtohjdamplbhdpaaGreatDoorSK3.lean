/- A part of the proof. -/
import Derived.Test.YtohjdamplbhdpaaGreatDoorSK2
set_option linter.all false
open List renaming getElem?_eq_some_iff->A0A,getElem?_drop->A0C,getElem?_take->A0D,mem_of_getElem?->A0F,getD->A0L
open Option renaming map_eq_some_iff->A0B,getD_some->A0H,bind_eq_some_iff->A0I,getD_none->A0N,map_some->A0O
open Array renaming size_eq_zero_iff->A0E,toList_extract->A0K
open Bool renaming false_eq_true->A0G
open Nat renaming add_mul->A0J,le_refl->A0M,add_assoc->A0P,zero_add->A0Q
namespace Go.Abs
open Go.RowKit (Below)
structure FR (E:Env) (fr:Fr) (tmps:Array Value):Prop where
 len:fr.length=tmps.size
 val:∀t:Nat,VR E (fr.getD t C3) (tmps.getD t undef)
theorem Dv (E:Env):VR E C3 undef:=by simp[C3,undef,VR,Au]
theorem FR.ext {E E':Env} (h:Ext E E') {fr:Fr} {tmps:Array Value} (hf:FR E fr tmps):FR E' fr tmps:=⟨hf.len,λt=>XW h _ _ (hf.val t)⟩
theorem FR.put {E:Env} {fr:Fr} {a:Act} (hf:FR E fr a.tmps) (dst:Option Nat) {v:AV} {u:Value} (hv:VR E v u):FR E (put fr dst v) (a.put dst u).tmps:=by
 cases dst with
 |none=>exact hf
 |some d =>
  refine⟨by simp[Abs.put,Act.put,hf.len],λt=>?_⟩;simp only[Abs.put,Act.put];by_cases hd:d<fr.length
  .by_cases ht:d=t
   .subst ht;have hd':d<a.tmps.size:=by rw[←hf.len];exact hd
    simpa[A0L,Array.getD,hd,hd']using hv
   .have:=hf.val t;simpa[A0L,List.getElem?_set_ne ht,Array.getElem?_setIfInBounds_ne ht]using this
  .have:=hf.val t;have hd':¬d<a.tmps.size:=by rw[←hf.len];exact hd
   have e1:fr.set d v=fr:=List.set_eq_of_length_le (by omega);have e2:a.tmps.setIfInBounds d u=a.tmps:=Array.setIfInBounds_eq_of_size_le (by omega);rw[e1,e2];exact this
theorem Ps {α β:Type} {f:α->Option β}:∀{l:List α} {r:List β},It f l=some r->r.length=l.length/\∀(j:Nat) (x:α),l[j]?=some x->∃y,f x=some y/\r[j]?=some y
 | [],r,h=>by simp[It]at h;subst h;simp
 |a::l,r,h=>by
  simp only[It]at h;split at h
  .rename_i y ys h1 h2;cases h;obtain⟨hl,hg⟩:=Ps h2;refine⟨by simp[hl],λj x hx=>?_⟩;cases j with
   |zero=>simp at hx;subst hx;exact⟨y,h1,rfl⟩
   |succ j=>simpa using hg j x (by simpa using hx)
  .cases h
theorem Kz {w:World} {ok:Nat->Nat->Prop}:∀{v:Value} {x:AV},Ok v=some x->PV w ok x v/\v.oneCell'=true:=by
 intro v x h;unfold Ok at h;split at h
 case h_1=>cases h;exact⟨by simp[PV],rfl⟩
 case h_2=>cases h;exact⟨by simp[PV],rfl⟩
 case h_3=>cases h;exact⟨by simp[PV],rfl⟩
 case h_4=>cases h;exact⟨by simp only[PV];exact⟨none,0,0,rfl,rfl,by omega,by omega,λ_=>rfl,⟨λ_=>rfl,by simp⟩,λh=>absurd rfl h⟩,rfl⟩
 case h_5=>cases h;exact⟨by simp[PV],rfl⟩
 case h_6=>cases h;exact⟨by simp[PV],rfl⟩
 case h_7=>cases h;exact⟨by simp[PV],rfl⟩
 case h_9=>cases h
 case h_8 f a b =>
  split at h
  .rename_i hs;cases h;have ha:a=#[]:=A0E.1 hs.1;have hb:b=#[]:=A0E.1 hs.2;subst ha;subst hb;exact⟨by simp[PV,Cg],rfl⟩
  .cases h
theorem EN {w:World} {ok:Nat->Nat->Prop} {v:Value} {x:AV} (h:Pl v=some x):PV w ok x v:=by
 unfold Pl at h;split at h
 .rename_i cs;cases hm:It Ok cs.toList with
  |none=>simp[hm]at h
  |some ys =>
   simp[hm]at h;subst h;obtain⟨hl,hg⟩:=Ps hm;simp only[PV];refine⟨cs,rfl,λu hu=>?_,SE hl.symm λj c u hc hu=>?_⟩
   .obtain⟨j,hj⟩:=List.getElem?_of_mem hu;obtain⟨y,hy,_⟩:=hg j u hj;exact(Kz (w:=w) (ok:=ok) hy).2
   .obtain⟨y,hy,hy'⟩:=hg j u hu;have:c=y:=by rw[hc]at hy';simpa using hy'
    subst this;exact(Kz hy).1
 .rename_i vs;split at h
  .rename_i hs;cases h;have:vs=#[]:=A0E.1 hs;subst this;simp[PV,Cg]
  .cases h
 .exact(Kz h).1
section
variable {E:Env}
theorem D4 {fr:Fr} {a:Act} (hf:FR E fr a.tmps) {x:Operand} {y:Opd} (h:D3 x=some y):VR E (get fr y) (a.eval x):=by
 cases x with
 |tmp t=>simp[D3]at h;subst h;exact hf.val t
 |const v =>
  simp only[D3]at h;cases hc:Pl v with
  |none=>simp[hc]at h
  |some av=>simp[hc]at h;subst h;exact Du _ _ (EN hc)
 |global g=>simp[D3]at h
 |func f=>simp[D3]at h;subst h;simp[get,Act.eval,VR,Au]
theorem Nr {fr:Fr} {a:Act} (hf:FR E fr a.tmps) {xs:Array Operand} {ys:List Opd} (h:It D3 xs.toList=some ys):Au E (ys.map (get fr)) (xs.map a.eval).toList:=by
 obtain⟨hl,hg⟩:=Ps h;refine SI (by simpa using hl.symm) λj c u hc hu=>?_;simp only[Array.toList_map,List.getElem?_map]at hc hu;cases hx:xs.toList[j]? with
 |none=>simp[hx]at hu
 |some x =>
  obtain⟨y,hy,hy'⟩:=hg j x hx;simp[hx]at hu;simp[hy']at hc;subst hu;subst hc;exact D4 hf hy
theorem ql {x:AV} {v:Value} (h:VR E x v) (ht:x.isTup=false) (ha:∀cs,x≠.agg cs):v.oneCell'=true/\v.cells=#[v]:=by
 cases x<;>simp only[VR,PV]at h
 case agg cs=>exact absurd rfl (ha cs)
 case tup=>simp[AV.isTup]at ht
 case junk=>refine⟨h,?_⟩;cases v<;>simp_all [Value.oneCell',Value.cells]
 case vs=>obtain⟨a,len,cap,rfl,_⟩:=h;exact⟨rfl,rfl⟩
 case sl=>obtain⟨a,cap,f,rfl,_⟩:=h;exact⟨rfl,rfl⟩
 case pv=>obtain⟨b,o,rfl,_⟩:=h;exact⟨rfl,rfl⟩
 case ep=>obtain⟨b,o,f,rfl,_⟩:=h;exact⟨rfl,rfl⟩
 case ptr=>obtain⟨_,rfl⟩:=h;exact⟨rfl,rfl⟩
 case mp=>obtain⟨_,rfl⟩:=h;exact⟨rfl,rfl⟩
 case vm=>obtain⟨b,es,clk,rfl,_⟩:=h;exact⟨rfl,rfl⟩
 case fn=>obtain⟨us,rfl,_⟩:=h;exact⟨rfl,rfl⟩
 all_goals (subst h;exact⟨rfl,rfl⟩)
theorem Og {x:AV} {v:Value} (h:VR E x v) (ht:x.isTup=false):Au E x.cells v.cells.toList/\∀u∈v.cells.toList,u.oneCell'=true:=by
 by_cases ha:∃cs,x=.agg cs
 .obtain⟨cs,rfl⟩:=ha;simp only[VR]at h;obtain⟨us,rfl,h1,h2⟩:=h;exact⟨h2,h1⟩
 .have ha':∀cs,x≠.agg cs:=λcs e=>ha ⟨cs,e⟩;obtain⟨h1,h2⟩:=ql h ht ha';have hc:x.cells=[x]:=by cases x<;>first|rfl|exact absurd rfl (ha' _)
  rw[hc,h2];exact⟨by simp[Au,h],by simpa using h1⟩
theorem CC {i n sz c:Nat} (hi:i<n) (hc:c<sz):i*sz+c<n*sz:=by
 have:(i+1)*sz<=n*sz:=Nat.mul_le_mul_right _ hi;rw[Nat.succ_mul]at this;omega
theorem wP (hS:SR E) {k n off len:Nat} {v:Value} {f:Fam} (hv:VR E (.sl k n off len) v) (hf:E.h.fams[k]?=some f) (hn:f.xs.length=n) (ho:off+len<=n)
  {ok':Nat->Nat->Prop} (Cq:∀b o,E.ok b o->ok' b o) (hown:f.wr=true->∀b o,E.base<=b->b<E.w.heap.size->ok' b o) :
  PV E.w ok' (.vs false f.sz ((f.xs.drop off).take len)) v:=by
 simp only[VR]at hv;obtain⟨a,cap,f',rfl,hf',NF,hc⟩:=hv;have:f'=f:=by rw[hf]at hf';simpa using hf'.symm
 subst this;obtain⟨h1,h2,h3,h4,h5⟩:=hc hn;have hF:=hS.fams k f' hf;have hk:=(A0A.1 hf).1;have hb:=hS.im_lt hk;have AY:=hF.room;have hcap:=hF.cap;have B8:((f'.xs.drop off).take len).length=len:=by simp;omega
 simp only[PV];refine⟨a,len,cap,rfl,B8.symm,by omega,by omega,by simp,⟨λe=>absurd e h4,⟨λe=>absurd e h4,λe=>absurd hF.sz (by omega)⟩⟩,λP1=>?_⟩;have K1:0<len:=by
  rcases Nat.eq_zero_or_pos len with h0|h0
  .subst h0;simp at P1
  .exact h0
 refine⟨_,_,h5 (by omega),hF.sz,Tb λj x hx=>?_⟩;have hj:j<len:=by have:=(A0A.1 hx).1;omega
 have hx':f'.xs[off+j]?=some x:=by
  rw[A0D,if_pos hj,A0C]at hx;exact hx
 obtain⟨cur,t,c1,c2,c3⟩:=hF.cells;obtain⟨e1,e2⟩:=c3 (off+j) x (by omega) hx';have epos:(E.im k).o+(off+j-(E.im k).lo)*f'.sz=(E.im k).o+(off-(E.im k).lo)*f'.sz+j*f'.sz:=by
  rw[show off+j-(E.im k).lo=(off-(E.im k).lo)+j from by omega,A0J];omega
 refine⟨e1,Mx λc y hy=>?_⟩;obtain⟨u,u1,u2,u3⟩:=e2 c y hy;have KE:c<f'.sz:=by have:=(A0A.1 hy).1;omega
 rw[epos]at u1;refine⟨u,?_,?_,u2,Co (λb o h=>⟨Cq b o h,Ig.refl _ _ _⟩) _ _ u3⟩
 .cases hw:f'.wr with
  |true=>exact hown hw _ _ hb.1 hb.2
  |false =>
   refine Cq _ _ (.inr ⟨hb.1,hb.2,λi hi e=>absurd e (hS.sep i k hi hk),λk' g Dd he=>?_⟩);have hk'':=(A0A.1 Dd).1;have:=hS.injf k' k hk'' hk he;subst this;have:g=f':=by rw[hf]at Dd;simpa using Dd.symm
   subst this;refine⟨hw,?_⟩;rw[←epos,A0P];exact Nat.add_lt_add_left (CC (by omega) KE) _
 .rw[cell_of_row _ _ _ _ _ _ c1];exact u1
theorem Tf {x:AV} {v:Value} (h:VR E x v) (hf:x.flat=true):PV E.w E.ok x v:=by
 cases x<;>simp only[VR]at h<;>first|exact h|(simp[AV.flat]at hf;done)|skip
 all_goals simp only[PV]
 all_goals first
  |exact h
  |skip
 case fn f caps =>
  obtain⟨us,rfl,hu⟩:=h;have hc:caps=[]:=by simpa[AV.flat]using hf
  subst hc;refine⟨us,rfl,?_⟩;simpa[Au,Cg]using hu
def jp (E:Env) (am:Bool) (ok':Nat->Nat->Prop):Prop:=(∀b o,E.ok b o->ok' b o)/\(am=true->∀b o,E.base<=b->b<E.w.heap.size->ok' b o)
theorem UP (hS:SR E) {am:Bool} {ok':Nat->Nat->Prop} (Cq:jp E am ok') {x y:AV} {v:Value} (hv:VR E x v) (h:Dy E.h am x=some y):PV E.w ok' y v/\(v.oneCell'=true->True)/\y.isTup=false:=by
 have up:∀{z:AV} {u:Value},PV E.w E.ok z u->PV E.w ok' z u:=λhz=>Co (λb o h=>⟨Cq.1 b o h,Ig.refl _ _ _⟩) _ _ hz;cases x<;>simp only[Dy]at h
 case sl k n off len =>
  split at h
  .rename_i f hf;split at h
   .rename_i hc;cases h;refine⟨wP hS hv hf hc.1 hc.2.1 Cq.1 (λhw=>Cq.2 ?_),λ_=>trivial,rfl⟩;have:=hc.2.2;simpa[hw]using this
   .cases h
  .cases h
 case ep=>cases h
 case ptr=>cases h
 case agg=>cases h
 case tup=>cases h
 case mbox=>cases h
 case rbox=>cases h
 case mp b =>
  split at h
  .rename_i ks vs hb;split at h
   .rename_i ham;cases h;simp only[VR]at hv;obtain⟨A7,rfl⟩:=hv;obtain⟨es,clk,h1,h2,h3⟩:=(hS.boxes b _ hb).map;have i7:=hS.nb_lt A7;refine⟨?_,λ_=>trivial,rfl⟩;simp only[PV];exact⟨E.nb b,es,clk,rfl,Cq.2 ham _ _ i7.1 i7.2,h1,Y0 (λb o h=>⟨Cq.1 b o h,Ig.refl _ _ _⟩) _ _ h2,Y0 (λb o h=>⟨Cq.1 b o h,Ig.refl _ _ _⟩) _ _ h3⟩
   .cases h
  .cases h
 case fn f caps =>
  split at h
  .rename_i hc;cases h;refine⟨?_,λ_=>trivial,rfl⟩;simp only[VR]at hv;obtain⟨us,rfl,hu⟩:=hv;obtain⟨hl,hg⟩:=Gw hu;simp only[PV];refine⟨us,rfl,SE hl λj c u hc' hu'=>?_⟩;obtain⟨u',h1,h2⟩:=hg hc';have:u'=u:=by rw[hu']at h1;simpa using h1.symm
   subst this;exact up (Tf h2 ((List.all_eq_true.1 hc) c (A0F hc')))
  .cases h
 all_goals (cases h;exact⟨up (Tf hv rfl),λ_=>trivial,rfl⟩)
theorem UQ (hS:SR E) {am:Bool} {ok':Nat->Nat->Prop} (Cq:jp E am ok'):∀{xs ys:G1} {us:List Value},Au E xs us->Qi E.h am xs=some ys->Cg E.w ok' ys us
 | [],ys,us,hv,h=>by simp[Qi]at h;subst h;simpa[Au,Cg]using hv
 |x::xs,ys,us,hv,h=>by
  simp only[Qi,A0I,A0B]at h;obtain⟨y,hy,ys',Ti,rfl⟩:=h;simp only[Au]at hv;obtain⟨u,us',rfl,h1,h2⟩:=hv;simp only[Cg];exact⟨u,us',rfl,(UP hS Cq h1 hy).1,UQ hS Cq h2 Ti⟩
theorem Ks (hS:SR E) {am:Bool} {ok':Nat->Nat->Prop} (Cq:jp E am ok') {x y:AV} {v:Value} (hv:VR E x v) (h:JW E.h am x=some y):PV E.w ok' y v/\y.isTup=false:=by
 unfold JW at h;split at h
 .rename_i cs;simp only[A0B]at h;obtain⟨ys,Ti,rfl⟩:=h;simp only[VR]at hv;obtain⟨us,rfl,h1,h2⟩:=hv;simp only[PV];exact⟨⟨us,rfl,h1,UQ hS Cq h2 Ti⟩,rfl⟩
 .have:=UP hS Cq hv h;exact⟨this.1,this.2.2⟩
theorem Kb (hS:SR E) {am:Bool} {ok':Nat->Nat->Prop} (Cq:jp E am ok'):∀{xs ys:G1} {us:List Value},Au E xs us->Ay E.h am xs=some ys->Cg E.w ok' ys us
 | [],ys,us,hv,h=>by simp[Ay]at h;subst h;simpa[Au,Cg]using hv
 |x::xs,ys,us,hv,h=>by
  simp only[Ay,A0I,A0B]at h;obtain⟨y,hy,ys',Ti,rfl⟩:=h;simp only[Au]at hv;obtain⟨u,us',rfl,h1,h2⟩:=hv;simp only[Cg];exact⟨u,us',rfl,(Ks hS Cq h1 hy).1,Kb hS Cq h2 Ti⟩
theorem Xm (hS:SR E) {ok':Nat->Nat->Prop} (Cq:jp E true ok') {x y:AV} {v:Value} (hv:VR E x v) (h:Cs E.h x=some y):PV E.w ok' y v:=by
 unfold Cs at h;split at h
 .rename_i vs;simp only[A0B]at h;obtain⟨ys,Ti,rfl⟩:=h;simp only[VR]at hv;obtain⟨us,rfl,h2⟩:=hv;simp only[PV];exact⟨us,rfl,Kb hS Cq h2 Ti⟩
 .exact(Ks hS Cq hv h).1
def NR (E:Env) (b o:Nat) (cs:List AV):Prop :=
 ∀(j:Nat) (c:AV),cs[j]?=some c->∃u,E.w.cell? ⟨b,o+j,none⟩=some u/\u.oneCell'=true/\VR E c u
theorem NR.drop {b o n:Nat} {cs:G1} (h:NR E b o cs):NR E b (o+n) (cs.drop n):=by
 intro j c hc;rw[A0C]at hc;have:=h (n+j) c hc
 rwa [show o+(n+j)=o+n+j from by omega]at this
theorem Ry {b o:Nat} {cs:G1} (h:GH E.w E.ok b o cs):NR E b o cs:=by
 intro j c hc;obtain⟨u,_,h2,h3,h4⟩:=Ip h hc;exact⟨u,h2,h3,Du _ _ h4⟩
theorem TA (hS:SR E) {agg:Bool} {n:Nat} {x r:AV} {v:Value} (hv:VR E x v) (h:Hs E.h agg n x=some r) :
  ∃b o cs,v=.pointer (some ⟨b,o,none⟩)/\NR E b o cs/\s9 agg n cs=some r:=by
 cases x<;>simp only[Hs]at h<;>try (cases h;done)
 case pv cs =>
  simp only[VR,PV]at hv;obtain⟨b,o,rfl,hc⟩:=hv;exact⟨b,o,cs,rfl,Ry hc,h⟩
 case ptr b off =>
  split at h
  .rename_i cs KE;simp only[VR]at hv;obtain⟨_,rfl⟩:=hv;by_cases hmb1:EA cs=true
   .rw[if_pos hmb1]at h;unfold po at h;split at h
    .rename_i ys;obtain⟨_,hb⟩:=hS.boxes b _ KE;rcases hb with ⟨cur,t,h2,h3,h4⟩|⟨ks,vs,es,clk,e,_⟩|⟨ys',cur,t,e,h2,h3,h4⟩
     .exfalso
      simp only[Au,VR,false_and,and_false,exists_false]at h3
     .cases e
     .cases e;refine⟨E.nb b,0+off,ys.drop off,by simp,NR.drop ?_,h⟩;obtain⟨hl,hg⟩:=Hk h3;intro j c hc;obtain⟨u,h5,h6⟩:=hg hc;refine⟨u,?_,h4 u (A0F h5),Du _ _ h6⟩;rw[A0Q,cell_of_row _ _ _ _ _ _ h2];simpa using h5
    .cases h
   have hmb:EA cs=false:=by simpa using hmb1
   rw[hmb,if_neg (by simp)]at h;obtain⟨cur,t,h2,h3,h4⟩:=(hS.boxes b cs KE).row hmb;refine⟨E.nb b,0+off,cs.drop off,by simp,NR.drop ?_,h⟩;obtain⟨hl,hg⟩:=Gw h3;intro j c hc;obtain⟨u,h5,h6⟩:=hg hc;refine⟨u,?_,h4 u (A0F h5),h6⟩;rw[A0Q,cell_of_row _ _ _ _ _ _ h2];simpa using h5
  .cases h
 case ep k m i c sz =>
  split at h
  .rename_i f hf;split at h
   .rename_i hm;split at h
    .rename_i y hy;simp only[VR]at hv;obtain⟨b,o,f',rfl,hf',_,hc⟩:=hv;have:f'=f:=by rw[hf]at hf';simpa using hf'.symm
     subst this;obtain⟨Ql,hbo⟩:=hc hm;rw[hbo];obtain⟨cur,t,c1,c2,c3⟩:=(hS.fams k f' hf).cells;obtain⟨e1,e2⟩:=c3 i y Ql hy;refine⟨_,_,y.cells.drop c,rfl,NR.drop ?_,h⟩;intro j z hz;obtain⟨u,u1,u2,u3⟩:=e2 j z hz;exact⟨u,by rw[cell_of_row _ _ _ _ _ _ c1];exact u1,u2,Du _ _ u3⟩
    .cases h
   .cases h
  .cases h
theorem Dw (b o j:Nat):(⟨b,o,none⟩:Addr).add j=⟨b,o+j,none⟩:=by unfold Addr.add;split<;>simp_all
theorem PP {P:Program} {t:TypeId} {agg:Bool} {n b o:Nat} {cs:G1} {r:AV} (hc:NR E b o cs) (h:s9 agg n cs=some r)
  (ha:Program.agg? P t=some agg) (hn:Program.size? P t=some n):∃v,(loadVar t ⟨b,o,none⟩).run P E.w=.ok v E.w/\VR E r v:=by
 have hisAgg:(isAgg t).run P E.w=.ok agg E.w:=by
  unfold Program.agg? at ha;unfold isAgg underlying;split at ha<;>simp_all
 have WZ:(sizeOf t).run P E.w=.ok n E.w:=by
  unfold Program.size? at hn;unfold sizeOf typeInfo;simp only[A0B]at hn;obtain⟨i,hi,rfl⟩:=hn;simp[hi]
 cases agg with
 |true =>
  simp only[s9]at h;split at h
  .rename_i NF;cases h;have hex:∀j,j<n->∃u,E.w.cell? ⟨b,o+j,none⟩=some u/\u.oneCell'=true/\VR E (cs.getD j default) u:=by
    intro j hj;have hj':cs[j]?=some (cs.getD j default):=by simp[A0L,List.getElem?_eq_getElem (show j<cs.length by omega)]
    exact hc j _ hj'
   have hpick:∃g:Nat->Value,∀j,j<n->E.w.cell? ⟨b,o+j,none⟩=some (g j)/\(g j).oneCell'=true/\VR E (cs.getD j default) (g j):=by
    refine⟨λj=>if hj:j<n then Classical.choose (hex j hj)else default,λj hj=>?_⟩
    simp only[hj,dif_pos];exact Classical.choose_spec (hex j hj)
   obtain⟨g,hg⟩:=hpick;have hl:=run_loadCells (P:=P) E.w ⟨b,o,none⟩ n g (λj hj=>by rw[Dw];exact(hg j hj).1);refine⟨.agg (List.map g (List.range n)).toArray,?_,?_⟩
   .unfold loadVar;simp only[Sem.run_bind,hisAgg,Result.andThen_ok,if_true,WZ,hl,Sem.run_pure]
   .simp only[VR];refine⟨_,rfl,λu hu=>?_,SI (by simp;omega) λj c u hc' hu=>?_⟩
    .simp at hu;obtain⟨j,hj,rfl⟩:=hu;exact(hg j hj).2.1
    .have hj:j<n:=by have:=(A0A.1 hc').1;simp at this;omega
     rw[A0D,if_pos hj]at hc';have e1:u=g j:=by simpa[hj]using hu.symm
     have e2:cs.getD j default=c:=by simp[A0L,hc']
     rw[e1,←e2];exact(hg j hj).2.2
  .cases h
 |false =>
  simp only[s9]at h;have h0:cs[0]?=some r:=by rw[←h];cases cs<;>rfl
  obtain⟨u,h1,_,h3⟩:=hc 0 r h0;refine⟨u,?_,h3⟩;unfold loadVar;simp only[Sem.run_bind,hisAgg,Result.andThen_ok,A0G,if_false];simp at h1;simp[h1]
end
section
variable {E:Env} {P:Program} {fr:Fr} {a:Act}
def Ch (P:Program) (a:Act) (o:Oper) (E:Env) (v:AV):Prop:=∃u,(execOp a.eval o).run P E.w=.ok (.value u) E.w/\VR E v u
theorem KC (k:IntKind) (n:Int):VR E (.int k n) (.int k n):=by simp[VR]
theorem RE (b:Bool):VR E (.bool b) (.bool b):=by simp[VR]
theorem cH (b:I3):VR E (.str b) (.string b):=by simp[VR]
theorem ZW (op:BinOp) (t:TypeId) (x y:Operand) (k k':IntKind) (i j:Int) (w:World):(eqGuard op t x y (.int k i) (.int k' j)).run P w=.ok () w:=by
 unfold eqGuard;cases op<;>simp
theorem ZX (op:BinOp) (t:TypeId) (x y:Operand) (i j:I3) (w:World):(eqGuard op t x y (.string i) (.string j)).run P w=.ok () w:=by
 unfold eqGuard;cases op<;>simp
theorem Xh (op:BinOp) (t:TypeId) (x y:Operand) (i j:Bool) (w:World):(eqGuard op t x y (.bool i) (.bool j)).run P w=.ok () w:=by
 unfold eqGuard;cases op<;>simp
theorem Vg {op:BinOp} {t:TypeId} {k k':IntKind} {i j:Int} {v:AV} (w:World) (h:G7 op (.int k i) (.int k' j)=some v) :
  ∃u,(binOp op t (.int k i) (.int k' j)).run P w=.ok u w/\VR E v u:=by
 cases op<;>simp only[G7]at h<;>try (cases h;done)
 case quo =>
  split at h
  .rename_i hk;cases h;obtain⟨rfl,hj⟩:=hk;refine⟨_,?_,KC _ _⟩;simp[binOp,Op.intDiv,hj]
  .cases h
 case rem =>
  split at h
  .rename_i hk;cases h;obtain⟨rfl,hj⟩:=hk;refine⟨_,?_,KC _ _⟩;simp[binOp,Op.intDiv,hj]
  .cases h
 case shl =>
  split at h
  .rename_i hk;cases h;refine⟨_,?_,KC _ _⟩;simp[binOp,Op.shift,show ¬j<0 from by omega]
  .cases h
 case shr =>
  split at h
  .rename_i hk;cases h;refine⟨_,?_,KC _ _⟩;simp[binOp,Op.shift,show ¬j<0 from by omega]
  .cases h
 all_goals
  split at h
  .rename_i hk;cases h;subst hk;first|(refine⟨_,?_,KC _ _⟩;simp[binOp,Op.intArith,Op.intBits];done)|(refine⟨_,?_,RE _⟩;simp[binOp,Op.intCmp];done)
  .cases h
theorem Vh {op:BinOp} {t:TypeId} {i j:I3} {v:AV} (w:World) (h:G7 op (.str i) (.str j)=some v) :
  ∃u,(binOp op t (.string i) (.string j)).run P w=.ok u w/\VR E v u:=by
 cases op<;>simp only[G7]at h<;>try (cases h;done)
 case add =>
  split at h
  .cases h
  .rename_i hk;cases h;refine⟨_,?_,cH _⟩;simp only[binOp,Op.stringOp,hk,if_false,Sem.run_pure]
 all_goals (cases h;refine⟨_,?_,RE _⟩;simp[binOp,Op.stringOp])
theorem gM {op:BinOp} {t:TypeId} {x y:AV} {v:AV} {xv yv:Value} (hx:VR E x xv) (hy:VR E y yv) (px py:Operand) (w:World) (h:G7 op x y=some v) :
  ∃u,(do eqGuard op t px py xv yv;binOp op t xv yv:Sem Value).run P w=.ok u w/\VR E v u:=by
 cases x<;>cases y<;>try (simp[G7]at h;done)
 .simp only[VR]at hx hy;subst hx;subst hy;obtain⟨u,h1,h2⟩:=Vg (E:=E) (P:=P) (t:=t) w h;exact⟨u,by simp[ZW,h1],h2⟩
 .simp only[VR]at hx hy;subst hx;subst hy;obtain⟨u,h1,h2⟩:=Vh (E:=E) (P:=P) (t:=t) w h;exact⟨u,by simp[ZX,h1],h2⟩
theorem M6 {t:TypeId} {d:TypeDesc} (h:P.underlying t=some d) (w:World):(underlying t).run P w=.ok d w:=by unfold underlying;simp[h]
theorem Gj {t:TypeId} {n:Nat} (h:Program.size? P t=some n) (w:World):(sizeOf t).run P w=.ok n w:=by
 unfold Program.size? at h;simp only[A0B]at h;obtain⟨i,hi,rfl⟩:=h;unfold sizeOf typeInfo;simp[hi]
theorem Xi {t:TypeId} (ht:P.underlying t=some .bool) (d:Nat) (i j:Bool) (w:World):(Op.equalIn (d+1) t (.bool i) (.bool j)).run P w=.ok (i == j) w:=by
 simp[Op.equalIn,M6 ht]
theorem gL {neg:Bool} {t:TypeId} {i j:Bool} (ht:P.underlying t=some .bool) (px py:Operand) (w:World) :
  (do eqGuard (if neg then .neq else .eql) t px py (.bool i) (.bool j);binOp (if neg then .neq else .eql) t (.bool i) (.bool j):Sem Value).run P w=.ok (.bool (if neg then !(i == j)else i == j)) w:=by
 have h:(Op.equal t (.bool i) (.bool j)).run P w=.ok (i == j) w:=Xi ht 9999 i j w;cases neg<;>simp only[if_true,if_false,A0G,Sem.run_bind,Xh,Result.andThen_ok,binOp,h,Sem.run_pure]
theorem Za {t e:TypeId} {ad:Option Addr} {len cap:Nat} (ht:P.underlying t=some (.slice e)) (d:Nat) (w:World):(Op.equalIn (d+1) t (.slice ad len cap) (.slice none 0 0)).run P w=.ok ad.isNone w:=by
 cases ad<;>simp[Op.equalIn,M6 ht]
theorem aN {neg:Bool} {t e:TypeId} {ad:Option Addr} {len cap:Nat} (ht:P.underlying t=some (.slice e)) (px py:Operand) (w:World) :
  (do eqGuard (if neg then .neq else .eql) t px py (.slice ad len cap) (.slice none 0 0);binOp (if neg then .neq else .eql) t (.slice ad len cap) (.slice none 0 0):Sem Value).run P w=.ok (.bool (if neg then !ad.isNone else ad.isNone)) w:=by
 have h:(Op.equal t (.slice ad len cap) (.slice none 0 0)).run P w=.ok ad.isNone w:=Za ht 9999 w;have g:(eqGuard (if neg then .neq else .eql) t px py (.slice ad len cap) (.slice none 0 0)).run P w=.ok () w:=by
  unfold eqGuard;cases neg<;>simp
 cases neg<;>simp only[if_true,if_false,A0G,Sem.run_bind,binOp,Sem.run_pure]at g⊢<;>simp only[g,Result.andThen_ok,h]
theorem U2 (hf:FR E fr a.tmps) {x:Option Operand} {y:Option Opd} (hr:HM x=some y) {r:Option Int} (h:J6 fr y=some r) :
  (r=none/\x.map a.eval=none)\/∃k i,r=some i/\x.map a.eval=some (.int k i):=by
 cases x with
 |none=>simp[HM]at hr;subst hr;simp[J6]at h;subst h;exact .inl ⟨rfl,rfl⟩
 |some x =>
  simp only[HM,A0B]at hr;obtain⟨z,hz,rfl⟩:=hr;have hv:=D4 hf hz;simp only[J6]at h;split at h
  .rename_i k i hg;cases h;rw[hg]at hv;simp only[VR]at hv;exact .inr ⟨k,i,rfl,by simp[hv]⟩
  .cases h
theorem Z4 {k:IntKind} {i:Int} {y:Nat} {code:Go.BoundsCode} (w:World) (h0:0<=i) (h1:i<=y):(Instr.sliceBound (.int k i) y code).run P w=.ok i.toNat w:=by
 unfold Instr.sliceBound;simp[asIntOf,h0,h1]
theorem JB {b:Bool} {len cap:Nat} {lo hi:Option Value} {l h:Option Int} (w:World) (hl:(l=none/\lo=none)\/∃k i,l=some i/\lo=some (.int k i)) (hh:(h=none/\hi=none)\/∃k i,h=some i/\hi=some (.int k i))
  (h0:0<=l.getD 0) (h1:l.getD 0<=h.getD len) (h2:h.getD len<=len) (hc:len<=cap) :
  (Instr.sliceBounds b len cap lo hi none).run P w=.ok ((l.getD 0).toNat,(h.getD len).toNat,cap) w:=by
 unfold Instr.sliceBounds;rcases hl with ⟨rfl,rfl⟩|⟨k,i,rfl,rfl⟩<;>rcases hh with ⟨rfl,rfl⟩|⟨k',j,rfl,rfl⟩<;>simp only[A0N,A0H]at h0 h1 h2 ⊢
 .simp
 .cases b<;>simp[Z4 w (show (0:Int)<=j by omega) (show j<=(cap:Int) by omega)]
 .simp[Z4 w h0 (show i<=(len:Int) by omega)]
 .have e:i<=((j.toNat:Nat):Int):=by omega
  cases b<;>simp[Z4 w (show (0:Int)<=j by omega) (show j<=(cap:Int) by omega),Z4 w h0 e]
theorem NO {b:Bool} {len cap:Nat} {lo hi mx:Option Value} {l h:Option Int} {m:Int} (w:World) (hl:(l=none/\lo=none)\/∃k i,l=some i/\lo=some (.int k i)) (hh:(h=none/\hi=none)\/∃k i,h=some i/\hi=some (.int k i))
  (hm:∃k,mx=some (.int k m)) (hs:h.isSome=true)
  (h0:0<=l.getD 0) (h1:l.getD 0<=h.getD len) (h2:h.getD len<=m) (hc:m<=cap) :
  (Instr.sliceBounds b len cap lo hi mx).run P w=.ok ((l.getD 0).toNat,(h.getD len).toNat,m.toNat) w:=by
 unfold Instr.sliceBounds;obtain⟨km,rfl⟩:=hm;rcases hh with ⟨rfl,rfl⟩|⟨k',j,rfl,rfl⟩
 .simp at hs
 simp only[A0H]at h1 h2 ⊢;have em:j<=((m.toNat:Nat):Int):=by omega
 rcases hl with ⟨rfl,rfl⟩|⟨k,i,rfl,rfl⟩<;>simp only[A0N,A0H]at h0 h1 ⊢
 .cases b<;>simp[Z4 w (show (0:Int)<=m by omega) hc,Z4 w (show (0:Int)<=j by omega) em]
 .have e:i<=((j.toNat:Nat):Int):=by omega
  cases b<;>simp[Z4 w (show (0:Int)<=m by omega) hc,Z4 w (show (0:Int)<=j by omega) em,Z4 w h0 e]
end
section
variable {E:Env} {P:Program} {fr:Fr} {a:Act} {o:Oper}
theorem qV {x:Operand} {y:Opd} (hf:FR E fr a.tmps) (ho:o.op=.move x\/o.op=.assign x) (hx:D3 x=some y):Ch P a o E (get fr y):=by
 refine⟨a.eval x,?_,D4 hf hx⟩;rcases ho with ho|ho<;>simp[execOp,ho]
theorem sM {c x y:Operand} {c' x' y':Opd} {t:Bool} (hf:FR E fr a.tmps) (ho:o.op=.pick c x y) (hc:D3 c=some c') (hx:D3 x=some x') (hy:D3 y=some y') (hg:get fr c'=.bool t) :
  Ch P a o E (if t then get fr x' else get fr y'):=by
 have h:=D4 hf hc;rw[hg]at h;simp only[VR]at h;refine⟨if t then a.eval x else a.eval y,?_,?_⟩
 .cases t<;>simp[execOp,ho,h,asBool]
 .cases t
  .exact D4 hf hy
  .exact D4 hf hx
theorem zC {t:TypeId} {x:Operand} {x':Opd} {b:Bool} {n:Nat} {v:AV} (hS:SR E) (hf:FR E fr a.tmps) (ho:o.op=.load t x) (hb:Program.agg? P t=some b) (hn:Program.size? P t=some n) (hx:D3 x=some x')
  (h:Hs E.h b n (get fr x')=some v):Ch P a o E v:=by
 obtain⟨bl,of,cs,e1,e2,e3⟩:=TA hS (D4 hf hx) h;obtain⟨u,h1,h2⟩:=PP (P:=P) e2 e3 hb hn;exact⟨u,by simp[execOp,ho,Instr.loadAt,Instr.sureAddr,e1,h1],h2⟩
theorem pi {x:Operand} {x':Opd} {v:AV} (hf:FR E fr a.tmps) (ho:o.op=.nilCheck x) (hx:D3 x=some x')
  (h:(match get fr x' with | .pv cs=>some (AV.pv cs,E.h) | .ptr b o=>some (.ptr b o,E.h) | .ep k n i q s=>some (.ep k n i q s,E.h) | .fn f cs=>some (.fn f cs,E.h)|_=>none)=some (v,E.h)):Ch P a o E v:=by
 have hv:=D4 hf hx;refine⟨a.eval x,?_,?_⟩
 .split at h
  .rename_i hg;rw[hg]at hv;simp only[VR,PV]at hv;obtain⟨b,o',e,_⟩:=hv;simp[execOp,ho,e]
  .rename_i hg;rw[hg]at hv;simp only[VR]at hv;obtain⟨_,e⟩:=hv;simp[execOp,ho,e]
  .rename_i hg;rw[hg]at hv;simp only[VR]at hv;obtain⟨a',o',f,e,_⟩:=hv;simp[execOp,ho,e]
  .rename_i hg;rw[hg]at hv;simp only[VR]at hv;obtain⟨us,e,_⟩:=hv;simp[execOp,ho,e]
  .cases h
 .split at h<;>first|(cases h;done)|(rename_i hg;rw[hg]at hv;simp at h;rw[←h];exact hv)
theorem wC {op:BinOp} {t t':TypeId} {x y:Operand} {x' y':Opd} {v:AV} (hf:FR E fr a.tmps) (ho:o.op=.binOp op t x y t') (hx:D3 x=some x') (hy:D3 y=some y')
  (h:G7 op (get fr x') (get fr y')=some v):Ch P a o E v:=by
 obtain⟨u,h1,h2⟩:=gM (P:=P) (t:=t) (D4 hf hx) (D4 hf hy) x y E.w h;refine⟨u,?_,h2⟩;simp only[execOp,ho,Sem.run_bind]at h1 ⊢;rw[h1];rfl
theorem qU {neg:Bool} {t t':TypeId} {x y:Operand} {x' y':Opd} {i j:Bool} (hf:FR E fr a.tmps) (ho:o.op=.binOp (if neg then .neq else .eql) t x y t') (ht:P.underlying t=some .bool) (hx:D3 x=some x') (hy:D3 y=some y')
  (hi:get fr x'=.bool i) (hj:get fr y'=.bool j):Ch P a o E (.bool (if neg then !(i == j)else i == j)):=by
 have e1:=D4 hf hx;have e2:=D4 hf hy;rw[hi]at e1;rw[hj]at e2;simp only[VR]at e1 e2;refine⟨_,?_,RE _⟩;have h:=gL (neg:=neg) (i:=i) (j:=j) ht x y E.w;simp only[execOp,ho,Sem.run_bind,e1,e2]at h ⊢;rw[h];rfl
theorem fa {neg:Bool} {t e t':TypeId} {x y:Operand} {x':Opd} {full:Bool} {z:Nat} {xs:G1} (hf:FR E fr a.tmps) (ho:o.op=.binOp (if neg then .neq else .eql) t x y t') (ht:P.underlying t=some (.slice e)) (hx:D3 x=some x') (hy:D3 y=some (.c (.vs true 0 [])))
  (hi:get fr x'=.vs full z xs):Ch P a o E (.bool (if neg then !(z == 0)else z == 0)):=by
 have e1:=D4 hf hx;have e2:=D4 hf hy;rw[hi]at e1;simp only[get,VR,PV]at e1 e2;obtain⟨ad,len,cap,e3,e4,e5,e6,e7,e8,e9⟩:=e1;obtain⟨ad',len',cap',k3,k4,k5,k6,k7,k8,k9⟩:=e2;obtain rfl:ad'=none:=k8.2.2 trivial;obtain rfl:len'=0:=k4;obtain rfl:cap'=0:=k8.1 rfl;refine⟨_,?_,RE _⟩;have h:=aN (neg:=neg) (ad:=ad) (len:=len) (cap:=cap) ht x y E.w;have hz:ad.isNone=(z == 0):=by
  cases ad with
  |none=>simp[e8.2.1 rfl]
  |some a =>
        have:z≠0:=λhz=>by have:=e8.2.2 hz;cases this
        simp[this]
 rw[hz]at h;simp only[execOp,ho,Sem.run_bind,e3,k3]at h ⊢;rw[h];rfl
theorem zD {op:UnOp} {t:TypeId} {x:Operand} {x':Opd} {v:AV} (hf:FR E fr a.tmps) (ho:o.op=.unOp op t x) (hx:D3 x=some x') (h:Qe op (get fr x')=some v):Ch P a o E v:=by
 have hv:=D4 hf hx;generalize get fr x'=y at h hv;cases y<;>cases op<;>simp only[Qe]at h<;>cases h
 .simp only[VR]at hv;refine⟨_,?_,RE _⟩;simp only[execOp,ho,hv,Op.unary,Sem.run_bind,Sem.run_pure,Result.andThen_ok]
 .simp only[VR]at hv;refine⟨_,?_,KC _ _⟩;simp only[execOp,ho,hv,Op.unary,Op.intArith,Sem.run_bind,Sem.run_pure,Result.andThen_ok]
theorem sK {s d:TypeId} {k k0:IntKind} {x:Operand} {x':Opd} {q:IntKind} {n:Int} (hf:FR E fr a.tmps) (ho:o.op=.convert s d x) (hs:P.underlying s=some (.int k0)) (hd:P.underlying d=some (.int k)) (hx:D3 x=some x')
  (hg:get fr x'=.int q n):Ch P a o E (.int k (k.wrap n)):=by
 have hv:=D4 hf hx;rw[hg]at hv;simp only[VR]at hv;exact⟨_,by simp[execOp,ho,convert,M6 hs,M6 hd,hv,Conv.intToInt],KC _ _⟩
theorem sL {s d:TypeId} {x:Operand} {x':Opd} {n:I3} (hf:FR E fr a.tmps) (ho:o.op=.convert s d x) (hs:P.underlying s=some .string) (hd:P.underlying d=some .string) (hx:D3 x=some x')
  (hg:get fr x'=.str n):Ch P a o E (.str n):=by
 have hv:=D4 hf hx;rw[hg]at hv;simp only[VR]at hv;exact⟨_,by simp[execOp,ho,convert,M6 hs,M6 hd,hv],cH _⟩
theorem sJ {f:FuncId} {first caps:Array Operand} {cs:List Opd} (hf:FR E fr a.tmps) (ho:o.op=.makeFunc (.func f) first caps) (h0:first.size=0) (hc:It D3 caps.toList=some cs) :
  Ch P a o E (.fn f (cs.map (get fr))):=by
 have:first=#[]:=A0E.1 h0
 subst this;refine⟨.func (.func f) #[] (caps.map a.eval),by simp[execOp,ho,Instr.makeFunc],?_⟩;simp only[VR];exact⟨_,rfl,Nr hf hc⟩
theorem pg {s:TypeId} {x:Operand} {x':Opd} {i n:Nat} {fs:Array Field} {f:Field} {v:AV} (hf:FR E fr a.tmps) (ho:o.op=.fieldAddr s x i) (hs:P.underlying s=some (.struct fs)) (hi:fs[i]?=some f)
  (hn:Program.size? P f.type=some n) (K1:0<n) (hx:D3 x=some x')
  (h:(match get fr x' with | .pv cs=>some (AV.pv (cs.drop f.offset),E.h) | .ptr b o=>some (.ptr b (o+f.offset),E.h) | .ep k n i q s=>some (.ep k n i (q+f.offset) s,E.h)|_=>none)=some (v,E.h)):Ch P a o E v:=by
 have hv:=D4 hf hx;have hp:∀b q,(fieldPlace ⟨b,q,none⟩ f).run P E.w=.ok ⟨b,q+f.offset,none⟩ E.w:=by
  intro b q;unfold fieldPlace;simp[Gj hn,show ¬n=0 from by omega,Dw]
 split at h
 .rename_i cs hg;rw[hg]at hv;simp only[VR,PV]at hv;obtain⟨b,q,e,hc⟩:=hv;simp at h;subst h;refine⟨.pointer (some ⟨b,q+f.offset,none⟩),by simp[execOp,ho,Instr.fieldAt,M6 hs,hi,e,Instr.sureAddr,hp],?_⟩;simp only[VR,PV];refine⟨b,q+f.offset,rfl,Mx λj c hc'=>?_⟩;rw[A0C]at hc';have:=Ip hc hc'
  rwa [show q+(f.offset+j)=q+f.offset+j from by omega]at this
 .rename_i b q hg;rw[hg]at hv;simp only[VR]at hv;obtain⟨hb,e⟩:=hv;simp at h;subst h;exact⟨.pointer (some ⟨E.nb b,q+f.offset,none⟩),by simp[execOp,ho,Instr.fieldAt,M6 hs,hi,e,Instr.sureAddr,hp],by simp only[VR];exact⟨hb,trivial⟩⟩
 .rename_i k m j q sz hg;rw[hg]at hv;simp only[VR]at hv;obtain⟨b,q',g,e,hg1,hg2,hg3⟩:=hv;simp at h;subst h;refine⟨.pointer (some ⟨b,q'+f.offset,none⟩),by simp[execOp,ho,Instr.fieldAt,M6 hs,hi,e,Instr.sureAddr,hp],?_⟩;simp only[VR];refine⟨b,_,g,rfl,hg1,hg2,λhm=>?_⟩;obtain⟨h1,h2⟩:=hg3 hm;simp only[Addr.mk.injEq]at h2 ⊢;exact⟨h1,h2.1,by omega,trivial⟩
 .cases h
theorem fd {t:TypeId} {b:Bool} (ha:Program.agg? P t=some b) (w:World):(isAgg t).run P w=.ok b w:=by
 unfold Program.agg? at ha;unfold isAgg underlying;split at ha<;>simp_all
theorem nL {cs:G1} {us:Array Value} {off n:Nat} (h:Au E cs us.toList) (h1:∀u∈us.toList,u.oneCell'=true) {b:Bool} {v:AV} (hv:s9 b n (cs.drop off)=some v) :
  (b=true->VR E v (.agg (us.extract off (off+n))))/\(b=false->∃u,us[off]?=some u/\VR E v u):=by
 obtain⟨hl,hg⟩:=Gw h;cases b with
 |true =>
  refine⟨λ_=>?_,λh=>by cases h⟩;simp only[s9]at hv;split at hv
  .rename_i NF;cases hv;simp only[VR];have B8:us.size=cs.length:=by simpa using hl
   simp at NF;refine⟨_,rfl,λu hu=>h1 u ?_,SI (by simp;omega) λj c u hc hu=>?_⟩
   .rw[A0K]at hu;exact List.mem_of_mem_drop (List.mem_of_mem_take hu)
   .have hj:j<n:=by have:=(A0A.1 hc).1;simp at this;omega
    rw[A0D,if_pos hj,A0C]at hc;obtain⟨u',h2,h3⟩:=hg hc;have:u=u':=by
     have h4:us.toList[off+j]?=some u:=by
      simp only[A0K,List.extract_eq_take_drop,A0D,A0C]at hu;split at hu
      .exact hu
      .cases hu
     rw[h4]at h2;simpa using h2
    subst this;exact h3
  .cases hv
 |false =>
  refine⟨λh=>by (cases h),λ_=>?_⟩;simp only[s9]at hv;have h0:cs[off]?=some v:=by rw[←hv,List.head?_drop]
  obtain⟨u,h2,h3⟩:=hg h0;exact⟨u,by simpa using h2,h3⟩
theorem wE {s:TypeId} {x:Operand} {x':Opd} {i n:Nat} {fs:Array Field} {f:Field} {b:Bool} {cs:G1} {v:AV} (hf:FR E fr a.tmps) (ho:o.op=.field s x i) (hs:P.underlying s=some (.struct fs)) (hi:fs[i]?=some f)
  (hb:Program.agg? P f.type=some b) (hn:Program.size? P f.type=some n) (hx:D3 x=some x') (hg:get fr x'=.agg cs) (h:s9 b n (cs.drop f.offset)=some v):Ch P a o E v:=by
 have hv:=D4 hf hx;rw[hg]at hv;simp only[VR]at hv;obtain⟨us,e,h1,h2⟩:=hv;obtain⟨t1,t2⟩:=nL h2 h1 h;cases b with
 |true=>exact⟨_,by simp[execOp,ho,Instr.field,M6 hs,hi,e,asAgg,part,fd hb,Gj hn],t1 rfl⟩
 |false =>
  obtain⟨u,h3,h4⟩:=t2 rfl;exact⟨u,by simp[execOp,ho,Instr.field,M6 hs,hi,e,asAgg,part,fd hb,h3],h4⟩
theorem ph {t e:TypeId} {x i:Operand} {x' i':Opd} {n:Nat} {v:AV} (hS:SR E) (hf:FR E fr a.tmps) (ho:o.op=.indexAddr t x i) (ht:P.underlying t=some (.slice e)) (hn:Program.size? P e=some n)
  (hx:D3 x=some x') (hi:D3 i=some i')
  (h:(match get fr x',get fr i' with
   | .vs _ z xs,.int _ j=>if 0<=j/\z=n then (match xs[j.toNat]? with|some e=>some (AV.pv e.cells,E.h)|none=>none)else none
   | .sl k m off len,.int _ j=>if 0<=j/\j<len then some (.ep k m (off+j.toNat) 0 n,E.h)else none
   |_,_=>none)=some (v,E.h)):Ch P a o E v:=by
 have hv:=D4 hf hx;have hw:=D4 hf hi;split at h
 .rename_i full z xs q j hg hj;rw[hg]at hv;rw[hj]at hw;simp only[VR,PV]at hv hw;split at h
  .rename_i hc;split at h
   .rename_i el Rw;obtain⟨ad,len,cap,e1,e2,e3,e4,e5,e6,e7⟩:=hv;have A7:=(A0A.1 Rw).1;obtain⟨b,q',rfl,_,hels⟩:=e7 (by intro hn;subst hn;simp at A7);have hp:=Oc hels Rw;simp at h;subst h;have hjl:j<(len:Int):=by omega
    refine⟨.pointer (some ⟨b,q'+j.toNat*n,none⟩),?_,?_⟩
    .simp[execOp,ho,Instr.indexAt,hw,asIntOf,M6 ht,e1,hc.1,hjl,Gj hn,Dw]
    .simp only[VR,PV];rw[hc.2]at hp;exact⟨b,_,rfl,hp.2⟩
   .cases h
  .cases h
 .rename_i k m off len q j hg hj;rw[hg]at hv;rw[hj]at hw;simp only[VR]at hv hw;split at h
  .rename_i hc;obtain⟨hj0,hjl⟩:=hc;obtain⟨ad,cap,f',e1,e2,⟨e3,e5⟩,e4⟩:=hv;obtain⟨b,q',rfl⟩:=e5 (by omega);simp at h;subst h;refine⟨.pointer (some ⟨b,q'+j.toNat*n,none⟩),?_,?_⟩
   .simp[execOp,ho,Instr.indexAt,hw,asIntOf,M6 ht,e1,hj0,hjl,Gj hn,Dw]
   .simp only[VR];refine⟨_,_,f',rfl,e2,e3,λhm=>?_⟩;obtain⟨l1,l2,l3,l4,l5⟩:=e4 hm.1;have hF:=hS.fams k f' e2;have AY:=hF.room;have ead:=l5 (by omega);simp only[Option.some.injEq,Addr.mk.injEq]at ead;obtain⟨rfl,rfl,_⟩:=ead;refine⟨by omega,?_⟩;rw[←hm.2,Nat.add_zero,show off+j.toNat-(E.im k).lo=(off-(E.im k).lo)+j.toNat from by omega,A0J,←A0P]
  .cases h
 .cases h
theorem wG {t:TypeId} {x i:Operand} {x' i':Opd} {s:I3} {q:IntKind} {j:Int} {b:UInt8} (hf:FR E fr a.tmps) (ho:o.op=.index t x i) (ht:P.underlying t=some .string) (hx:D3 x=some x') (hi:D3 i=some i')
  (hg:get fr x'=.str s) (hj:get fr i'=.int q j) (h0:0<=j) (hb:s[j.toNat]?=some b):Ch P a o E (.int .u8 b.toNat):=by
 have hv:=D4 hf hx;have hw:=D4 hf hi;rw[hg]at hv;rw[hj]at hw;simp only[VR]at hv hw;exact⟨_,by simp[execOp,ho,Instr.index,hw,hv,asIntOf,M6 ht,h0,hb],KC _ _⟩
theorem wD {x:Operand} {x':Opd} {i:Nat} {vs:G1} {v:AV} (hf:FR E fr a.tmps) (ho:o.op=.extract x i) (hx:D3 x=some x') (hg:get fr x'=.tup vs) (h:vs[i]?=some v):Ch P a o E v:=by
 have hv:=D4 hf hx;rw[hg]at hv;simp only[VR]at hv;obtain⟨us,e,h2⟩:=hv;obtain⟨u,h3,h4⟩:=(Gw h2).2 h;have h3':us[i]?=some u:=by simpa using h3
 exact⟨u,by simp[execOp,ho,Instr.extract,e,h3'],h4⟩
end
section
variable {E:Env} {P:Program} {fr:Fr} {a:Act} {o:Oper}
theorem Td {α:Type} {aas:Array α} {x:α} (h:aas.toList=[x]):aas=#[x]:=by cases aas;simp_all
theorem XZ {α:Type} {aas:Array α} {x y:α} (h:aas.toList=[x,y]):aas=#[x,y]:=by cases aas;simp_all
theorem jJ {args:Array Operand} {ats:Array TypeId} {x:Operand} {t:TypeId} {x':Opd} {s:I3} (hf:FR E fr a.tmps) (ho:o.op=.call {callee:=.builtin .len,args:=args,argTypes:=ats}) (h1:args.toList=[x]) (h2:ats.toList=[t])
  (hts:P.underlying t=some .string) (hx:D3 x=some x') (hs:get fr x'=.str s):Ch P a o E (.int .i64 s.size):=by
 have hv:=D4 hf hx;rw[Td h1,Td h2]at ho;rw[hs]at hv;simp only[VR]at hv;exact⟨_,by simp[execOp,ho,resolve,invoke,builtin,Builtin.len_,hv,M6 hts,goInt],KC _ _⟩
theorem wH {args:Array Operand} {ats:Array TypeId} {x:Operand} {t e:TypeId} {x':Opd} {v:AV} (hf:FR E fr a.tmps) (ho:o.op=.call {callee:=.builtin .len,args:=args,argTypes:=ats}) (h1:args.toList=[x]) (h2:ats.toList=[t])
  (hts:P.underlying t=some (.slice e)) (hx:D3 x=some x')
  (h:(match get fr x' with | .vs _ _ xs=>some (AV.int .i64 xs.length,E.h) | .sl _ _ _ len=>some (.int .i64 len,E.h)|_=>none)=some (v,E.h)):Ch P a o E v:=by
 have hv:=D4 hf hx;rw[Td h1,Td h2]at ho;split at h
 .rename_i full z xs hg;rw[hg]at hv;simp only[VR,PV]at hv;obtain⟨ad,len,cap,e1,rfl,_⟩:=hv;simp at h;subst h;exact⟨_,by simp[execOp,ho,resolve,invoke,builtin,Builtin.len_,e1,M6 hts,goInt],KC _ _⟩
 .rename_i k n off len hg;rw[hg]at hv;simp only[VR]at hv;obtain⟨ad,cap,f,e1,_⟩:=hv;simp at h;subst h;exact⟨_,by simp[execOp,ho,resolve,invoke,builtin,Builtin.len_,e1,M6 hts,goInt],KC _ _⟩
 .cases h
theorem wI {args:Array Operand} {ats:Array TypeId} {x y:Operand} {x' y':Opd} {k k':IntKind} {i j:Int} (hf:FR E fr a.tmps) (ho:o.op=.call {callee:=.builtin .max,args:=args,argTypes:=ats}) (h1:args.toList=[x,y])
  (hx:D3 x=some x') (hy:D3 y=some y') (hi:get fr x'=.int k i) (hj:get fr y'=.int k' j):Ch P a o E (.int k (if j > i then j else i)):=by
 have e1:=D4 hf hx;have e2:=D4 hf hy;rw[hi]at e1;rw[hj]at e2;simp only[VR]at e1 e2;rw[XZ h1]at ho;exact⟨_,by simp[execOp,ho,resolve,invoke,builtin,Builtin.max_,Builtin.max2,e1,e2],KC _ _⟩
theorem jq {w:World} {ok:Nat->Nat->Prop} {sz b o:Nat} {xs:G1} (h:QF w ok sz b o xs) (l n:Nat):QF w ok sz b (o+l*sz) ((xs.drop l).take n):=by
 refine Tb λj x hx=>?_;have hj:(xs.drop l)[j]?=some x:=by
  rw[A0D]at hx;split at hx
  .exact hx
  .cases hx
 rw[A0C]at hj;have:=Oc h hj
 rwa [show o+(l+j)*sz=o+l*sz+j*sz from by rw[A0J];omega]at this
theorem mt {w:World} {ok:Nat->Nat->Prop} {full full':Bool} {z sz:Nat} {xs:G1} {ad:Option Addr} {len cap l h m:Nat} (hv:PV w ok (.vs full z xs) (.slice ad len cap)) (hz:z=sz\/xs.length=0)
  (h1:l<=h) (h2:h<=len) (h3:h<=m) (h4:m<=cap) (hfull:full'=true->m=h) :
  PV w ok (.vs full' z ((xs.drop l).take (h-l))) (.slice (if m=l then ad else ad.map (·.add (l*sz))) (h-l) (m-l)):=by
 simp only[PV]at hv ⊢;obtain⟨ad',len',cap',e,e2,e3,e4,e5,e6,e7⟩:=hv;obtain⟨rfl,rfl,rfl⟩:ad=ad'/\len=len'/\cap=cap':=by simpa using e
 refine⟨_,_,_,rfl,by simp;omega,by omega,by omega,λhf=>by rw[hfull hf],?_,λP1=>?_⟩
 .have tG:(if m=l then ad else ad.map (·.add (l*sz)))=none↔ad=none:=by split<;>simp
  refine⟨λhn=>?_,tG.trans e6.2⟩;have:=e6.1 (tG.1 hn);omega
 .have A7:l<h:=by
   rcases Nat.lt_or_ge l h with h' | h'
   .exact h'
   .exact absurd (by simp[show h-l=0 from by omega]) P1
  have tH:xs≠[]:=by intro hn;subst hn;simp at e2;omega
  obtain⟨b,q,rfl,hp,hels⟩:=e7 tH;rw[if_neg (by omega)];have UT:z=sz:=by
   rcases hz with hz|hz
   .exact hz
   .exact absurd (List.eq_nil_of_length_eq_zero hz) tH
  subst UT;exact⟨b,q+l*z,by simp[Dw],hp,jq hels l (h-l)⟩
theorem jK {t:TypeId} {x:Operand} {lo hi:Option Operand} {x':Opd} {lo' CW:Option Opd} {s:I3} {l u:Option Int} (hf:FR E fr a.tmps) (ho:o.op=.slice t x lo hi none) (ht:P.underlying t=some .string)
  (hx:D3 x=some x') (Ql:HM lo=some lo') (WY:HM hi=some CW) (hg:get fr x'=.str s) (hl:J6 fr lo'=some l) (hu:J6 fr CW=some u)
  (h0:0<=l.getD 0) (h1:l.getD 0<=u.getD s.size) (h2:u.getD s.size<=s.size):Ch P a o E (.str (s.extract (l.getD 0).toNat (u.getD s.size).toNat)):=by
 have hv:=D4 hf hx;rw[hg]at hv;simp only[VR]at hv;have hb:=JB (P:=P) (b:=false) E.w (U2 hf Ql hl) (U2 hf WY hu) h0 h1 h2 (A0M _);exact⟨_,by simp[execOp,ho,Instr.sliceAt,Instr.slice,M6 ht,hv,hb],cH _⟩
theorem bC {t e:TypeId} {x:Operand} {lo hi mx:Option Operand} {x':Opd} {lo' CW mx':Option Opd} {full full':Bool} {z n:Nat} {xs:G1} {l u m:Option Int} (hf:FR E fr a.tmps) (ho:o.op=.slice t x lo hi mx) (ht:P.underlying t=some (.slice e)) (hn:Program.size? P e=some n)
  (hx:D3 x=some x') (Ql:HM lo=some lo') (WY:HM hi=some CW) (hmx:HM mx=some mx') (hg:get fr x'=.vs full z xs) (hl:J6 fr lo'=some l) (hu:J6 fr CW=some u) (hm:J6 fr mx'=some m)
  (hz:z=n\/xs.length=0) (h0:0<=l.getD 0) (h1:l.getD 0<=u.getD xs.length)
  (hc:(m=none/\u.getD xs.length<=xs.length/\full'=(full&&decide (u.getD xs.length=xs.length)))\/(∃q,m=some q/\u.isSome=true/\u.getD xs.length<=q/\q<=xs.length/\full'=decide (q=u.getD xs.length))) :
  Ch P a o E (.vs full' z ((xs.drop (l.getD 0).toNat).take (u.getD xs.length-l.getD 0).toNat)):=by
 have hv:=D4 hf hx;rw[hg]at hv;simp only[VR]at hv;have hv':=hv;simp only[PV]at hv';obtain⟨ad,len,cap,e1,e2,e3,e4,e5,e6,e7⟩:=hv';rw[e1]at hv;subst e2;have etn:(u.getD xs.length-l.getD 0).toNat=(u.getD (xs.length:Int)).toNat-(l.getD 0).toNat:=by omega
 rw[etn];rcases hc with ⟨rfl,h2,hfull⟩|⟨q,rfl,hs,h2,h3,hfull⟩
 .have hmn:mx.map a.eval=none:=by
   rcases U2 hf hmx hm with ⟨_,h⟩|⟨k,i,h,_⟩
   .exact h
   .cases h
  have hb:=JB (P:=P) (b:=true) (cap:=cap) E.w (U2 hf Ql hl) (U2 hf WY hu) h0 h1 h2 e3;refine⟨_,by simp[execOp,ho,Instr.sliceAt,Instr.slice,M6 ht,e1,hmn,hb,Gj hn];rfl,?_⟩;simp only[VR];refine mt hv hz (by omega) (by omega) (by omega) (A0M _) λhf'=>?_;rw[hfull]at hf';simp at hf';have:=e5 hf'.1;omega
 .have hms:∃k,mx.map a.eval=some (.int k q):=by
   rcases U2 hf hmx hm with ⟨h,_⟩|⟨k,i,h,h'⟩
   .cases h
   .cases h;exact⟨k,h'⟩
  have hb:=NO (P:=P) (b:=true) (len:=xs.length) (cap:=cap) E.w (U2 hf Ql hl) (U2 hf WY hu) hms hs h0 h1 h2 (by omega);refine⟨_,by simp[execOp,ho,Instr.sliceAt,Instr.slice,M6 ht,e1,hb,Gj hn];rfl,?_⟩;simp only[VR];refine mt hv hz (by omega) (by omega) (by omega) (by omega) λhf'=>?_;rw[hfull]at hf';simp at hf';omega
theorem bB {t e:TypeId} {x:Operand} {lo hi mx:Option Operand} {x':Opd} {lo' CW mx':Option Opd} {n k m off len:Nat} {f:Fam} {l u q:Option Int} {v:AV} (hS:SR E) (hf:FR E fr a.tmps) (ho:o.op=.slice t x lo hi mx) (ht:P.underlying t=some (.slice e)) (hn:Program.size? P e=some n)
  (hx:D3 x=some x') (Ql:HM lo=some lo') (WY:HM hi=some CW) (hmx:HM mx=some mx') (hg:get fr x'=.sl k m off len) (hl:J6 fr lo'=some l) (hu:J6 fr CW=some u) (hm:J6 fr mx'=some q)
  (hfk:E.h.fams[k]?=some f) (hz:f.sz=n) (B8:f.xs.length=m)
  (hc:(q=none/\0<=l.getD 0/\l.getD 0<=u.getD len/\u.getD len<=len/\v=.sl k m (off+(l.getD 0).toNat) (u.getD len-l.getD 0).toNat)\/(q=some 0/\u.isSome=true/\l.getD 0=0/\u.getD len=0/\v=.vs true n [])) :
  Ch P a o E v:=by
 have hv:=D4 hf hx;rw[hg]at hv;simp only[VR]at hv;obtain⟨ad,cap,f',e1,e2,e3,e4⟩:=hv;have:f'=f:=by rw[hfk]at e2;simpa using e2.symm
 subst this;obtain⟨l1,l2,l3,l4,l5⟩:=e4 B8;have AY:=(hS.fams k f' hfk).room;rcases hc with ⟨rfl,h0,h1,h2,rfl⟩|⟨rfl,hs,h0,h1,rfl⟩
 .have hmn:mx.map a.eval=none:=by
   rcases U2 hf hmx hm with ⟨_,h⟩|⟨k,i,h,_⟩
   .exact h
   .cases h
  have hb:=JB (P:=P) (b:=true) (len:=len) (cap:=cap) E.w (U2 hf Ql hl) (U2 hf WY hu) h0 h1 h2 (by omega);have etn:(u.getD len-l.getD 0).toNat=(u.getD (len:Int)).toNat-(l.getD 0).toNat:=by omega
  rw[etn];refine⟨_,by simp[execOp,ho,Instr.sliceAt,Instr.slice,M6 ht,e1,hmn,hb,Gj hn];rfl,?_⟩;simp only[VR];refine⟨_,_,f',rfl,hfk,⟨e3.1,λhlen0=>?_⟩,λ_=>⟨by omega,by omega,by omega,λhnone=>?_,λP1=>?_⟩⟩
  .obtain⟨b,q',had⟩:=e3.2 (by omega);rw[if_neg (by omega),had];simp only[A0O,Dw];exact⟨_,_,rfl⟩
  .split at hnone
   .exact l4 hnone
   .exact l4 (by simpa using hnone)
  .rw[if_neg (by omega),l5 (by omega)];simp only[A0O,Dw];congr 2;rw[show off+(l.getD 0).toNat-(E.im k).lo=(off-(E.im k).lo)+(l.getD 0).toNat from by omega,A0J,hz];omega
 .have hms:∃k,mx.map a.eval=some (.int k 0):=by
   rcases U2 hf hmx hm with ⟨h,_⟩|⟨k,i,h,h'⟩
   .cases h
   .cases h;exact⟨k,h'⟩
  have hb:=NO (P:=P) (b:=true) (len:=len) (cap:=cap) E.w (U2 hf Ql hl) (U2 hf WY hu) hms hs (by omega) (by omega) (by omega) (by omega);refine⟨.slice ad 0 0,by simp[execOp,ho,Instr.sliceAt,Instr.slice,M6 ht,e1,hb,Gj hn,h0,h1],?_⟩;simp only[VR,PV];exact⟨_,_,_,rfl,rfl,A0M _,by simp,λ_=>rfl,⟨λ_=>rfl,⟨λe=>absurd e l4,λe=>absurd (hS.fams k f' hfk).sz (by omega)⟩⟩,λh=>absurd rfl h⟩
end
end Go.Abs
