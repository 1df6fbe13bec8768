/- A part of the proof. -/
import Derived.Test.YtnnjamknplefbaaGreatDoorTN2
set_option linter.all false
open Option renaming map_eq_some_iff->zf0z,bind_eq_some_iff->zf5z,getD_some->zf8z,getD_none->zg0z
open List renaming getElem?_eq_some_iff->zf1z,getElem?_take->zf2z,getElem?_drop->zf3z,mem_of_getElem?->zf4z,length_take->zf7z,getD->zg3z,all_eq_true->zg6z,length_drop->zg7z,head?_drop->zg8z
open Array renaming size_eq_zero_iff->zf6z,toList_extract->zg1z
open Bool renaming false_eq_true->zf9z
open Nat renaming mul_le_mul_right->zg2z,succ_mul->zg4z,zero_add->zg5z,add_assoc->zg9z,add_mul->zt0z
set_option linter.all false
namespace Go.Abs
open Go.RowKit (Below)
def Fo(w:World)(ok:Nat->Nat->Prop):Prop:=∀x∈su,PV w ok (.pv x.2) (.pointer (some ⟨x.1,0,none⟩))
theorem Fo.mono{w w' ok ok'}(h:∀b o,ok b o->ok' b o/\If w w' b o)(hg:Fo w ok):Fo w' ok':=λx hx=>BS h _ _ (hg x hx)
structure FR (E:Env) (fr:Fr) (tmps:Array Value):Prop where
 len:fr.length=tmps.size
 val:∀t:Nat,VR E (fr.getD t B9) (tmps.getD t undef)
 glob:Fo E.w E.ok
theorem Ig(E):VR E B9 undef:=by simp[B9,undef,VR,i7]
theorem FR.ext{E E'}(h:Ext E E'){fr tmps}(hf:FR E fr tmps):FR E' fr tmps:=⟨hf.len,λt=>Wp h _ _ (hf.val t),hf.glob.mono h.cells⟩
theorem FR.put{E fr}{a:Act}(hf:FR E fr a.tmps)(dst){v u}(hv:VR E v u):FR E (put fr dst v) (a.put dst u).tmps:=by
 cases dst with
 |none=>exact hf
 |some d =>
  refine⟨by simp[Abs.put,Act.put,hf.len],λt=>?_,hf.glob⟩;simp only[Abs.put,Act.put];by_cases hd:d<fr.length
  .by_cases ht:d=t
   .subst ht;have hd':d<a.tmps.size:=by rw[←hf.len];exact hd
    simpa[zg3z,Array.getD,hd,hd']using hv
   .have:=hf.val t;simpa[zg3z,List.getElem?_set_ne ht,Array.getElem?_setIfInBounds_ne ht]using this
  .have:=hf.val t;have hd':¬d<a.tmps.size:=by rw[←hf.len];exact hd
   have e1:fr.set d v=fr:=List.set_eq_of_length_le a_;have e2:a.tmps.setIfInBounds d u=a.tmps:=Array.setIfInBounds_eq_of_size_le a_;rw[e1,e2];exact this
theorem Pw{α β f}:∀{l:List α} {r:List β},IW f l=some r->r.length=l.length/\∀(j:Nat) (x:α),l[j]?=some x->∃y,f x=some y/\r[j]?=some y
 | [],r,h=>by simp[IW]at h;subst h;simp
 |a::l,r,h=>by
  simp only[IW]at h;split at h
  .rename_i y ys h1 h2;cases h;obtain⟨hl,hg⟩:=Pw h2;refine⟨c_,λj x hx=>?_⟩;cases j with
   |zero=>simp at hx;subst hx;exact⟨y,h1,rfl⟩
   |succ j=>simpa using hg j x (by simpa using hx)
  .cases h
theorem NR{w ok}:∀{v:Value} {x:AV},NQ v=some x->PV w ok x v/\v.oneCell'=true:=by
 intro v x h;unfold NQ at h;split at h
 case h_1=>cases h;exact⟨by simp[PV],rfl⟩
 case h_2=>cases h;exact⟨by simp[PV],rfl⟩
 case h_3=>cases h;exact⟨by simp[PV],rfl⟩
 case h_4=>cases h;exact⟨by simp only[PV];exact⟨none,0,0,rfl,rfl,a_,a_,λ_=>rfl,⟨λ_=>rfl,e_⟩,λh=>absurd rfl h⟩,rfl⟩
 case h_5=>cases h;exact⟨by simp[PV],rfl⟩
 case h_6=>cases h;exact⟨by simp[PV],rfl⟩
 case h_7=>cases h;exact⟨by simp[PV],rfl⟩
 case h_8=>cases h;exact⟨by simp[PV,Value.oneCell'],rfl⟩
 case h_10=>cases h
 case h_9 f a b =>
  split at h
  .rename_i hs;cases h;have ha:=zf6z.1 hs.1;have hb:=zf6z.1 hs.2;subst ha;subst hb;exact⟨by simp[PV,DV],rfl⟩
  .cases h
theorem EF{w ok v x}(h:Qg v=some x):PV w ok x v:=by
 unfold Qg at h;split at h
 .rename_i cs;cases hm:IW NQ cs.toList with
  |none=>simp[hm]at h
  |some ys =>
   simp[hm]at h;subst h;obtain⟨hl,hg⟩:=Pw hm;simp only[PV];refine⟨cs,rfl,λu hu=>?_,ZN hl.symm λj c u hc hu=>?_⟩
   .obtain⟨j,hj⟩:=List.getElem?_of_mem hu;obtain⟨y,hy,_⟩:=hg j u hj;exact(NR (w:=w) (ok:=ok) hy).2
   .obtain⟨y,hy,hy'⟩:=hg j u hu;have:c=y:=by rw[hc]at hy';simpa using hy'
    subst this;exact(NR hy).1
 .rename_i vs;split at h
  .rename_i hs;cases h;have:=zf6z.1 hs;subst this;simp[PV,DV]
  .cases h
 .exact(NR h).1
section
variable {E:Env}
theorem C8{fr}{a:Act}(hf:FR E fr a.tmps){x y}(h:C7 x=some y):VR E (get fr y) (a.eval x):=by
 cases x with
 |tmp t=>simp[C7]at h;subst h;exact hf.val t
 |const v =>
  simp only[C7]at h;cases hc:Qg v with
  |none=>simp[hc]at h
  |some av=>simp[hc]at h;subst h;exact CR _ _ (EF hc)
 |global g =>
  simp only[C7,zf0z]at h;obtain⟨p,hp,rfl⟩:=h;have h1:=List.find?_some hp;have h2:=List.mem_of_find?_eq_some hp;have e:=Nat.eq_of_beq_eq_true h1;have:=hf.glob p h2;rw[e]at this;exact CR _ _ this
 |func f=>simp[C7]at h;subst h;simp[get,Act.eval,VR,i7]
theorem Qv{fr}{a:Act}(hf:FR E fr a.tmps){xs:Array Operand}{ys}(h:IW C7 xs.toList=some ys):i7 E (ys.map (get fr)) (xs.map a.eval).toList:=by
 obtain⟨hl,hg⟩:=Pw h;refine Rl (by simpa using hl.symm) λj c u hc hu=>?_;simp only[Array.toList_map,List.getElem?_map]at hc hu;cases hx:xs.toList[j]? with
 |none=>simp[hx]at hu
 |some x =>
  obtain⟨y,hy,hy'⟩:=hg j x hx;simp[hx]at hu;simp[hy']at hc;subst hu;subst hc;exact C8 hf hy
theorem VR_one{x v}(h:VR E x v)(ht:x.isTup=false)(ha:∀cs,x≠.agg cs):v.oneCell'=true/\v.cells=#[v]:=by
 cases x<;>simp only[VR,PV]at h
 case agg cs=>exact absurd rfl (ha cs)
 case tup=>simp[AV.isTup]at ht
 case junk=>refine⟨h,?_⟩;cases v<;>simp_all [Value.oneCell',Value.cells]
 case vs=>obtain⟨a,len,cap,rfl,_⟩:=h;exact⟨rfl,rfl⟩
 case sl=>obtain⟨a,cap,f,rfl,_⟩:=h;exact⟨rfl,rfl⟩
 case pv=>obtain⟨b,o,rfl,_⟩:=h;exact⟨rfl,rfl⟩
 case ep=>obtain⟨b,o,f,rfl,_⟩:=h;exact⟨rfl,rfl⟩
 case ptr=>obtain⟨_,rfl⟩:=h;exact⟨rfl,rfl⟩
 case mp=>obtain⟨_,rfl⟩:=h;exact⟨rfl,rfl⟩
 case bsl=>obtain⟨_,cap,rfl,_⟩:=h;exact⟨rfl,rfl⟩
 case vm=>obtain⟨b,es,clk,rfl,_⟩:=h;exact⟨rfl,rfl⟩
 case fn=>obtain⟨us,rfl,_⟩:=h;exact⟨rfl,rfl⟩
 all_goals (subst h;exact⟨rfl,rfl⟩)
theorem NM{x v}(h:VR E x v)(ht:x.isTup=false):i7 E x.cells v.cells.toList/\∀u∈v.cells.toList,u.oneCell'=true:=by
 by_cases ha:∃cs,x=.agg cs
 .obtain⟨cs,rfl⟩:=ha;simp only[VR]at h;obtain⟨us,rfl,h1,h2⟩:=h;exact⟨h2,h1⟩
 .have ha':=λcs e=>ha ⟨cs,e⟩;obtain⟨h1,h2⟩:=VR_one h ht ha';have hc:x.cells=[x]:=by cases x<;>first|rfl|exact absurd rfl (ha' _)
  rw[hc,h2];exact⟨by simp[i7,h],m_⟩
theorem DE{i n sz c:Nat}(hi:i<n)(hc:c<sz):i*sz+c<n*sz:=by
 have:(i+1)*sz<=n*sz:=zg2z _ hi;rw[zg4z]at this;omega
theorem sl_PV(hS:SR E){k n off len v f}(hv:VR E (.sl k n off len) v)(hf:E.h.fams[k]?=some f)(hn:f.xs.length=n)(ho:off+len<=n)
  {ok'} (O9:∀b o,E.ok b o->ok' b o) (hown:f.wr=true->∀b o,E.base<=b->b<E.w.heap.size->ok' b o) :
  PV E.w ok' (.vs false f.sz ((f.xs.drop off).take len)) v:=by
 simp only[VR]at hv;obtain⟨a,cap,f',rfl,hf',OK,hc⟩:=hv;have:f'=f:=by rw[hf]at hf';simpa using hf'.symm
 subst this;obtain⟨h1,h2,h3,h4,h5⟩:=hc hn;have hF:=hS.fams k f' hf;have hk:=(zf1z.1 hf).1;have hb:=hS.im_lt hk;have Am:=hF.room;have hcap:=hF.cap;have D6:((f'.xs.drop off).take len).length=len:=by simp;omega
 simp only[PV];refine⟨a,len,cap,rfl,D6.symm,a_,a_,e_,⟨λe=>absurd e h4,⟨λe=>absurd e h4,λe=>absurd hF.sz a_⟩⟩,λAS=>?_⟩;have V5:0<len:=by
  rcases Nat.eq_zero_or_pos len with h0|h0
  .subst h0;simp at AS
  .exact h0
 refine⟨_,_,h5 a_,hF.sz,VC λj x hx=>?_⟩;have hj:j<len:=by have:=(zf1z.1 hx).1;omega
 have hx':f'.xs[off+j]?=some x:=by
  rw[zf2z,if_pos hj,zf3z]at hx;exact hx
 obtain⟨cur,t,c1,c2,c3⟩:=hF.cells;obtain⟨e1,e2⟩:=c3 (off+j) x a_ hx';have epos:(E.im k).o+(off+j-(E.im k).lo)*f'.sz=(E.im k).o+(off-(E.im k).lo)*f'.sz+j*f'.sz:=by
  rw[show off+j-(E.im k).lo=(off-(E.im k).lo)+j from by omega,zt0z];omega
 refine⟨e1,NB λc y hy=>?_⟩;obtain⟨u,u1,u2,u3⟩:=e2 c y hy;have Au:c<f'.sz:=by have:=(zf1z.1 hy).1;omega
 rw[epos]at u1;refine⟨u,?_,?_,u2,BS (λb o h=>⟨O9 b o h,If.refl _ _ _⟩) _ _ u3⟩
 .cases hw:f'.wr with
  |true=>exact hown hw _ _ hb.1 hb.2
  |false =>
   refine O9 _ _ (.inr ⟨hb.1,hb.2,λi hi e=>absurd e (hS.sep i k hi hk),λk' g Ef he=>?_⟩);have hk'':=(zf1z.1 Ef).1;have:=hS.injf k' k hk'' hk he;subst this;have:g=f':=by rw[hf]at Ef;simpa using Ef.symm
   subst this;refine⟨hw,?_⟩;rw[←epos,zg9z];exact Nat.add_lt_add_left (DE a_ Au) _
 .rw[cell_of_row _ _ _ _ _ _ c1];exact u1
theorem VS{x v}(h:VR E x v)(hf:x.flat=true):PV E.w E.ok x v:=by
 cases x<;>simp only[VR]at h<;>first|exact h|(simp[AV.flat]at hf;done)|skip
 all_goals simp only[PV]
 all_goals first
  |exact h
  |skip
 case fn f caps =>
  obtain⟨us,rfl,hu⟩:=h;have hc:caps=[]:=by simpa[AV.flat]using hf
  subst hc;refine⟨us,rfl,?_⟩;simpa[i7,DV]using hu
def ZM(E:Env)(am:Bool)(ok':Nat->Nat->Prop):Prop:=(∀b o,E.ok b o->ok' b o)/\(am=true->∀b o,E.base<=b->b<E.w.heap.size->ok' b o)
theorem zw{x v}(hv:VR E x v)(hf:M9 x=true):PV E.w E.ok x v:=by
 cases x
 case agg cs =>
  simp only[M9]at hf;simp only[VR]at hv;obtain⟨us,rfl,h1,hu⟩:=hv;obtain⟨hl,hg⟩:=EW hu;simp only[PV];refine⟨us,rfl,h1,ZN hl λj c u hc' hu'=>?_⟩;obtain⟨u',h1,h2⟩:=hg hc';have:u'=u:=by rw[hu']at h1;simpa using h1.symm
  subst this;exact VS h2 ((zg6z.1 hf) c (zf4z hc'))
 case tup=>cases hf
 all_goals exact VS hv hf
theorem nu(hS:SR E){am ok'}(O9:ZM E am ok'){x y v}(hv:VR E x v)(h:wG E.h am x=some y):PV E.w ok' y v:=by
 unfold wG at h;split at h
 .split at h
  .rename_i f hf;split at h
   .rename_i hc;cases h;refine sl_PV hS hv hf hc.1 hc.2.1 O9.1 (λhw=>O9.2 ?_);have:=hc.2.2;simpa[hw]using this
   .cases h
  .cases h
 .split at h
  .rename_i hf;cases h;exact BS (λb o h=>⟨O9.1 b o h,If.refl _ _ _⟩) _ _ (zw hv hf)
  .cases h
theorem Xw(hS:SR E){am ok'}(O9:ZM E am ok'):∀{xs ys:b9} {us:List Value},i7 E xs us->Tc E.h am xs=some ys->DV E.w ok' ys us
 | [],ys,us,hv,h=>by simp[Tc]at h;subst h;simpa[i7,DV]using hv
 |x::xs,ys,us,hv,h=>by
  simp only[Tc,zf5z,zf0z]at h;obtain⟨y,hy,ys',Uw,rfl⟩:=h;simp only[i7]at hv;obtain⟨u,us',rfl,h1,h2⟩:=hv;simp only[DV];exact⟨u,us',rfl,nu hS O9 h1 hy,Xw hS O9 h2 Uw⟩
theorem Zs(hS:SR E){am ok'}(O9:ZM E am ok'){x y v}(hv:VR E x v)(h:nr E.h am x=some y):PV E.w ok' y v/\(v.oneCell'=true->True)/\y.isTup=false:=by
 have up:∀{z:AV} {u:Value},PV E.w E.ok z u->PV E.w ok' z u:=λhz=>BS (λb o h=>⟨O9.1 b o h,If.refl _ _ _⟩) _ _ hz;cases x<;>simp only[nr]at h
 case sl k n off len =>
  split at h
  .rename_i f hf;split at h
   .rename_i hc;cases h;refine⟨sl_PV hS hv hf hc.1 hc.2.1 O9.1 (λhw=>O9.2 ?_),λ_=>trivial,rfl⟩;have:=hc.2.2;simpa[hw]using this
   .cases h
  .cases h
 case ep=>cases h
 case ptr=>cases h
 case agg=>cases h
 case tup=>cases h
 case mbox=>cases h
 case rbox=>cases h
 case tbox=>cases h
 case bsl=>cases h
 case mp b =>
  split at h
  .rename_i ks vs hb;split at h
   .rename_i ham;rw[zf0z]at h;obtain⟨ws,hws,rfl⟩:=h;simp only[VR]at hv;obtain⟨C2,rfl⟩:=hv;obtain⟨es,clk,h1,h2,h3⟩:=(hS.boxes b _ hb (C2.ne hb)).map;have Hx:=hS.nb_lt C2;refine⟨?_,λ_=>trivial,rfl⟩;simp only[PV];exact⟨E.nb b,es,clk,rfl,O9.2 ham _ _ Hx.1 Hx.2,h1,Dk (λb o h=>⟨O9.1 b o h,If.refl _ _ _⟩) _ _ h2,Xw hS O9 h3 hws⟩
   .cases h
  .cases h
 case fn f caps =>
  split at h
  .rename_i hc;cases h;refine⟨?_,λ_=>trivial,rfl⟩;simp only[VR]at hv;obtain⟨us,rfl,hu⟩:=hv;obtain⟨hl,hg⟩:=EW hu;simp only[PV];refine⟨us,rfl,ZN hl λj c u hc' hu'=>?_⟩;obtain⟨u',h1,h2⟩:=hg hc';have:u'=u:=by rw[hu']at h1;simpa using h1.symm
   subst this;exact up (VS h2 ((zg6z.1 hc) c (zf4z hc')))
  .cases h
 all_goals (cases h;exact⟨up (VS hv rfl),λ_=>trivial,rfl⟩)
theorem Xu(hS:SR E){am ok'}(O9:ZM E am ok'):∀{xs ys:b9} {us:List Value},i7 E xs us->Tb E.h am xs=some ys->DV E.w ok' ys us
 | [],ys,us,hv,h=>by simp[Tb]at h;subst h;simpa[i7,DV]using hv
 |x::xs,ys,us,hv,h=>by
  simp only[Tb,zf5z,zf0z]at h;obtain⟨y,hy,ys',Uw,rfl⟩:=h;simp only[i7]at hv;obtain⟨u,us',rfl,h1,h2⟩:=hv;simp only[DV];exact⟨u,us',rfl,(Zs hS O9 h1 hy).1,Xu hS O9 h2 Uw⟩
theorem dY(sz):∀(n:Nat) (cs:b9),(TW sz cs n).length=n
 |0,cs=>rfl
 |n+1,cs=>by rw[TW,List.length_cons,dY sz n]
theorem dX(sz):∀(n:Nat) (cs:b9) (j:Nat) (x:AV),(TW sz cs n)[j]?=some x->j<n/\x=if sz=1 then (cs.drop (j*sz)).headD .junk else .agg ((cs.drop (j*sz)).take sz)
 |0,cs,j,x,h=>by simp[TW]at h
 |n+1,cs,j,x,h=>by
  rw[TW]at h;cases j with
  |zero=>simp at h;exact⟨a_,by rw[←h];simp⟩
  |succ j =>
   obtain⟨h1,h2⟩:=dX sz n _ j x oE;refine⟨a_,?_⟩;rw[h2,List.drop_drop,show sz+j*sz=(j+1)*sz from by rw[zg4z];omega]
theorem Hr{cs us}(h:i7 E cs us):us.length=cs.length:=(EW h).1
theorem jY{aas us}(h:i7 E aas us)(n):i7 E (aas.take n) (us.take n):=by
 refine Rl (by simp[Hr h]) λj c u hc hu=>?_;rw[zf2z]at hc hu;split at hc
 .rename_i hj;rw[if_pos hj]at hu;obtain⟨u',h3,h4⟩:=(EW h).2 hc;rw[h3]at hu;cases hu;exact h4
 .cases hc
theorem jX{aas us}(h:i7 E aas us)(n):i7 E (aas.drop n) (us.drop n):=by
 refine Rl (by simp[Hr h]) λj c u hc hu=>?_;rw[zf3z]at hc hu;obtain⟨u',h3,h4⟩:=(EW h).2 hc;rw[h3]at hu;cases hu;exact h4
theorem PV_one{w ok x u}(h1:PV w ok x u)(h2:u.oneCell'=true):x.cells=[x]:=by
 cases x<;>first|rfl|(simp only[PV]at h1;obtain⟨us,rfl,_⟩:=h1;simp[Value.oneCell']at h2)
theorem Zu(hS:SR E){am ok'}(O9:ZM E am ok'){b sz off len v}(hv:VR E (.bsl b sz off len) v){cs ys cur t}(h2:E.w.heap[E.nb b]?=some (.cells cur t (0,0)))(h3:i7 E cs (cur.toList.take cs.length))(h4:∀v∈cur.toList,v.oneCell'=true)(ham:am=true)(X9:0<sz)(P5:off+len*sz<=cs.length)(Uw:Tb E.h am ((cs.drop off).take (len*sz))=some ys):PV E.w ok' (.vs false sz (TW sz ys len)) v/\(AV.vs false sz (TW sz ys len)).isTup=false:=by
 simp only[VR]at hv;obtain⟨hb,cap,rfl,hlc,hcm⟩:=hv;have C2:=hS.nb_lt hb;have hP:=Xu hS O9 (jY (jX h3 off) (len*sz)) Uw;obtain⟨hl,hg⟩:=Jl hP;have IN:=Hr h3;rw[zf7z]at IN;have hyl:ys.length=len*sz:=by rw[←hl,zf7z,zg7z,zf7z];omega
 have hcell:∀(q:Nat) (c:AV),ys[q]?=some c->∃u,ok' (E.nb b) (off+q)/\E.w.cell? ⟨E.nb b,off+q,none⟩=some u/\u.oneCell'=true/\PV E.w ok' c u:=by
  intro q c hq;obtain⟨u,h5,h6⟩:=hg hq;have hq':=(zf1z.1 hq).1;rw[zf2z,if_pos a_,zf3z,zf2z,if_pos a_]at h5;refine⟨u,O9.2 ham _ _ C2.1 C2.2,?_,h4 u (zf4z h5),h6⟩;rw[cell_of_row _ _ _ _ _ _ h2];simpa using h5
 refine⟨?_,rfl⟩;simp only[PV];refine⟨_,len,cap,rfl,(dY sz len ys).symm,hlc,hcm,e_,⟨(λe=>nomatch e),⟨(λe=>nomatch e),λe=>absurd X9 a_⟩⟩,λ_=>⟨_,_,rfl,X9,VC λj x hx=>?_⟩⟩;obtain⟨hj,hxe⟩:=dX sz len ys j x hx;have hjs:(j+1)*sz<=len*sz:=zg2z _ hj;rw[zg4z]at hjs;by_cases h1:sz=1
 .subst h1;rw[if_pos rfl]at hxe;have hx0:ys[j*1]?=some x:=by
   rw[hxe,←zg8z];cases hd:ys.drop (j*1)with
   |nil=>have:=congrArg List.length hd;simp at this;omega
   |cons a l=>rfl
  obtain⟨u,k1,k2,k3,k4⟩:=hcell _ _ hx0;have hxc:=PV_one k4 k3;refine⟨by rw[hxc];rfl,?_⟩;rw[hxc];simp only[CL];exact⟨⟨u,k1,k2,k3,k4⟩,trivial⟩
 .rw[if_neg h1]at hxe;subst hxe;refine⟨by simp only[AV.cells,zf7z,zg7z];omega,NB λq c hq=>?_⟩;simp only[AV.cells]at hq;have hq':q<sz:=by have:=(zf1z.1 hq).1;rw[zf7z]at this;omega
  rw[zf2z,if_pos hq',zf3z]at hq;obtain⟨u,k⟩:=hcell _ _ hq;rw[show off+(j*sz+q)=off+j*sz+q from by omega]at k;exact⟨u,k⟩
theorem nt(hS:SR E){am ok'}(O9:ZM E am ok'){b sz off len y v}(hv:VR E (.bsl b sz off len) v)(h:wE E.h am b sz off len=some y):PV E.w ok' y v/\y.isTup=false:=by
 unfold wE at h;split at h
 case h_2=>cases h
 rename_i cs Au;split at h
 .rename_i hc;obtain⟨ham,hmb,X9,P5⟩:=hc;simp only[zf0z]at h;obtain⟨ys,Uw,rfl⟩:=h;obtain⟨cur,t,h2,h3,h4⟩:=(hS.boxes b cs Au (DC hmb)).row hmb;exact Zu hS O9 hv h2 (fW h3) h4 ham X9 P5 Uw
 .unfold frzT at h;split at h
  .rename_i ys hbc;unfold boxC at hbc;split at hbc
   .cases hbc;split at h
    .rename_i hc;obtain⟨ham,X9,P5⟩:=hc;simp only[zf0z]at h;obtain⟨zs,hzs,rfl⟩:=h;obtain⟨cur,h2,h3,h4⟩:=(hS.boxes b _ Au rfl).typ;exact Zu hS O9 hv h2 h3 h4 ham X9 P5 hzs
    .cases h
   .cases hbc
  .cases h
theorem dr(h am){x}(hb:∀b sz off len,x≠.bsl b sz off len):Cr h am x=nr h am x:=by
 cases x<;>first|rfl|exact absurd rfl (hb _ _ _ _)
theorem UL(hS:SR E){am ok'}(O9:ZM E am ok'){x y v}(hv:VR E x v)(h:Cr E.h am x=some y):PV E.w ok' y v/\(v.oneCell'=true->True)/\y.isTup=false:=by
 by_cases hb:∃b sz off len,x=.bsl b sz off len
 .obtain⟨b,sz,off,len,rfl⟩:=hb;simp only[Cr]at h;have:=nt hS O9 hv h;exact⟨this.1,λ_=>trivial,this.2⟩
 .rw[dr _ _ λb sz off len e=>hb ⟨b,sz,off,len,e⟩]at h;exact Zs hS O9 hv h
theorem Zv(hS:SR E){am ok'}(O9:ZM E am ok'):∀{xs ys:b9} {us:List Value},i7 E xs us->NV E.h am xs=some ys->DV E.w ok' ys us
 | [],ys,us,hv,h=>by simp[NV]at h;subst h;simpa[i7,DV]using hv
 |x::xs,ys,us,hv,h=>by
  simp only[NV,zf5z,zf0z]at h;obtain⟨y,hy,ys',Uw,rfl⟩:=h;simp only[i7]at hv;obtain⟨u,us',rfl,h1,h2⟩:=hv;simp only[DV];exact⟨u,us',rfl,(UL hS O9 h1 hy).1,Zv hS O9 h2 Uw⟩
theorem NF(hS:SR E){am ok'}(O9:ZM E am ok'){x y v}(hv:VR E x v)(h:frz E.h am x=some y):PV E.w ok' y v/\y.isTup=false:=by
 unfold frz at h;split at h
 .rename_i cs;simp only[zf0z]at h;obtain⟨ys,Uw,rfl⟩:=h;simp only[VR]at hv;obtain⟨us,rfl,h1,h2⟩:=hv;simp only[PV];exact⟨⟨us,rfl,h1,Zv hS O9 h2 Uw⟩,rfl⟩
 .have:=UL hS O9 hv h;exact⟨this.1,this.2.2⟩
theorem Mj(hS:SR E){am ok'}(O9:ZM E am ok'):∀{xs ys:b9} {us:List Value},i7 E xs us->AX E.h am xs=some ys->DV E.w ok' ys us
 | [],ys,us,hv,h=>by simp[AX]at h;subst h;simpa[i7,DV]using hv
 |x::xs,ys,us,hv,h=>by
  simp only[AX,zf5z,zf0z]at h;obtain⟨y,hy,ys',Uw,rfl⟩:=h;simp only[i7]at hv;obtain⟨u,us',rfl,h1,h2⟩:=hv;simp only[DV];exact⟨u,us',rfl,(NF hS O9 h1 hy).1,Mj hS O9 h2 Uw⟩
theorem gL(hS:SR E){ok'}(O9:ZM E true ok'){x y v}(hv:VR E x v)(h:Gj E.h x=some y):PV E.w ok' y v:=by
 unfold Gj at h;split at h
 .rename_i vs;simp only[zf0z]at h;obtain⟨ys,Uw,rfl⟩:=h;simp only[VR]at hv;obtain⟨us,rfl,h2⟩:=hv;simp only[PV];exact⟨us,rfl,Mj hS O9 h2 Uw⟩
 .exact(NF hS O9 hv h).1
def PI(E:Env)(b o:Nat)(cs:List AV):Prop :=
 ∀(j:Nat) (c:AV),cs[j]?=some c->∃u,E.w.cell? ⟨b,o+j,none⟩=some u/\u.oneCell'=true/\VR E c u
theorem PI.drop{b o n cs}(h:PI E b o cs):PI E b (o+n) (cs.drop n):=by
 intro j c hc;rw[zf3z]at hc;have:=h (n+j) c hc
 rwa [show o+(n+j)=o+n+j from by omega]at this
theorem Wm{b o cs}(h:CL E.w E.ok b o cs):PI E b o cs:=by
 intro j c hc;obtain⟨u,_,h2,h3,h4⟩:=CM h hc;exact⟨u,h2,h3,CR _ _ h4⟩
theorem YA(hS:SR E){agg n x r v}(hv:VR E x v)(h:X3 E.h agg n x=some r) :
  ∃b o cs,v=.pointer (some ⟨b,o,none⟩)/\PI E b o cs/\Q6 agg n cs=some r:=by
 cases x<;>simp only[X3]at h<;>try (cases h;done)
 case pv cs =>
  simp only[VR,PV]at hv;obtain⟨b,o,rfl,hc⟩:=hv;exact⟨b,o,cs,rfl,Wm hc,h⟩
 case ptr b off =>
  split at h
  .rename_i cs Au;simp only[VR]at hv;obtain⟨hlv,rfl⟩:=hv;by_cases hmb1:BE cs=true
   .rw[if_pos hmb1]at h;unfold au at h;split at h
    .rename_i ys;obtain⟨_,hb⟩:=hS.boxes b _ Au rfl;rcases hb with ⟨cur,t,h2,h3,h4⟩|⟨ks,vs,es,clk,e,_⟩|⟨ys',cur,t,e,h2,h3,h4⟩|⟨T,ys',cur,e,_⟩
     .exfalso
      simp only[i7,VR,false_and,and_false,exists_false,exists_const]at h3
     .cases e
     rotate_left
     .cases e
     .cases e;refine⟨E.nb b,0+off,ys.drop off,e_,PI.drop ?_,h⟩;obtain⟨hl,hg⟩:=Jl h3;intro j c hc;obtain⟨u,h5,h6⟩:=hg hc;refine⟨u,?_,h4 u (zf4z h5),CR _ _ h6⟩;rw[zg5z,cell_of_row _ _ _ _ _ _ h2];simpa using h5
    .rename_i T ys;obtain⟨cur,h2,h3,h4⟩:=(hS.boxes b _ Au rfl).typ;refine⟨E.nb b,0+off,ys.drop off,e_,PI.drop ?_,h⟩;obtain⟨hl,hg⟩:=EW h3;intro j c hc;obtain⟨u,h5,h6⟩:=hg hc;rw[zf2z]at h5;split at h5
     case isFalse=>cases h5
     refine⟨u,?_,h4 u (zf4z h5),h6⟩;rw[zg5z,cell_of_row _ _ _ _ _ _ h2];simpa using h5
    .cases h
   have hmb:BE cs=false:=by simpa using hmb1
   rw[hmb,if_neg e_]at h;obtain⟨cur,t,h2,h3,h4⟩:=(hS.boxes b cs Au (DC hmb)).row hmb;refine⟨E.nb b,0+off,cs.drop off,e_,PI.drop ?_,h⟩;obtain⟨hl,hg⟩:=EW h3;intro j c hc;obtain⟨u,h5,h6⟩:=hg hc;refine⟨u,?_,h4 u (zf4z h5),h6⟩;rw[zg5z,cell_of_row _ _ _ _ _ _ h2];simpa using h5
  .cases h
 case ep k m i c sz =>
  split at h
  .rename_i f hf;split at h
   .rename_i hm;split at h
    .rename_i y hy;simp only[VR]at hv;obtain⟨b,o,f',rfl,hf',_,hc⟩:=hv;have:f'=f:=by rw[hf]at hf';simpa using hf'.symm
     subst this;obtain⟨Uv,hbo⟩:=hc hm;rw[hbo];obtain⟨cur,t,c1,c2,c3⟩:=(hS.fams k f' hf).cells;obtain⟨e1,e2⟩:=c3 i y Uv hy;refine⟨_,_,y.cells.drop c,rfl,PI.drop ?_,h⟩;intro j z hz;obtain⟨u,u1,u2,u3⟩:=e2 j z hz;exact⟨u,by rw[cell_of_row _ _ _ _ _ _ c1];exact u1,u2,CR _ _ u3⟩
    .cases h
   .cases h
  .cases h
theorem Dl(b o j):(⟨b,o,none⟩:Addr).add j=⟨b,o+j,none⟩:=by unfold Addr.add;split<;>simp_all
theorem SZ{P t agg n b o cs r}(hc:PI E b o cs)(h:Q6 agg n cs=some r)
  (ha:Program.agg? P t=some agg) (hn:Program.size? P t=some n):∃v,(loadVar t ⟨b,o,none⟩).run P E.w=.ok v E.w/\VR E r v:=by
 have hisAgg:(isAgg t).run P E.w=.ok agg E.w:=by
  unfold Program.agg? at ha;unfold isAgg underlying;split at ha<;>simp_all
 have Td:(sizeOf t).run P E.w=.ok n E.w:=by
  unfold Program.size? at hn;unfold sizeOf typeInfo;simp only[zf0z]at hn;obtain⟨i,hi,rfl⟩:=hn;simp[hi]
 cases agg with
 |true =>
  simp only[Q6]at h;split at h
  .rename_i OK;cases h;have hex:∀j,j<n->∃u,E.w.cell? ⟨b,o+j,none⟩=some u/\u.oneCell'=true/\VR E (cs.getD j default) u:=by
    intro j hj;have hj':cs[j]?=some (cs.getD j default):=by simp[zg3z,List.getElem?_eq_getElem (show j<cs.length by omega)]
    exact hc j _ hj'
   have hpick:∃g:Nat->Value,∀j,j<n->E.w.cell? ⟨b,o+j,none⟩=some (g j)/\(g j).oneCell'=true/\VR E (cs.getD j default) (g j):=by
    refine⟨λj=>if hj:j<n then Classical.choose (hex j hj)else default,λj hj=>?_⟩
    simp only[hj,dif_pos];exact Classical.choose_spec (hex j hj)
   obtain⟨g,hg⟩:=hpick;have hl:=run_loadCells (P:=P) E.w ⟨b,o,none⟩ n g (λj hj=>by rw[Dl];exact(hg j hj).1);refine⟨.agg (List.map g (List.range n)).toArray,?_,?_⟩
   .unfold loadVar;simp only[Sem.run_bind,hisAgg,Result.andThen_ok,if_true,Td,hl,Sem.run_pure]
   .simp only[VR];refine⟨_,rfl,λu hu=>?_,Rl f8 λj c u hc' hu=>?_⟩
    .simp at hu;obtain⟨j,hj,rfl⟩:=hu;exact(hg j hj).2.1
    .have hj:j<n:=by have:=(zf1z.1 hc').1;simp at this;omega
     rw[zf2z,if_pos hj]at hc';have e1:u=g j:=by simpa[hj]using hu.symm
     have e2:cs.getD j default=c:=by simp[zg3z,hc']
     rw[e1,←e2];exact(hg j hj).2.2
  .cases h
 |false =>
  simp only[Q6]at h;have h0:cs[0]?=some r:=by rw[←h];cases cs<;>rfl
  obtain⟨u,h1,_,h3⟩:=hc 0 r h0;refine⟨u,?_,h3⟩;unfold loadVar;simp only[Sem.run_bind,hisAgg,Result.andThen_ok,zf9z,if_false];simp at h1;simp[h1]
end
section
variable {E:Env} {P:Program} {fr:Fr} {a:Act}
def DT(P:Program)(a:Act)(o:Oper)(E:Env)(v:AV):Prop:=∃u,(execOp a.eval o).run P E.w=.ok (.value u) E.w/\VR E v u
theorem Jn(k n):VR E (.int k n) (.int k n):=by simp[VR]
theorem Su(b):VR E (.bool b) (.bool b):=by simp[VR]
theorem yY(b):VR E (.str b) (.string b):=by simp[VR]
theorem jw(op t x y k k' i j w):(eqGuard op t x y (.int k i) (.int k' j)).run P w=.ok () w:=by
 unfold eqGuard;cases op<;>simp
theorem jx(op t x y i j w):(eqGuard op t x y (.string i) (.string j)).run P w=.ok () w:=by
 unfold eqGuard;cases op<;>simp
theorem gE(op t x y i j w):(eqGuard op t x y (.bool i) (.bool j)).run P w=.ok () w:=by
 unfold eqGuard;cases op<;>simp
theorem cQ{op t k k' i j v}(w)(h:M7 op (.int k i) (.int k' j)=some v) :
  ∃u,(binOp op t (.int k i) (.int k' j)).run P w=.ok u w/\VR E v u:=by
 cases op<;>simp only[M7]at h<;>try (cases h;done)
 case quo =>
  split at h
  .rename_i hk;cases h;obtain⟨rfl,hj⟩:=hk;refine⟨_,?_,Jn _ _⟩;simp[binOp,Op.intDiv,hj]
  .cases h
 case rem =>
  split at h
  .rename_i hk;cases h;obtain⟨rfl,hj⟩:=hk;refine⟨_,?_,Jn _ _⟩;simp[binOp,Op.intDiv,hj]
  .cases h
 case shl =>
  split at h
  .rename_i hk;cases h;refine⟨_,?_,Jn _ _⟩;simp[binOp,Op.shift,show ¬j<0 from by omega]
  .cases h
 case shr =>
  split at h
  .rename_i hk;cases h;refine⟨_,?_,Jn _ _⟩;simp[binOp,Op.shift,show ¬j<0 from by omega]
  .cases h
 all_goals
  split at h
  .rename_i hk;cases h;subst hk;first|(refine⟨_,?_,Jn _ _⟩;simp[binOp,Op.intArith,Op.intBits];done)|(refine⟨_,?_,Su _⟩;simp[binOp,Op.intCmp];done)
  .cases h
theorem cV{op t i j v}(w)(h:M7 op (.str i) (.str j)=some v) :
  ∃u,(binOp op t (.string i) (.string j)).run P w=.ok u w/\VR E v u:=by
 cases op<;>simp only[M7]at h<;>try (cases h;done)
 case add =>
  split at h
  .cases h
  .rename_i hk;cases h;refine⟨_,?_,yY _⟩;simp only[binOp,Op.stringOp,hk,if_false,Sem.run_pure]
 all_goals (cases h;refine⟨_,?_,Su _⟩;simp[binOp,Op.stringOp])
theorem vR{op t x y v xv yv}(hx:VR E x xv)(hy:VR E y yv)(px py w)(h:M7 op x y=some v) :
  ∃u,(do eqGuard op t px py xv yv;binOp op t xv yv:Sem Value).run P w=.ok u w/\VR E v u:=by
 cases x<;>cases y<;>try (simp[M7]at h;done)
 .simp only[VR]at hx hy;subst hx;subst hy;obtain⟨u,h1,h2⟩:=cQ (E:=E) (P:=P) (t:=t) w h;exact⟨u,by simp[jw,h1],h2⟩
 .simp only[VR]at hx hy;subst hx;subst hy;obtain⟨u,h1,h2⟩:=cV (E:=E) (P:=P) (t:=t) w h;exact⟨u,by simp[jx,h1],h2⟩
theorem R5{t d}(h:P.underlying t=some d)(w):(underlying t).run P w=.ok d w:=by unfold underlying;simp[h]
theorem GF{t n}(h:Program.size? P t=some n)(w):(sizeOf t).run P w=.ok n w:=by
 unfold Program.size? at h;simp only[zf0z]at h;obtain⟨i,hi,rfl⟩:=h;unfold sizeOf typeInfo;simp[hi]
theorem gH{t}(ht:P.underlying t=some .bool)(d i j w):(Op.equalIn (d+1) t (.bool i) (.bool j)).run P w=.ok (i == j) w:=by
 simp[Op.equalIn,R5 ht]
theorem vQ{neg:Bool}{t i j}(ht:P.underlying t=some .bool)(px py w) :
  (do eqGuard (if neg then .neq else .eql) t px py (.bool i) (.bool j);binOp (if neg then .neq else .eql) t (.bool i) (.bool j):Sem Value).run P w=.ok (.bool (if neg then !(i == j)else i == j)) w:=by
 have h:(Op.equal t (.bool i) (.bool j)).run P w=.ok (i == j) w:=gH ht 9999 i j w;cases neg<;>simp only[if_true,if_false,zf9z,Sem.run_bind,gE,Result.andThen_ok,binOp,h,Sem.run_pure]
theorem jz{t e ad len cap}(ht:P.underlying t=some (.slice e))(d w):(Op.equalIn (d+1) t (.slice ad len cap) (.slice none 0 0)).run P w=.ok ad.isNone w:=by
 cases ad<;>simp[Op.equalIn,R5 ht]
theorem YK{neg:Bool}{t e ad len cap}(ht:P.underlying t=some (.slice e))(px py w) :
  (do eqGuard (if neg then .neq else .eql) t px py (.slice ad len cap) (.slice none 0 0);binOp (if neg then .neq else .eql) t (.slice ad len cap) (.slice none 0 0):Sem Value).run P w=.ok (.bool (if neg then !ad.isNone else ad.isNone)) w:=by
 have h:(Op.equal t (.slice ad len cap) (.slice none 0 0)).run P w=.ok ad.isNone w:=jz ht 9999 w;have g:(eqGuard (if neg then .neq else .eql) t px py (.slice ad len cap) (.slice none 0 0)).run P w=.ok () w:=by
  unfold eqGuard;cases neg<;>simp
 cases neg<;>simp only[if_true,if_false,zf9z,Sem.run_bind,Result.andThen_ok,binOp,h,Sem.run_pure]at g⊢<;>simp only[g,Result.andThen_ok,h,Sem.run_bind,Sem.run_pure]
theorem T8(hf:FR E fr a.tmps){x y}(hr:Ib x=some y){r}(h:AA fr y=some r) :
  (r=none/\x.map a.eval=none)\/∃k i,r=some i/\x.map a.eval=some (.int k i):=by
 cases x with
 |none=>simp[Ib]at hr;subst hr;simp[AA]at h;subst h;exact .inl ⟨rfl,rfl⟩
 |some x =>
  simp only[Ib,zf0z]at hr;obtain⟨z,hz,rfl⟩:=hr;have hv:=C8 hf hz;simp only[AA]at h;split at h
  .rename_i k i hg;cases h;rw[hg]at hv;simp only[VR]at hv;exact .inr ⟨k,i,rfl,by simp[hv]⟩
  .cases h
theorem T5{k}{i:Int}{y:Nat}{code}(w)(h0:0<=i)(h1:i<=y):(Instr.sliceBound (.int k i) y code).run P w=.ok i.toNat w:=by
 unfold Instr.sliceBound;simp[asIntOf,h0,h1]
theorem QV{b}{len cap:Nat}{lo hi}{l h:Option Int}(w)(hl:(l=none/\lo=none)\/∃k i,l=some i/\lo=some (.int k i))(hh:(h=none/\hi=none)\/∃k i,h=some i/\hi=some (.int k i))
  (h0:0<=l.getD 0) (h1:l.getD 0<=h.getD len) (h2:h.getD len<=len) (hc:len<=cap) :
  (Instr.sliceBounds b len cap lo hi none).run P w=.ok ((l.getD 0).toNat,(h.getD len).toNat,cap) w:=by
 unfold Instr.sliceBounds;rcases hl with ⟨rfl,rfl⟩|⟨k,i,rfl,rfl⟩<;>rcases hh with ⟨rfl,rfl⟩|⟨k',j,rfl,rfl⟩<;>simp only[zg0z,zf8z]at h0 h1 h2 ⊢
 .simp
 .cases b<;>simp[T5 w (show (0:Int)<=j by omega) (show j<=(cap:Int) by omega)]
 .simp[T5 w h0 (show i<=(len:Int) by omega)]
 .have e:i<=((j.toNat:Nat):Int):=by omega
  cases b<;>simp[T5 w (show (0:Int)<=j by omega) (show j<=(cap:Int) by omega),T5 w h0 e]
theorem Ym{len cap:Nat}{lo hi}{l h:Option Int}(w)(hl:(l=none/\lo=none)\/∃k i,l=some i/\lo=some (.int k i))(hh:(h=none/\hi=none)\/∃k i,h=some i/\hi=some (.int k i))
  (h0:0<=l.getD 0) (h1:l.getD 0<=h.getD len) (h2:h.getD len<=cap) :
  (Instr.sliceBounds true len cap lo hi none).run P w=.ok ((l.getD 0).toNat,(h.getD len).toNat,cap) w:=by
 unfold Instr.sliceBounds;rcases hl with ⟨rfl,rfl⟩|⟨k,i,rfl,rfl⟩<;>rcases hh with ⟨rfl,rfl⟩|⟨k',j,rfl,rfl⟩<;>simp only[zg0z,zf8z]at h0 h1 h2 ⊢
 .simp
 .simp[T5 w (show (0:Int)<=j by omega) (show j<=(cap:Int) by omega)]
 .simp[T5 w h0 (show i<=(len:Int) by omega)]
 .have e:i<=((j.toNat:Nat):Int):=by omega
  simp[T5 w (show (0:Int)<=j by omega) (show j<=(cap:Int) by omega),T5 w h0 e]
theorem Ku{b}{len cap:Nat}{lo hi mx}{l h:Option Int}{m}(w)(hl:(l=none/\lo=none)\/∃k i,l=some i/\lo=some (.int k i))(hh:(h=none/\hi=none)\/∃k i,h=some i/\hi=some (.int k i))
  (hm:∃k,mx=some (.int k m)) (hs:h.isSome=true)
  (h0:0<=l.getD 0) (h1:l.getD 0<=h.getD len) (h2:h.getD len<=m) (hc:m<=cap) :
  (Instr.sliceBounds b len cap lo hi mx).run P w=.ok ((l.getD 0).toNat,(h.getD len).toNat,m.toNat) w:=by
 unfold Instr.sliceBounds;obtain⟨km,rfl⟩:=hm;rcases hh with ⟨rfl,rfl⟩|⟨k',j,rfl,rfl⟩
 .simp at hs
 simp only[zf8z]at h1 h2 ⊢;have em:j<=((m.toNat:Nat):Int):=by omega
 rcases hl with ⟨rfl,rfl⟩|⟨k,i,rfl,rfl⟩<;>simp only[zg0z,zf8z]at h0 h1 ⊢
 .cases b<;>simp[T5 w (show (0:Int)<=m by omega) hc,T5 w (show (0:Int)<=j by omega) em]
 .have e:i<=((j.toNat:Nat):Int):=by omega
  cases b<;>simp[T5 w (show (0:Int)<=m by omega) hc,T5 w (show (0:Int)<=j by omega) em,T5 w h0 e]
end
section
variable {E:Env} {P:Program} {fr:Fr} {a:Act} {o:Oper}
theorem q_mov{x y}(hf:FR E fr a.tmps)(ho:o.op=.move x\/o.op=.assign x)(hx:C7 x=some y):DT P a o E (get fr y):=by
 refine⟨a.eval x,?_,C8 hf hx⟩;rcases ho with ho|ho<;>simp[execOp,ho]
theorem q_pick{c x y c' x' y' t}(hf:FR E fr a.tmps)(ho:o.op=.pick c x y)(hc:C7 c=some c')(hx:C7 x=some x')(hy:C7 y=some y')(hg:get fr c'=.bool t) :
  DT P a o E (if t then get fr x' else get fr y'):=by
 have h:=C8 hf hc;rw[hg]at h;simp only[VR]at h;refine⟨if t then a.eval x else a.eval y,?_,?_⟩
 .cases t<;>simp[execOp,ho,h,asBool]
 .cases t
  .exact C8 hf hy
  .exact C8 hf hx
theorem q_ld{t x x' b n v}(hS:SR E)(hf:FR E fr a.tmps)(ho:o.op=.load t x)(hb:Program.agg? P t=some b)(hn:Program.size? P t=some n)(hx:C7 x=some x')
  (h:X3 E.h b n (get fr x')=some v):DT P a o E v:=by
 obtain⟨bl,of,cs,e1,e2,e3⟩:=YA hS (C8 hf hx) h;obtain⟨u,h1,h2⟩:=SZ (P:=P) e2 e3 hb hn;exact⟨u,by simp[execOp,ho,Instr.loadAt,Instr.sureAddr,e1,h1],h2⟩
theorem q_nilck{x x' v}(hf:FR E fr a.tmps)(ho:o.op=.nilCheck x)(hx:C7 x=some x')
  (h:(match get fr x' with | .pv cs=>some (AV.pv cs,E.h) | .ptr b o=>some (.ptr b o,E.h) | .ep k n i q s=>some (.ep k n i q s,E.h) | .fn f cs=>some (.fn f cs,E.h)|_=>none)=some (v,E.h)):DT P a o E v:=by
 have hv:=C8 hf hx;refine⟨a.eval x,?_,?_⟩
 .split at h
  .rename_i hg;rw[hg]at hv;simp only[VR,PV]at hv;obtain⟨b,o',e,_⟩:=hv;simp[execOp,ho,e]
  .rename_i hg;rw[hg]at hv;simp only[VR]at hv;obtain⟨_,e⟩:=hv;simp[execOp,ho,e]
  .rename_i hg;rw[hg]at hv;simp only[VR]at hv;obtain⟨a',o',f,e,_⟩:=hv;simp[execOp,ho,e]
  .rename_i hg;rw[hg]at hv;simp only[VR]at hv;obtain⟨us,e,_⟩:=hv;simp[execOp,ho,e]
  .cases h
 .split at h<;>first|(cases h;done)|(rename_i hg;rw[hg]at hv;simp at h;rw[←h];exact hv)
theorem q_bin{op t t' x y x' y' v}(hf:FR E fr a.tmps)(ho:o.op=.binOp op t x y t')(hx:C7 x=some x')(hy:C7 y=some y')
  (h:M7 op (get fr x') (get fr y')=some v):DT P a o E v:=by
 obtain⟨u,h1,h2⟩:=vR (P:=P) (t:=t) (C8 hf hx) (C8 hf hy) x y E.w h;refine⟨u,?_,h2⟩;simp only[execOp,ho,Sem.run_bind]at h1 ⊢;rw[h1];rfl
theorem q_beq{neg:Bool}{t t' x y x' y' i j}(hf:FR E fr a.tmps)(ho:o.op=.binOp (if neg then .neq else .eql) t x y t')(ht:P.underlying t=some .bool)(hx:C7 x=some x')(hy:C7 y=some y')
  (hi:get fr x'=.bool i) (hj:get fr y'=.bool j):DT P a o E (.bool (if neg then !(i == j)else i == j)):=by
 have e1:=C8 hf hx;have e2:=C8 hf hy;rw[hi]at e1;rw[hj]at e2;simp only[VR]at e1 e2;refine⟨_,?_,Su _⟩;have h:=vQ (neg:=neg) (i:=i) (j:=j) ht x y E.w;simp only[execOp,ho,Sem.run_bind,e1,e2]at h ⊢;rw[h];rfl
theorem q_nileq{neg:Bool}{t e t' x y x' full z xs}(hf:FR E fr a.tmps)(ho:o.op=.binOp (if neg then .neq else .eql) t x y t')(ht:P.underlying t=some (.slice e))(hx:C7 x=some x')(hy:C7 y=some (.c (.vs true 0 [])))
  (hi:get fr x'=.vs full z xs):DT P a o E (.bool (if neg then !(z == 0)else z == 0)):=by
 have e1:=C8 hf hx;have e2:=C8 hf hy;rw[hi]at e1;simp only[get,VR,PV]at e1 e2;obtain⟨ad,len,cap,e3,e4,e5,e6,e7,e8,e9⟩:=e1;obtain⟨ad',len',cap',k3,k4,k5,k6,k7,k8,k9⟩:=e2;obtain rfl:=k8.2.2 trivial;obtain rfl:len'=0:=k4;obtain rfl:=k8.1 rfl;refine⟨_,?_,Su _⟩;have h:=YK (neg:=neg) (ad:=ad) (len:=len) (cap:=cap) ht x y E.w;have hz:ad.isNone=(z == 0):=by
  cases ad with
  |none=>simp[e8.2.1 rfl]
  |some a =>
        have:z≠0:=λhz=>by have:=e8.2.2 hz;cases this
        simp[this]
 rw[hz]at h;simp only[execOp,ho,Sem.run_bind,e3,k3]at h ⊢;rw[h];rfl
theorem tw{neg t e t' x y x' ad len cap}(hf:FR E fr a.tmps)(ho:o.op=.binOp (if neg then .neq else .eql) t x y t')(ht:P.underlying t=some (.slice e))(hx:C7 x=some x')(hy:C7 y=some (.c (.vs true 0 [])))
  (hi:a.eval x=.slice (some ad) len cap):DT P a o E (.bool neg):=by
 have e2:=C8 hf hy;simp only[get,VR,PV]at e2;obtain⟨ad',len',cap',k3,k4,k5,k6,k7,k8,k9⟩:=e2;obtain rfl:=k8.2.2 trivial;obtain rfl:len'=0:=k4;obtain rfl:=k8.1 rfl;refine⟨_,?_,Su _⟩;have h:=YK (neg:=neg) (ad:=some ad) (len:=len) (cap:=cap) ht x y E.w;simp only[Option.isNone_some,Bool.not_false]at h;have hb:(if neg=true then true else false)=neg:=by cases neg<;>rfl
 rw[hb]at h;simp only[execOp,ho,Sem.run_bind,hi,k3]at h ⊢;rw[h];rfl
theorem q_nq{neg t e t' x y x' v h1}(hf:FR E fr a.tmps)(ho:o.op=.binOp (if neg then .neq else .eql) t x y t')(ht:P.underlying t=some (.slice e))(hx:C7 x=some x')(hy:C7 y=some (.c (.vs true 0 [])))
  (hi:nqA neg E.h (get fr x')=some (v,h1)):h1=E.h/\DT P a o E v:=by
 have e1:=C8 hf hx;unfold nqA at hi;split at hi
 .rename_i hg;cases hi;exact⟨rfl,q_nileq hf ho ht hx hy hg⟩
 .rename_i hg;split at hi
  .cases hi
  .rename_i hl;cases hi;rw[hg]at e1;simp only[VR]at e1;obtain⟨ad,cap,f,e2,-,⟨-,e3⟩,-⟩:=e1;obtain⟨b,o',rfl⟩:=e3 hl;exact⟨rfl,tw hf ho ht hx hy e2⟩
 .rename_i hg;cases hi;rw[hg]at e1;simp only[VR]at e1;obtain⟨-,cap,e2,-⟩:=e1;exact⟨rfl,tw hf ho ht hx hy e2⟩
 .cases hi
theorem q_un{op t x x' v}(hf:FR E fr a.tmps)(ho:o.op=.unOp op t x)(hx:C7 x=some x')(h:Rv op (get fr x')=some v):DT P a o E v:=by
 have hv:=C8 hf hx;generalize get fr x'=y at h hv;cases y<;>cases op<;>simp only[Rv]at h<;>cases h
 .simp only[VR]at hv;refine⟨_,?_,Su _⟩;simp only[execOp,ho,hv,Op.unary,Sem.run_bind,Sem.run_pure,Result.andThen_ok]
 .simp only[VR]at hv;refine⟨_,?_,Jn _ _⟩;simp only[execOp,ho,hv,Op.unary,Op.intArith,Sem.run_bind,Sem.run_pure,Result.andThen_ok]
theorem q_conv{s d k k0 x x' q n}(hf:FR E fr a.tmps)(ho:o.op=.convert s d x)(hs:P.underlying s=some (.int k0))(hd:P.underlying d=some (.int k))(hx:C7 x=some x')
  (hg:get fr x'=.int q n):DT P a o E (.int k (k.wrap n)):=by
 have hv:=C8 hf hx;rw[hg]at hv;simp only[VR]at hv;exact⟨_,by simp[execOp,ho,convert,R5 hs,R5 hd,hv,Conv.intToInt],Jn _ _⟩
theorem q_clos{f first caps cs}(hf:FR E fr a.tmps)(ho:o.op=.makeFunc (.func f) first caps)(h0:first.size=0)(hc:IW C7 caps.toList=some cs) :
  DT P a o E (.fn f (cs.map (get fr))):=by
 have:=zf6z.1 h0;subst this;refine⟨.func (.func f) #[] (caps.map a.eval),by simp[execOp,ho,Instr.makeFunc],?_⟩;simp only[VR];exact⟨_,rfl,Qv hf hc⟩
theorem q_faddr{s x x' i n fs f v}(hf:FR E fr a.tmps)(ho:o.op=.fieldAddr s x i)(hs:P.underlying s=some (.struct fs))(hi:fs[i]?=some f)
  (hn:Program.size? P f.type=some n) (V5:0<n) (hx:C7 x=some x')
  (h:(match get fr x' with | .pv cs=>some (AV.pv (cs.drop f.offset),E.h) | .ptr b o=>some (.ptr b (o+f.offset),E.h) | .ep k n i q s=>some (.ep k n i (q+f.offset) s,E.h)|_=>none)=some (v,E.h)):DT P a o E v:=by
 have hv:=C8 hf hx;have hp:∀b q,(fieldPlace ⟨b,q,none⟩ f).run P E.w=.ok ⟨b,q+f.offset,none⟩ E.w:=by
  intro b q;unfold fieldPlace;simp[GF hn,show ¬n=0 from by omega,Dl]
 split at h
 .rename_i cs hg;rw[hg]at hv;simp only[VR,PV]at hv;obtain⟨b,q,e,hc⟩:=hv;simp at h;subst h;refine⟨.pointer (some ⟨b,q+f.offset,none⟩),oB,?_⟩;simp only[VR,PV];refine⟨b,q+f.offset,rfl,NB λj c hc'=>?_⟩;rw[zf3z]at hc';have:=CM hc hc'
  rwa [show q+(f.offset+j)=q+f.offset+j from by omega]at this
 .rename_i b q hg;rw[hg]at hv;simp only[VR]at hv;obtain⟨hb,e⟩:=hv;simp at h;subst h;exact⟨.pointer (some ⟨E.nb b,q+f.offset,none⟩),oB,by simp only[VR];exact⟨hb,trivial⟩⟩
 .rename_i k m j q sz hg;rw[hg]at hv;simp only[VR]at hv;obtain⟨b,q',g,e,hg1,hg2,hg3⟩:=hv;simp at h;subst h;refine⟨.pointer (some ⟨b,q'+f.offset,none⟩),oB,?_⟩;simp only[VR];refine⟨b,_,g,rfl,hg1,hg2,λhm=>?_⟩;obtain⟨h1,h2⟩:=hg3 hm;simp only[Addr.mk.injEq]at h2 ⊢;exact⟨h1,h2.1,a_,trivial⟩
 .cases h
theorem uI{t b}(ha:Program.agg? P t=some b)(w):(isAgg t).run P w=.ok b w:=by
 unfold Program.agg? at ha;unfold isAgg underlying;split at ha<;>simp_all
theorem VR_take{cs}{us:Array Value}{off n}(h:i7 E cs us.toList)(h1:∀u∈us.toList,u.oneCell'=true){b v}(hv:Q6 b n (cs.drop off)=some v) :
  (b=true->VR E v (.agg (us.extract off (off+n))))/\(b=false->∃u,us[off]?=some u/\VR E v u):=by
 obtain⟨hl,hg⟩:=EW h;cases b with
 |true =>
  refine⟨λ_=>?_,λh=>by cases h⟩;simp only[Q6]at hv;split at hv
  .rename_i OK;cases hv;simp only[VR];have D6:us.size=cs.length:=by simpa using hl
   simp at OK;refine⟨_,rfl,λu hu=>h1 u ?_,Rl f8 λj c u hc hu=>?_⟩
   .rw[zg1z]at hu;exact List.mem_of_mem_drop (List.mem_of_mem_take hu)
   .have hj:j<n:=by have:=(zf1z.1 hc).1;simp at this;omega
    rw[zf2z,if_pos hj,zf3z]at hc;obtain⟨u',h2,h3⟩:=hg hc;have:u=u':=by
     have h4:us.toList[off+j]?=some u:=by
      simp only[zg1z,List.extract_eq_take_drop,zf2z,zf3z]at hu;split at hu
      .exact hu
      .cases hu
     rw[h4]at h2;simpa using h2
    subst this;exact h3
  .cases hv
 |false =>
  refine⟨λh=>by (cases h),λ_=>?_⟩;simp only[Q6]at hv;have h0:cs[off]?=some v:=by rw[←hv,zg8z]
  obtain⟨u,h2,h3⟩:=hg h0;exact⟨u,by simpa using h2,h3⟩
theorem q_fld{s x x' i n fs f b cs v}(hf:FR E fr a.tmps)(ho:o.op=.field s x i)(hs:P.underlying s=some (.struct fs))(hi:fs[i]?=some f)
  (hb:Program.agg? P f.type=some b) (hn:Program.size? P f.type=some n) (hx:C7 x=some x') (hg:get fr x'=.agg cs) (h:Q6 b n (cs.drop f.offset)=some v):DT P a o E v:=by
 have hv:=C8 hf hx;rw[hg]at hv;simp only[VR]at hv;obtain⟨us,e,h1,h2⟩:=hv;obtain⟨t1,t2⟩:=VR_take h2 h1 h;cases b with
 |true=>exact⟨_,by simp[execOp,ho,Instr.field,R5 hs,hi,e,asAgg,part,uI hb,GF hn],t1 rfl⟩
 |false =>
  obtain⟨u,h3,h4⟩:=t2 rfl;exact⟨u,by simp[execOp,ho,Instr.field,R5 hs,hi,e,asAgg,part,uI hb,h3],h4⟩
theorem q_iaddr{t e x i x' i' n v}(hS:SR E)(hf:FR E fr a.tmps)(ho:o.op=.indexAddr t x i)(ht:P.underlying t=some (.slice e))(hn:Program.size? P e=some n)
  (hx:C7 x=some x') (hi:C7 i=some i')
  (h:(match get fr x',get fr i' with
   | .vs _ z xs,.int _ j=>if 0<=j/\z=n then (match xs[j.toNat]? with|some e=>some (AV.pv e.cells,E.h)|none=>none)else none
   | .sl k m off len,.int _ j=>if 0<=j/\j<len then some (.ep k m (off+j.toNat) 0 n,E.h)else none
   | .bsl b s off len,.int _ j=>if 0<=j/\j<len/\s=n then some (.ptr b (off+j.toNat*n),E.h)else none
   |_,_=>none)=some (v,E.h)):DT P a o E v:=by
 have hv:=C8 hf hx;have hw:=C8 hf hi;split at h
 .rename_i full z xs q j hg hj;rw[hg]at hv;rw[hj]at hw;simp only[VR,PV]at hv hw;split at h
  .rename_i hc;split at h
   .rename_i el Ry;obtain⟨ad,len,cap,e1,e2,e3,e4,e5,e6,e7⟩:=hv;have C2:=(zf1z.1 Ry).1;obtain⟨b,q',rfl,_,hels⟩:=e7 (by intro hn;subst hn;simp at C2);have hp:=NL hels Ry;simp at h;subst h;have hjl:j<(len:Int):=by omega
    refine⟨.pointer (some ⟨b,q'+j.toNat*n,none⟩),?_,?_⟩
    .simp[execOp,ho,Instr.indexAt,hw,asIntOf,R5 ht,e1,hc.1,hjl,GF hn,Dl]
    .simp only[VR,PV];rw[hc.2]at hp;exact⟨b,_,rfl,hp.2⟩
   .cases h
  .cases h
 .rename_i k m off len q j hg hj;rw[hg]at hv;rw[hj]at hw;simp only[VR]at hv hw;split at h
  .rename_i hc;obtain⟨hj0,hjl⟩:=hc;obtain⟨ad,cap,f',e1,e2,⟨e3,e5⟩,e4⟩:=hv;obtain⟨b,q',rfl⟩:=e5 a_;simp at h;subst h;refine⟨.pointer (some ⟨b,q'+j.toNat*n,none⟩),?_,?_⟩
   .simp[execOp,ho,Instr.indexAt,hw,asIntOf,R5 ht,e1,hj0,hjl,GF hn,Dl]
   .simp only[VR];refine⟨_,_,f',rfl,e2,e3,λhm=>?_⟩;obtain⟨l1,l2,l3,l4,l5⟩:=e4 hm.1;have hF:=hS.fams k f' e2;have Am:=hF.room;have ead:=l5 a_;simp only[Option.some.injEq,Addr.mk.injEq]at ead;obtain⟨rfl,rfl,_⟩:=ead;refine⟨a_,?_⟩;rw[←hm.2,Nat.add_zero,show off+j.toNat-(E.im k).lo=(off-(E.im k).lo)+j.toNat from by omega,zt0z,←zg9z]
  .cases h
 .rename_i b s off len q j hg hj;rw[hg]at hv;rw[hj]at hw;simp only[VR]at hv hw;split at h
  .rename_i hc;obtain⟨hj0,hjl,rfl⟩:=hc;obtain⟨hb,cap,e1,e2,e3⟩:=hv;simp at h;subst h;refine⟨.pointer (some ⟨E.nb b,off+j.toNat*s,none⟩),?_,?_⟩
   .simp[execOp,ho,Instr.indexAt,hw,asIntOf,R5 ht,e1,hj0,hjl,GF hn,Dl]
   .simp only[VR];exact⟨hb,trivial⟩
  .cases h
 .cases h
theorem q_idx{t x i x' i' s q j b}(hf:FR E fr a.tmps)(ho:o.op=.index t x i)(ht:P.underlying t=some .string)(hx:C7 x=some x')(hi:C7 i=some i')
  (hg:get fr x'=.str s) (hj:get fr i'=.int q j) (h0:0<=j) (hb:s[j.toNat]?=some b):DT P a o E (.int .u8 b.toNat):=by
 have hv:=C8 hf hx;have hw:=C8 hf hi;rw[hg]at hv;rw[hj]at hw;simp only[VR]at hv hw;exact⟨_,by simp[execOp,ho,Instr.index,hw,hv,asIntOf,R5 ht,h0,hb],Jn _ _⟩
theorem q_ext{x x' i vs v}(hf:FR E fr a.tmps)(ho:o.op=.extract x i)(hx:C7 x=some x')(hg:get fr x'=.tup vs)(h:vs[i]?=some v):DT P a o E v:=by
 have hv:=C8 hf hx;rw[hg]at hv;simp only[VR]at hv;obtain⟨us,e,h2⟩:=hv;obtain⟨u,h3,h4⟩:=(EW h2).2 h;have h3':us[i]?=some u:=by simpa using h3
 exact⟨u,by simp[execOp,ho,Instr.extract,e,h3'],h4⟩
end
end Go.Abs
