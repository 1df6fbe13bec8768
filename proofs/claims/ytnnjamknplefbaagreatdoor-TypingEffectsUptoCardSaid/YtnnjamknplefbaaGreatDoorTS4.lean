/- A part of the proof. -/
import Derived.Test.YtnnjamknplefbaaGreatDoorTS3
set_option linter.all false
open Option renaming map_eq_some_iff->zf0z,bind_eq_some_iff->zf4z,getD_some->zf8z,getD_none->zg0z
open List renaming getElem?_eq_some_iff->zf1z,getElem?_take->zf2z,mem_of_getElem?->zf3z,getElem?_drop->zf5z,length_take->zf6z,getD->zg2z,all_eq_true->zg5z,length_drop->zg6z
open Array renaming size_eq_zero_iff->zf7z
open Bool renaming false_eq_true->zf9z
open Nat renaming mul_le_mul_right->zg1z,succ_mul->zg3z,zero_add->zg4z
set_option linter.all false
namespace Go.Abs
open Go.RowKit (Below)
def DC(w:World)(ok:Nat->Nat->Prop):Prop:=∀x∈iG,PV w ok (.pv x.2) (.pointer (some ⟨x.1,0,none⟩))
theorem DC.mono{w w':World}{ok ok':Nat->Nat->Prop}(h:∀b o,ok b o->ok' b o/\El w w' b o)(hg:DC w ok):DC w' ok':=λx hx=>x7 h _ _ (hg x hx)
structure FR (E:Env) (fr:Fr) (tmps:Array Value):Prop where
 len:fr.length=tmps.size
 val:∀t:Nat,VR E (fr.getD t B4) (tmps.getD t undef)
 glob:DC E.w E.ok
theorem DE(E:Env):VR E B4 undef:=by simp[B4,undef,VR,W5]
theorem FR.ext{E E':Env}(h:Ext E E'){fr:Fr}{tmps:Array Value}(hf:FR E fr tmps):FR E' fr tmps:=⟨hf.len,λt=>PG h _ _ (hf.val t),hf.glob.mono h.cells⟩
theorem FR.put{E:Env}{fr:Fr}{a:Act}(hf:FR E fr a.tmps)(dst:Option Nat){v:AV}{u:Value}(hv:VR E v u):FR E (put fr dst v) (a.put dst u).tmps:=by
 cases dst with
 |none=>exact hf
 |some d =>
  refine⟨by simp[Abs.put,Act.put,hf.len],λt=>?_,hf.glob⟩;simp only[Abs.put,Act.put];by_cases hd:d<fr.length
  .by_cases ht:d=t
   .subst ht;have hd':d<a.tmps.size:=by rw[←hf.len];exact hd
    simpa[zg2z,Array.getD,hd,hd']using hv
   .have:=hf.val t;simpa[zg2z,List.getElem?_set_ne ht,Array.getElem?_setIfInBounds_ne ht]using this
  .have:=hf.val t;have hd':¬d<a.tmps.size:=by rw[←hf.len];exact hd
   have e1:fr.set d v=fr:=List.set_eq_of_length_le (by omega);have e2:a.tmps.setIfInBounds d u=a.tmps:=Array.setIfInBounds_eq_of_size_le (by omega);rw[e1,e2];exact this
theorem Jy{α β:Type}{f:α->Option β}:∀{l:List α} {r:List β},GK f l=some r->r.length=l.length/\∀(j:Nat) (x:α),l[j]?=some x->∃y,f x=some y/\r[j]?=some y
 | [],r,h=>by simp[GK]at h;subst h;simp
 |a::l,r,h=>by
  simp only[GK]at h;split at h
  .rename_i y ys h1 h2;cases h;obtain⟨hl,hg⟩:=Jy h2;refine⟨by simp[hl],λj x hx=>?_⟩;cases j with
   |zero=>simp at hx;subst hx;exact⟨y,h1,rfl⟩
   |succ j=>simpa using hg j x (by simpa using hx)
  .cases h
theorem IT{w:World}{ok:Nat->Nat->Prop}:∀{v:Value} {x:AV},LG v=some x->PV w ok x v/\v.oneCell'=true:=by
 intro v x h;unfold LG at h;split at h
 case h_1=>cases h;exact⟨by simp[PV],rfl⟩
 case h_2=>cases h;exact⟨by simp[PV],rfl⟩
 case h_3=>cases h;exact⟨by simp[PV],rfl⟩
 case h_4=>cases h;exact⟨by simp only[PV];exact⟨none,0,0,rfl,rfl,by omega,by omega,λ_=>rfl,⟨λ_=>rfl,by simp⟩,λh=>absurd rfl h⟩,rfl⟩
 case h_5=>cases h;exact⟨by simp[PV],rfl⟩
 case h_6=>cases h;exact⟨by simp[PV],rfl⟩
 case h_7=>cases h;exact⟨by simp[PV],rfl⟩
 case h_8=>cases h;exact⟨by simp[PV,Value.oneCell'],rfl⟩
 case h_10=>cases h
 case h_9 f a b =>
  split at h
  .rename_i hs;cases h;have ha:a=#[]:=zf7z.1 hs.1;have hb:b=#[]:=zf7z.1 hs.2;subst ha;subst hb;exact⟨by simp[PV,Aj],rfl⟩
  .cases h
theorem Aw{w:World}{ok:Nat->Nat->Prop}{v:Value}{x:AV}(h:Ly v=some x):PV w ok x v:=by
 unfold Ly at h;split at h
 .rename_i cs;cases hm:GK LG cs.toList with
  |none=>simp[hm]at h
  |some ys =>
   simp[hm]at h;subst h;obtain⟨hl,hg⟩:=Jy hm;simp only[PV];refine⟨cs,rfl,λu hu=>?_,Rb hl.symm λj c u hc hu=>?_⟩
   .obtain⟨j,hj⟩:=List.getElem?_of_mem hu;obtain⟨y,hy,_⟩:=hg j u hj;exact(IT (w:=w) (ok:=ok) hy).2
   .obtain⟨y,hy,hy'⟩:=hg j u hu;have:c=y:=by rw[hc]at hy';simpa using hy'
    subst this;exact(IT hy).1
 .rename_i vs;split at h
  .rename_i hs;cases h;have:vs=#[]:=zf7z.1 hs;subst this;simp[PV,Aj]
  .cases h
 .exact(IT h).1
section
variable {E:Env}
theorem C4{fr:Fr}{a:Act}(hf:FR E fr a.tmps){x:Operand}{y:Opd}(h:C5 x=some y):VR E (get fr y) (a.eval x):=by
 cases x with
 |tmp t=>simp[C5]at h;subst h;exact hf.val t
 |const v =>
  simp only[C5]at h;cases hc:Ly v with
  |none=>simp[hc]at h
  |some av=>simp[hc]at h;subst h;exact r9 _ _ (Aw hc)
 |global g =>
  simp only[C5,zf0z]at h;obtain⟨p,hp,rfl⟩:=h;have h1:=List.find?_some hp;have h2:=List.mem_of_find?_eq_some hp;have e:=Nat.eq_of_beq_eq_true h1;have:=hf.glob p h2;rw[e]at this;exact r9 _ _ this
 |func f=>simp[C5]at h;subst h;simp[get,Act.eval,VR,W5]
theorem Ke{fr:Fr}{a:Act}(hf:FR E fr a.tmps){xs:Array Operand}{ys:List Opd}(h:GK C5 xs.toList=some ys):W5 E (ys.map (get fr)) (xs.map a.eval).toList:=by
 obtain⟨hl,hg⟩:=Jy h;refine LB (by simpa using hl.symm) λj c u hc hu=>?_;simp only[Array.toList_map,List.getElem?_map]at hc hu;cases hx:xs.toList[j]? with
 |none=>simp[hx]at hu
 |some x =>
  obtain⟨y,hy,hy'⟩:=hg j x hx;simp[hx]at hu;simp[hy']at hc;subst hu;subst hc;exact C4 hf hy
theorem VR_one{x:AV}{v:Value}(h:VR E x v)(ht:x.isTup=false)(ha:∀cs,x≠.agg cs):v.oneCell'=true/\v.cells=#[v]:=by
 cases x<;>simp only[VR,PV]at h
 case agg cs=>exact absurd rfl (ha cs)
 case tup=>simp[AV.isTup]at ht
 case junk=>refine⟨h,?_⟩;cases v<;>simp_all [Value.oneCell',Value.cells]
 case vs=>obtain⟨a,len,cap,rfl,_⟩:=h;exact⟨rfl,rfl⟩
 case sl=>obtain⟨a,cap,f,rfl,_⟩:=h;exact⟨rfl,rfl⟩
 case pv=>obtain⟨b,o,rfl,_⟩:=h;exact⟨rfl,rfl⟩
 case ep=>obtain⟨b,o,f,rfl,_⟩:=h;exact⟨rfl,rfl⟩
 case ptr=>obtain⟨_,rfl⟩:=h;exact⟨rfl,rfl⟩
 case mp=>obtain⟨_,rfl⟩:=h;exact⟨rfl,rfl⟩
 case bsl=>obtain⟨_,cap,rfl,_⟩:=h;exact⟨rfl,rfl⟩
 case vm=>obtain⟨b,es,clk,rfl,_⟩:=h;exact⟨rfl,rfl⟩
 case fn=>obtain⟨us,rfl,_⟩:=h;exact⟨rfl,rfl⟩
 all_goals (subst h;exact⟨rfl,rfl⟩)
theorem IN{x:AV}{v:Value}(h:VR E x v)(ht:x.isTup=false):W5 E x.cells v.cells.toList/\∀u∈v.cells.toList,u.oneCell'=true:=by
 by_cases ha:∃cs,x=.agg cs
 .obtain⟨cs,rfl⟩:=ha;simp only[VR]at h;obtain⟨us,rfl,h1,h2⟩:=h;exact⟨h2,h1⟩
 .have ha':∀cs,x≠.agg cs:=λcs e=>ha ⟨cs,e⟩;obtain⟨h1,h2⟩:=VR_one h ht ha';have hc:x.cells=[x]:=by cases x<;>first|rfl|exact absurd rfl (ha' _)
  rw[hc,h2];exact⟨by simp[W5,h],by simpa using h1⟩
theorem BM{i n sz c:Nat}(hi:i<n)(hc:c<sz):i*sz+c<n*sz:=by
 have:(i+1)*sz<=n*sz:=zg1z _ hi;rw[zg3z]at this;omega
theorem zw(hS:SR E){k n off len:Nat}{v:Value}{f:Fam}(hv:VR E (.sl k n off len) v)(hf:E.h.fams[k]?=some f)(hn:f.xs.length=n)(ho:off+len<=n)
  {ok':Nat->Nat->Prop} (T9:∀b o,E.ok b o->ok' b o) (hown:f.wr=true->∀b o,E.base<=b->b<E.w.heap.size->ok' b o) :
  PV E.w ok' (.vs false f.sz ((f.xs.drop off).take len)) v:=by
 simp only[VR]at hv;obtain⟨a,cap,f',rfl,hf',Ju,hc⟩:=hv;have:f'=f:=by rw[hf]at hf';simpa using hf'.symm
 subst this;obtain⟨h1,h2,h3,h4,h5⟩:=hc hn;have hF:=hS.fams k f' hf;have hk:=(zf1z.1 hf).1;have hb:=hS.im_lt hk;have n8:=hF.room;have hcap:=hF.cap;have J3:((f'.xs.drop off).take len).length=len:=by simp;omega
 simp only[PV];refine⟨a,len,cap,rfl,J3.symm,by omega,by omega,by simp,⟨λe=>absurd e h4,⟨λe=>absurd e h4,λe=>absurd hF.sz (by omega)⟩⟩,λs9=>?_⟩;have Z6:0<len:=by
  rcases Nat.eq_zero_or_pos len with h0|h0
  .subst h0;simp at s9
  .exact h0
 refine⟨_,_,h5 (by omega),hF.sz,Nk λj x hx=>?_⟩;have hj:j<len:=by have:=(zf1z.1 hx).1;omega
 have hx':f'.xs[off+j]?=some x:=by
  rw[zf2z,if_pos hj,zf5z]at hx;exact hx
 obtain⟨cur,t,c1,c2,c3⟩:=hF.cells;obtain⟨e1,e2⟩:=c3 (off+j) x (by omega) hx';have epos:(E.im k).o+(off+j-(E.im k).lo)*f'.sz=(E.im k).o+(off-(E.im k).lo)*f'.sz+j*f'.sz:=by
  rw[show off+j-(E.im k).lo=(off-(E.im k).lo)+j from by omega,Nat.add_mul];omega
 refine⟨e1,IC λc y hy=>?_⟩;obtain⟨u,u1,u2,u3⟩:=e2 c y hy;have o9:c<f'.sz:=by have:=(zf1z.1 hy).1;omega
 rw[epos]at u1;refine⟨u,?_,?_,u2,x7 (λb o h=>⟨T9 b o h,El.refl _ _ _⟩) _ _ u3⟩
 .cases hw:f'.wr with
  |true=>exact hown hw _ _ hb.1 hb.2
  |false =>
   refine T9 _ _ (.inr ⟨hb.1,hb.2,λi hi e=>absurd e (hS.sep i k hi hk),λk' g DB he=>?_⟩);have hk'':=(zf1z.1 DB).1;have:=hS.injf k' k hk'' hk he;subst this;have:g=f':=by rw[hf]at DB;simpa using DB.symm
   subst this;refine⟨hw,?_⟩;rw[←epos,Nat.add_assoc];exact Nat.add_lt_add_left (BM (by omega) o9) _
 .rw[cell_of_row _ _ _ _ _ _ c1];exact u1
theorem Nz{x:AV}{v:Value}(h:VR E x v)(hf:x.flat=true):PV E.w E.ok x v:=by
 cases x<;>simp only[VR]at h<;>first|exact h|(simp[AV.flat]at hf;done)|skip
 all_goals simp only[PV]
 all_goals first
  |exact h
  |skip
 case fn f caps =>
  obtain⟨us,rfl,hu⟩:=h;have hc:caps=[]:=by simpa[AV.flat]using hf
  subst hc;refine⟨us,rfl,?_⟩;simpa[W5,Aj]using hu
def Ra(E:Env)(am:Bool)(ok':Nat->Nat->Prop):Prop:=(∀b o,E.ok b o->ok' b o)/\(am=true->∀b o,E.base<=b->b<E.w.heap.size->ok' b o)
theorem qU{x:AV}{v:Value}(hv:VR E x v)(hf:S0 x=true):PV E.w E.ok x v:=by
 cases x
 case agg cs =>
  simp only[S0]at hf;simp only[VR]at hv;obtain⟨us,rfl,h1,hu⟩:=hv;obtain⟨hl,hg⟩:=Bi hu;simp only[PV];refine⟨us,rfl,h1,Rb hl λj c u hc' hu'=>?_⟩;obtain⟨u',h1,h2⟩:=hg hc';have:u'=u:=by rw[hu']at h1;simpa using h1.symm
  subst this;exact Nz h2 ((zg5z.1 hf) c (zf3z hc'))
 case tup=>cases hf
 all_goals exact Nz hv hf
theorem dt(hS:SR E){am:Bool}{ok':Nat->Nat->Prop}(T9:Ra E am ok'){x y:AV}{v:Value}(hv:VR E x v)(h:lA E.h am x=some y):PV E.w ok' y v:=by
 unfold lA at h;split at h
 .split at h
  .rename_i f hf;split at h
   .rename_i hc;cases h;refine zw hS hv hf hc.1 hc.2.1 T9.1 (λhw=>T9.2 ?_);have:=hc.2.2;simpa[hw]using this
   .cases h
  .cases h
 .split at h
  .rename_i hf;cases h;exact x7 (λb o h=>⟨T9.1 b o h,El.refl _ _ _⟩) _ _ (qU hv hf)
  .cases h
theorem QK(hS:SR E){am:Bool}{ok':Nat->Nat->Prop}(T9:Ra E am ok'):∀{xs ys:I7} {us:List Value},W5 E xs us->MZ E.h am xs=some ys->Aj E.w ok' ys us
 | [],ys,us,hv,h=>by simp[MZ]at h;subst h;simpa[W5,Aj]using hv
 |x::xs,ys,us,hv,h=>by
  simp only[MZ,zf4z,zf0z]at h;obtain⟨y,hy,ys',Nc,rfl⟩:=h;simp only[W5]at hv;obtain⟨u,us',rfl,h1,h2⟩:=hv;simp only[Aj];exact⟨u,us',rfl,dt hS T9 h1 hy,QK hS T9 h2 Nc⟩
theorem SJ(hS:SR E){am:Bool}{ok':Nat->Nat->Prop}(T9:Ra E am ok'){x y:AV}{v:Value}(hv:VR E x v)(h:dq E.h am x=some y):PV E.w ok' y v/\(v.oneCell'=true->True)/\y.isTup=false:=by
 have up:∀{z:AV} {u:Value},PV E.w E.ok z u->PV E.w ok' z u:=λhz=>x7 (λb o h=>⟨T9.1 b o h,El.refl _ _ _⟩) _ _ hz;cases x<;>simp only[dq]at h
 case sl k n off len =>
  split at h
  .rename_i f hf;split at h
   .rename_i hc;cases h;refine⟨zw hS hv hf hc.1 hc.2.1 T9.1 (λhw=>T9.2 ?_),λ_=>trivial,rfl⟩;have:=hc.2.2;simpa[hw]using this
   .cases h
  .cases h
 case ep=>cases h
 case ptr=>cases h
 case agg=>cases h
 case tup=>cases h
 case mbox=>cases h
 case rbox=>cases h
 case tbox=>cases h
 case bsl=>cases h
 case mp b =>
  split at h
  .rename_i ks vs hb;split at h
   .rename_i ham;rw[zf0z]at h;obtain⟨ws,hws,rfl⟩:=h;simp only[VR]at hv;obtain⟨G9,rfl⟩:=hv;obtain⟨es,clk,h1,h2,h3⟩:=(hS.boxes b _ hb (G9.ne hb)).map;have Hr:=hS.nb_lt G9;refine⟨?_,λ_=>trivial,rfl⟩;simp only[PV];exact⟨E.nb b,es,clk,rfl,T9.2 ham _ _ Hr.1 Hr.2,h1,Bh (λb o h=>⟨T9.1 b o h,El.refl _ _ _⟩) _ _ h2,QK hS T9 h3 hws⟩
   .cases h
  .cases h
 case fn f caps =>
  split at h
  .rename_i hc;cases h;refine⟨?_,λ_=>trivial,rfl⟩;simp only[VR]at hv;obtain⟨us,rfl,hu⟩:=hv;obtain⟨hl,hg⟩:=Bi hu;simp only[PV];refine⟨us,rfl,Rb hl λj c u hc' hu'=>?_⟩;obtain⟨u',h1,h2⟩:=hg hc';have:u'=u:=by rw[hu']at h1;simpa using h1.symm
   subst this;exact up (Nz h2 ((zg5z.1 hc) c (zf3z hc')))
  .cases h
 all_goals (cases h;exact⟨up (Nz hv rfl),λ_=>trivial,rfl⟩)
theorem QI(hS:SR E){am:Bool}{ok':Nat->Nat->Prop}(T9:Ra E am ok'):∀{xs ys:I7} {us:List Value},W5 E xs us->MY E.h am xs=some ys->Aj E.w ok' ys us
 | [],ys,us,hv,h=>by simp[MY]at h;subst h;simpa[W5,Aj]using hv
 |x::xs,ys,us,hv,h=>by
  simp only[MY,zf4z,zf0z]at h;obtain⟨y,hy,ys',Nc,rfl⟩:=h;simp only[W5]at hv;obtain⟨u,us',rfl,h1,h2⟩:=hv;simp only[Aj];exact⟨u,us',rfl,(SJ hS T9 h1 hy).1,QI hS T9 h2 Nc⟩
theorem Uv(sz:Nat):∀(n:Nat) (cs:I7),(MU sz cs n).length=n
 |0,cs=>rfl
 |n+1,cs=>by rw[MU,List.length_cons,Uv sz n]
theorem Uu(sz:Nat):∀(n:Nat) (cs:I7) (j:Nat) (x:AV),(MU sz cs n)[j]?=some x->j<n/\x=if sz=1 then (cs.drop (j*sz)).headD .junk else .agg ((cs.drop (j*sz)).take sz)
 |0,cs,j,x,h=>by simp[MU]at h
 |n+1,cs,j,x,h=>by
  rw[MU]at h;cases j with
  |zero=>simp at h;exact⟨by omega,by rw[←h];simp⟩
  |succ j =>
   obtain⟨h1,h2⟩:=Uu sz n _ j x (by simpa using h);refine⟨by omega,?_⟩;rw[h2,List.drop_drop,show sz+j*sz=(j+1)*sz from by rw[zg3z];omega]
theorem EP{cs:I7}{us:List Value}(h:W5 E cs us):us.length=cs.length:=(Bi h).1
theorem ZY{aas:I7}{us:List Value}(h:W5 E aas us)(n:Nat):W5 E (aas.take n) (us.take n):=by
 refine LB (by simp[EP h]) λj c u hc hu=>?_;rw[zf2z]at hc hu;split at hc
 .rename_i hj;rw[if_pos hj]at hu;obtain⟨u',h3,h4⟩:=(Bi h).2 hc;rw[h3]at hu;cases hu;exact h4
 .cases hc
theorem ZW{aas:I7}{us:List Value}(h:W5 E aas us)(n:Nat):W5 E (aas.drop n) (us.drop n):=by
 refine LB (by simp[EP h]) λj c u hc hu=>?_;rw[zf5z]at hc hu;obtain⟨u',h3,h4⟩:=(Bi h).2 hc;rw[h3]at hu;cases hu;exact h4
theorem PV_one{w:World}{ok:Nat->Nat->Prop}{x:AV}{u:Value}(h1:PV w ok x u)(h2:u.oneCell'=true):x.cells=[x]:=by
 cases x<;>first|rfl|(simp only[PV]at h1;obtain⟨us,rfl,_⟩:=h1;simp[Value.oneCell']at h2)
theorem SL(hS:SR E){am:Bool}{ok':Nat->Nat->Prop}(T9:Ra E am ok'){b sz off len:Nat}{v:Value}(hv:VR E (.bsl b sz off len) v){cs ys:I7}{cur:Array Value}{t:TypeId}(h2:E.w.heap[E.nb b]?=some (.cells cur t (0,0)))(h3:W5 E cs (cur.toList.take cs.length))(h4:∀v∈cur.toList,v.oneCell'=true)(ham:am=true)(Y3:0<sz)(V6:off+len*sz<=cs.length)(Nc:MY E.h am ((cs.drop off).take (len*sz))=some ys):PV E.w ok' (.vs false sz (MU sz ys len)) v/\(AV.vs false sz (MU sz ys len)).isTup=false:=by
 simp only[VR]at hv;obtain⟨hb,cap,rfl,hlc,hcm⟩:=hv;have G9:=hS.nb_lt hb;have hP:=QI hS T9 (ZY (ZW h3 off) (len*sz)) Nc;obtain⟨hl,hg⟩:=Eu hP;have Ev:(cur.toList.take cs.length).length=cs.length:=EP h3;rw[zf6z]at Ev;have hyl:ys.length=len*sz:=by rw[←hl,zf6z,zg6z,zf6z];omega
 have hcell:∀(q:Nat) (c:AV),ys[q]?=some c->∃u,ok' (E.nb b) (off+q)/\E.w.cell? ⟨E.nb b,off+q,none⟩=some u/\u.oneCell'=true/\PV E.w ok' c u:=by
  intro q c hq;obtain⟨u,h5,h6⟩:=hg hq;have hq':=(zf1z.1 hq).1;rw[zf2z,if_pos (by omega),zf5z,zf2z,if_pos (by omega)]at h5;refine⟨u,T9.2 ham _ _ G9.1 G9.2,?_,h4 u (zf3z h5),h6⟩;rw[cell_of_row _ _ _ _ _ _ h2];simpa using h5
 refine⟨?_,rfl⟩;simp only[PV];refine⟨_,len,cap,rfl,(Uv sz len ys).symm,hlc,hcm,by simp,⟨(λe=>nomatch e),⟨(λe=>nomatch e),λe=>absurd Y3 (by omega)⟩⟩,λ_=>⟨_,_,rfl,Y3,Nk λj x hx=>?_⟩⟩;obtain⟨hj,hxe⟩:=Uu sz len ys j x hx;have hjs:(j+1)*sz<=len*sz:=zg1z _ hj;rw[zg3z]at hjs;by_cases h1:sz=1
 .subst h1;rw[if_pos rfl]at hxe;have hx0:ys[j*1]?=some x:=by
   rw[hxe,←List.head?_drop];cases hd:ys.drop (j*1)with
   |nil=>have:=congrArg List.length hd;simp at this;omega
   |cons a l=>rfl
  obtain⟨u,k1,k2,k3,k4⟩:=hcell _ _ hx0;have hxc:=PV_one k4 k3;refine⟨by rw[hxc];rfl,?_⟩;rw[hxc];simp only[Ae];exact⟨⟨u,k1,k2,k3,k4⟩,trivial⟩
 .rw[if_neg h1]at hxe;subst hxe;refine⟨by simp only[AV.cells,zf6z,zg6z];omega,IC λq c hq=>?_⟩;simp only[AV.cells]at hq;have hq':q<sz:=by have:=(zf1z.1 hq).1;rw[zf6z]at this;omega
  rw[zf2z,if_pos hq',zf5z]at hq;obtain⟨u,k⟩:=hcell _ _ hq;rw[show off+(j*sz+q)=off+j*sz+q from by omega]at k;exact⟨u,k⟩
theorem dr(hS:SR E){am:Bool}{ok':Nat->Nat->Prop}(T9:Ra E am ok'){b sz off len:Nat}{y:AV}{v:Value}(hv:VR E (.bsl b sz off len) v)(h:kz E.h am b sz off len=some y):PV E.w ok' y v/\y.isTup=false:=by
 unfold kz at h;split at h
 case h_2=>cases h
 rename_i cs o9;split at h
 .rename_i hc;obtain⟨ham,hmb,Y3,V6⟩:=hc;simp only[zf0z]at h;obtain⟨ys,Nc,rfl⟩:=h;obtain⟨cur,t,h2,h3,h4⟩:=(hS.boxes b cs o9 (BK hmb)).row hmb;exact SL hS T9 hv h2 (Wr h3) h4 ham Y3 V6 Nc
 .unfold wP at h;split at h
  .rename_i ys hbc;unfold boxC at hbc;split at hbc
   .cases hbc;split at h
    .rename_i hc;obtain⟨ham,Y3,V6⟩:=hc;simp only[zf0z]at h;obtain⟨zs,hzs,rfl⟩:=h;obtain⟨cur,h2,h3,h4⟩:=(hS.boxes b _ o9 rfl).typ;exact SL hS T9 hv h2 h3 h4 ham Y3 V6 hzs
    .cases h
   .cases hbc
  .cases h
theorem VP(h:AH)(am:Bool){x:AV}(hb:∀b sz off len,x≠.bsl b sz off len):Bo h am x=dq h am x:=by
 cases x<;>first|rfl|exact absurd rfl (hb _ _ _ _)
theorem Mw(hS:SR E){am:Bool}{ok':Nat->Nat->Prop}(T9:Ra E am ok'){x y:AV}{v:Value}(hv:VR E x v)(h:Bo E.h am x=some y):PV E.w ok' y v/\(v.oneCell'=true->True)/\y.isTup=false:=by
 by_cases hb:∃b sz off len,x=.bsl b sz off len
 .obtain⟨b,sz,off,len,rfl⟩:=hb;simp only[Bo]at h;have:=dr hS T9 hv h;exact⟨this.1,λ_=>trivial,this.2⟩
 .rw[VP _ _ λb sz off len e=>hb ⟨b,sz,off,len,e⟩]at h;exact SJ hS T9 hv h
theorem SM(hS:SR E){am:Bool}{ok':Nat->Nat->Prop}(T9:Ra E am ok'):∀{xs ys:I7} {us:List Value},W5 E xs us->IX E.h am xs=some ys->Aj E.w ok' ys us
 | [],ys,us,hv,h=>by simp[IX]at h;subst h;simpa[W5,Aj]using hv
 |x::xs,ys,us,hv,h=>by
  simp only[IX,zf4z,zf0z]at h;obtain⟨y,hy,ys',Nc,rfl⟩:=h;simp only[W5]at hv;obtain⟨u,us',rfl,h1,h2⟩:=hv;simp only[Aj];exact⟨u,us',rfl,(Mw hS T9 h1 hy).1,SM hS T9 h2 Nc⟩
theorem GH(hS:SR E){am:Bool}{ok':Nat->Nat->Prop}(T9:Ra E am ok'){x y:AV}{v:Value}(hv:VR E x v)(h:frz E.h am x=some y):PV E.w ok' y v/\y.isTup=false:=by
 unfold frz at h;split at h
 .rename_i cs;simp only[zf0z]at h;obtain⟨ys,Nc,rfl⟩:=h;simp only[VR]at hv;obtain⟨us,rfl,h1,h2⟩:=hv;simp only[PV];exact⟨⟨us,rfl,h1,SM hS T9 h2 Nc⟩,rfl⟩
 .have:=Mw hS T9 hv h;exact⟨this.1,this.2.2⟩
theorem Hp(hS:SR E){am:Bool}{ok':Nat->Nat->Prop}(T9:Ra E am ok'):∀{xs ys:I7} {us:List Value},W5 E xs us->j8 E.h am xs=some ys->Aj E.w ok' ys us
 | [],ys,us,hv,h=>by simp[j8]at h;subst h;simpa[W5,Aj]using hv
 |x::xs,ys,us,hv,h=>by
  simp only[j8,zf4z,zf0z]at h;obtain⟨y,hy,ys',Nc,rfl⟩:=h;simp only[W5]at hv;obtain⟨u,us',rfl,h1,h2⟩:=hv;simp only[Aj];exact⟨u,us',rfl,(GH hS T9 h1 hy).1,Hp hS T9 h2 Nc⟩
theorem XP(hS:SR E){ok':Nat->Nat->Prop}(T9:Ra E true ok'){x y:AV}{v:Value}(hv:VR E x v)(h:Dv E.h x=some y):PV E.w ok' y v:=by
 unfold Dv at h;split at h
 .rename_i vs;simp only[zf0z]at h;obtain⟨ys,Nc,rfl⟩:=h;simp only[VR]at hv;obtain⟨us,rfl,h2⟩:=hv;simp only[PV];exact⟨us,rfl,Hp hS T9 h2 Nc⟩
 .exact(GH hS T9 hv h).1
def JQ(E:Env)(b o:Nat)(cs:List AV):Prop :=
 ∀(j:Nat) (c:AV),cs[j]?=some c->∃u,E.w.cell? ⟨b,o+j,none⟩=some u/\u.oneCell'=true/\VR E c u
theorem JQ.drop{b o n:Nat}{cs:I7}(h:JQ E b o cs):JQ E b (o+n) (cs.drop n):=by
 intro j c hc;rw[zf5z]at hc;have:=h (n+j) c hc
 rwa [show o+(n+j)=o+n+j from by omega]at this
theorem Ox{b o:Nat}{cs:I7}(h:Ae E.w E.ok b o cs):JQ E b o cs:=by
 intro j c hc;obtain⟨u,_,h2,h3,h4⟩:=Af h hc;exact⟨u,h2,h3,r9 _ _ h4⟩
theorem QP(hS:SR E){agg:Bool}{n:Nat}{x r:AV}{v:Value}(hv:VR E x v)(h:U4 E.h agg n x=some r) :
  ∃b o cs,v=.pointer (some ⟨b,o,none⟩)/\JQ E b o cs/\P9 agg n cs=some r:=by
 cases x<;>simp only[U4]at h<;>try (cases h;done)
 case pv cs =>
  simp only[VR,PV]at hv;obtain⟨b,o,rfl,hc⟩:=hv;exact⟨b,o,cs,rfl,Ox hc,h⟩
 case ptr b off =>
  split at h
  .rename_i cs o9;simp only[VR]at hv;obtain⟨hlv,rfl⟩:=hv;by_cases hmb1:u6 cs=true
   .rw[if_pos hmb1]at h;unfold Qm at h;split at h
    .rename_i ys;obtain⟨_,hb⟩:=hS.boxes b _ o9 rfl;rcases hb with ⟨cur,t,h2,h3,h4⟩|⟨ks,vs,es,clk,e,_⟩|⟨ys',cur,t,e,h2,h3,h4⟩|⟨T,ys',cur,e,_⟩
     .exfalso
      simp only[W5,VR,false_and,and_false,exists_false,exists_const]at h3
     .cases e
     rotate_left
     .cases e
     .cases e;refine⟨E.nb b,0+off,ys.drop off,by simp,JQ.drop ?_,h⟩;obtain⟨hl,hg⟩:=Eu h3;intro j c hc;obtain⟨u,h5,h6⟩:=hg hc;refine⟨u,?_,h4 u (zf3z h5),r9 _ _ h6⟩;rw[zg4z,cell_of_row _ _ _ _ _ _ h2];simpa using h5
    .rename_i T ys;obtain⟨cur,h2,h3,h4⟩:=(hS.boxes b _ o9 rfl).typ;refine⟨E.nb b,0+off,ys.drop off,by simp,JQ.drop ?_,h⟩;obtain⟨hl,hg⟩:=Bi h3;intro j c hc;obtain⟨u,h5,h6⟩:=hg hc;rw[zf2z]at h5;split at h5
     case isFalse=>cases h5
     refine⟨u,?_,h4 u (zf3z h5),h6⟩;rw[zg4z,cell_of_row _ _ _ _ _ _ h2];simpa using h5
    .cases h
   have hmb:u6 cs=false:=by simpa using hmb1
   rw[hmb,if_neg (by simp)]at h;obtain⟨cur,t,h2,h3,h4⟩:=(hS.boxes b cs o9 (BK hmb)).row hmb;refine⟨E.nb b,0+off,cs.drop off,by simp,JQ.drop ?_,h⟩;obtain⟨hl,hg⟩:=Bi h3;intro j c hc;obtain⟨u,h5,h6⟩:=hg hc;refine⟨u,?_,h4 u (zf3z h5),h6⟩;rw[zg4z,cell_of_row _ _ _ _ _ _ h2];simpa using h5
  .cases h
 case ep k m i c sz =>
  split at h
  .rename_i f hf;split at h
   .rename_i hm;split at h
    .rename_i y hy;simp only[VR]at hv;obtain⟨b,o,f',rfl,hf',_,hc⟩:=hv;have:f'=f:=by rw[hf]at hf';simpa using hf'.symm
     subst this;obtain⟨Na,hbo⟩:=hc hm;rw[hbo];obtain⟨cur,t,c1,c2,c3⟩:=(hS.fams k f' hf).cells;obtain⟨e1,e2⟩:=c3 i y Na hy;refine⟨_,_,y.cells.drop c,rfl,JQ.drop ?_,h⟩;intro j z hz;obtain⟨u,u1,u2,u3⟩:=e2 j z hz;exact⟨u,by rw[cell_of_row _ _ _ _ _ _ c1];exact u1,u2,r9 _ _ u3⟩
    .cases h
   .cases h
  .cases h
theorem Bj(b o j:Nat):(⟨b,o,none⟩:Addr).add j=⟨b,o+j,none⟩:=by unfold Addr.add;split<;>simp_all
theorem La{P:Program}{t:TypeId}{agg:Bool}{n b o:Nat}{cs:I7}{r:AV}(hc:JQ E b o cs)(h:P9 agg n cs=some r)
  (ha:Program.agg? P t=some agg) (hn:Program.size? P t=some n):∃v,(loadVar t ⟨b,o,none⟩).run P E.w=.ok v E.w/\VR E r v:=by
 have hisAgg:(isAgg t).run P E.w=.ok agg E.w:=by
  unfold Program.agg? at ha;unfold isAgg underlying;split at ha<;>simp_all
 have Ma:(sizeOf t).run P E.w=.ok n E.w:=by
  unfold Program.size? at hn;unfold sizeOf typeInfo;simp only[zf0z]at hn;obtain⟨i,hi,rfl⟩:=hn;simp[hi]
 cases agg with
 |true =>
  simp only[P9]at h;split at h
  .rename_i Ju;cases h;have hex:∀j,j<n->∃u,E.w.cell? ⟨b,o+j,none⟩=some u/\u.oneCell'=true/\VR E (cs.getD j default) u:=by
    intro j hj;have hj':cs[j]?=some (cs.getD j default):=by simp[zg2z,List.getElem?_eq_getElem (show j<cs.length by omega)]
    exact hc j _ hj'
   have hpick:∃g:Nat->Value,∀j,j<n->E.w.cell? ⟨b,o+j,none⟩=some (g j)/\(g j).oneCell'=true/\VR E (cs.getD j default) (g j):=by
    refine⟨λj=>if hj:j<n then Classical.choose (hex j hj)else default,λj hj=>?_⟩
    simp only[hj,dif_pos];exact Classical.choose_spec (hex j hj)
   obtain⟨g,hg⟩:=hpick;have hl:=run_loadCells (P:=P) E.w ⟨b,o,none⟩ n g (λj hj=>by rw[Bj];exact(hg j hj).1);refine⟨.agg (List.map g (List.range n)).toArray,?_,?_⟩
   .unfold loadVar;simp only[Sem.run_bind,hisAgg,Result.andThen_ok,if_true,Ma,hl,Sem.run_pure]
   .simp only[VR];refine⟨_,rfl,λu hu=>?_,LB (by simp;omega) λj c u hc' hu=>?_⟩
    .simp at hu;obtain⟨j,hj,rfl⟩:=hu;exact(hg j hj).2.1
    .have hj:j<n:=by have:=(zf1z.1 hc').1;simp at this;omega
     rw[zf2z,if_pos hj]at hc';have e1:u=g j:=by simpa[hj]using hu.symm
     have e2:cs.getD j default=c:=by simp[zg2z,hc']
     rw[e1,←e2];exact(hg j hj).2.2
  .cases h
 |false =>
  simp only[P9]at h;have h0:cs[0]?=some r:=by rw[←h];cases cs<;>rfl
  obtain⟨u,h1,_,h3⟩:=hc 0 r h0;refine⟨u,?_,h3⟩;unfold loadVar;simp only[Sem.run_bind,hisAgg,Result.andThen_ok,zf9z,if_false];simp at h1;simp[h1]
end
section
variable {E:Env} {P:Program} {fr:Fr} {a:Act}
def AE(P:Program)(a:Act)(o:Oper)(E:Env)(v:AV):Prop:=∃u,(execOp a.eval o).run P E.w=.ok (.value u) E.w/\VR E v u
theorem Ef(k:IntKind)(n:Int):VR E (.int k n) (.int k n):=by simp[VR]
theorem Lv(b:Bool):VR E (.bool b) (.bool b):=by simp[VR]
theorem dK(b:AD):VR E (.str b) (.string b):=by simp[VR]
theorem Zq(op:BinOp)(t:TypeId)(x y:Operand)(k k':IntKind)(i j:Int)(w:World):(eqGuard op t x y (.int k i) (.int k' j)).run P w=.ok () w:=by
 unfold eqGuard;cases op<;>simp
theorem Zr(op:BinOp)(t:TypeId)(x y:Operand)(i j:AD)(w:World):(eqGuard op t x y (.string i) (.string j)).run P w=.ok () w:=by
 unfold eqGuard;cases op<;>simp
theorem XI(op:BinOp)(t:TypeId)(x y:Operand)(i j:Bool)(w:World):(eqGuard op t x y (.bool i) (.bool j)).run P w=.ok () w:=by
 unfold eqGuard;cases op<;>simp
theorem UE{op:BinOp}{t:TypeId}{k k':IntKind}{i j:Int}{v:AV}(w:World)(h:P0 op (.int k i) (.int k' j)=some v) :
  ∃u,(binOp op t (.int k i) (.int k' j)).run P w=.ok u w/\VR E v u:=by
 cases op<;>simp only[P0]at h<;>try (cases h;done)
 case quo =>
  split at h
  .rename_i hk;cases h;obtain⟨rfl,hj⟩:=hk;refine⟨_,?_,Ef _ _⟩;simp[binOp,Op.intDiv,hj]
  .cases h
 case rem =>
  split at h
  .rename_i hk;cases h;obtain⟨rfl,hj⟩:=hk;refine⟨_,?_,Ef _ _⟩;simp[binOp,Op.intDiv,hj]
  .cases h
 case shl =>
  split at h
  .rename_i hk;cases h;refine⟨_,?_,Ef _ _⟩;simp[binOp,Op.shift,show ¬j<0 from by omega]
  .cases h
 case shr =>
  split at h
  .rename_i hk;cases h;refine⟨_,?_,Ef _ _⟩;simp[binOp,Op.shift,show ¬j<0 from by omega]
  .cases h
 all_goals
  split at h
  .rename_i hk;cases h;subst hk;first|(refine⟨_,?_,Ef _ _⟩;simp[binOp,Op.intArith,Op.intBits];done)|(refine⟨_,?_,Lv _⟩;simp[binOp,Op.intCmp];done)
  .cases h
theorem UF{op:BinOp}{t:TypeId}{i j:AD}{v:AV}(w:World)(h:P0 op (.str i) (.str j)=some v) :
  ∃u,(binOp op t (.string i) (.string j)).run P w=.ok u w/\VR E v u:=by
 cases op<;>simp only[P0]at h<;>try (cases h;done)
 case add =>
  split at h
  .cases h
  .rename_i hk;cases h;refine⟨_,?_,dK _⟩;simp only[binOp,Op.stringOp,hk,if_false,Sem.run_pure]
 all_goals (cases h;refine⟨_,?_,Lv _⟩;simp[binOp,Op.stringOp])
theorem kN{op:BinOp}{t:TypeId}{x y:AV}{v:AV}{xv yv:Value}(hx:VR E x xv)(hy:VR E y yv)(px py:Operand)(w:World)(h:P0 op x y=some v) :
  ∃u,(do eqGuard op t px py xv yv;binOp op t xv yv:Sem Value).run P w=.ok u w/\VR E v u:=by
 cases x<;>cases y<;>try (simp[P0]at h;done)
 .simp only[VR]at hx hy;subst hx;subst hy;obtain⟨u,h1,h2⟩:=UE (E:=E) (P:=P) (t:=t) w h;exact⟨u,by simp[Zq,h1],h2⟩
 .simp only[VR]at hx hy;subst hx;subst hy;obtain⟨u,h1,h2⟩:=UF (E:=E) (P:=P) (t:=t) w h;exact⟨u,by simp[Zr,h1],h2⟩
theorem M8{t:TypeId}{d:TypeDesc}(h:P.underlying t=some d)(w:World):(underlying t).run P w=.ok d w:=by unfold underlying;simp[h]
theorem DO{t:TypeId}{n:Nat}(h:Program.size? P t=some n)(w:World):(sizeOf t).run P w=.ok n w:=by
 unfold Program.size? at h;simp only[zf0z]at h;obtain⟨i,hi,rfl⟩:=h;unfold sizeOf typeInfo;simp[hi]
theorem XL{t:TypeId}(ht:P.underlying t=some .bool)(d:Nat)(i j:Bool)(w:World):(Op.equalIn (d+1) t (.bool i) (.bool j)).run P w=.ok (i == j) w:=by
 simp[Op.equalIn,M8 ht]
theorem kM{neg:Bool}{t:TypeId}{i j:Bool}(ht:P.underlying t=some .bool)(px py:Operand)(w:World) :
  (do eqGuard (if neg then .neq else .eql) t px py (.bool i) (.bool j);binOp (if neg then .neq else .eql) t (.bool i) (.bool j):Sem Value).run P w=.ok (.bool (if neg then !(i == j)else i == j)) w:=by
 have h:(Op.equal t (.bool i) (.bool j)).run P w=.ok (i == j) w:=XL ht 9999 i j w;cases neg<;>simp only[if_true,if_false,zf9z,Sem.run_bind,XI,Result.andThen_ok,binOp,h,Sem.run_pure]
theorem Zt{t e:TypeId}{ad:Option Addr}{len cap:Nat}(ht:P.underlying t=some (.slice e))(d:Nat)(w:World):(Op.equalIn (d+1) t (.slice ad len cap) (.slice none 0 0)).run P w=.ok ad.isNone w:=by
 cases ad<;>simp[Op.equalIn,M8 ht]
theorem QR{neg:Bool}{t e:TypeId}{ad:Option Addr}{len cap:Nat}(ht:P.underlying t=some (.slice e))(px py:Operand)(w:World) :
  (do eqGuard (if neg then .neq else .eql) t px py (.slice ad len cap) (.slice none 0 0);binOp (if neg then .neq else .eql) t (.slice ad len cap) (.slice none 0 0):Sem Value).run P w=.ok (.bool (if neg then !ad.isNone else ad.isNone)) w:=by
 have h:(Op.equal t (.slice ad len cap) (.slice none 0 0)).run P w=.ok ad.isNone w:=Zt ht 9999 w;have g:(eqGuard (if neg then .neq else .eql) t px py (.slice ad len cap) (.slice none 0 0)).run P w=.ok () w:=by
  unfold eqGuard;cases neg<;>simp
 cases neg<;>simp only[if_true,if_false,zf9z,Sem.run_bind,Result.andThen_ok,binOp,h,Sem.run_pure]at g⊢<;>simp only[g,Result.andThen_ok,h,Sem.run_bind,Sem.run_pure]
theorem S8(hf:FR E fr a.tmps){x:Option Operand}{y:Option Opd}(hr:FH x=some y){r:Option Int}(h:i4 fr y=some r) :
  (r=none/\x.map a.eval=none)\/∃k i,r=some i/\x.map a.eval=some (.int k i):=by
 cases x with
 |none=>simp[FH]at hr;subst hr;simp[i4]at h;subst h;exact .inl ⟨rfl,rfl⟩
 |some x =>
  simp only[FH,zf0z]at hr;obtain⟨z,hz,rfl⟩:=hr;have hv:=C4 hf hz;simp only[i4]at h;split at h
  .rename_i k i hg;cases h;rw[hg]at hv;simp only[VR]at hv;exact .inr ⟨k,i,rfl,by simp[hv]⟩
  .cases h
theorem S5{k:IntKind}{i:Int}{y:Nat}{code:Go.BoundsCode}(w:World)(h0:0<=i)(h1:i<=y):(Instr.sliceBound (.int k i) y code).run P w=.ok i.toNat w:=by
 unfold Instr.sliceBound;simp[asIntOf,h0,h1]
theorem KJ{b:Bool}{len cap:Nat}{lo hi:Option Value}{l h:Option Int}(w:World)(hl:(l=none/\lo=none)\/∃k i,l=some i/\lo=some (.int k i))(hh:(h=none/\hi=none)\/∃k i,h=some i/\hi=some (.int k i))
  (h0:0<=l.getD 0) (h1:l.getD 0<=h.getD len) (h2:h.getD len<=len) (hc:len<=cap) :
  (Instr.sliceBounds b len cap lo hi none).run P w=.ok ((l.getD 0).toNat,(h.getD len).toNat,cap) w:=by
 unfold Instr.sliceBounds;rcases hl with ⟨rfl,rfl⟩|⟨k,i,rfl,rfl⟩<;>rcases hh with ⟨rfl,rfl⟩|⟨k',j,rfl,rfl⟩<;>simp only[zg0z,zf8z]at h0 h1 h2 ⊢
 .simp
 .cases b<;>simp[S5 w (show (0:Int)<=j by omega) (show j<=(cap:Int) by omega)]
 .simp[S5 w h0 (show i<=(len:Int) by omega)]
 .have e:i<=((j.toNat:Nat):Int):=by omega
  cases b<;>simp[S5 w (show (0:Int)<=j by omega) (show j<=(cap:Int) by omega),S5 w h0 e]
theorem Qs{len cap:Nat}{lo hi:Option Value}{l h:Option Int}(w:World)(hl:(l=none/\lo=none)\/∃k i,l=some i/\lo=some (.int k i))(hh:(h=none/\hi=none)\/∃k i,h=some i/\hi=some (.int k i))
  (h0:0<=l.getD 0) (h1:l.getD 0<=h.getD len) (h2:h.getD len<=cap) :
  (Instr.sliceBounds true len cap lo hi none).run P w=.ok ((l.getD 0).toNat,(h.getD len).toNat,cap) w:=by
 unfold Instr.sliceBounds;rcases hl with ⟨rfl,rfl⟩|⟨k,i,rfl,rfl⟩<;>rcases hh with ⟨rfl,rfl⟩|⟨k',j,rfl,rfl⟩<;>simp only[zg0z,zf8z]at h0 h1 h2 ⊢
 .simp
 .simp[S5 w (show (0:Int)<=j by omega) (show j<=(cap:Int) by omega)]
 .simp[S5 w h0 (show i<=(len:Int) by omega)]
 .have e:i<=((j.toNat:Nat):Int):=by omega
  simp[S5 w (show (0:Int)<=j by omega) (show j<=(cap:Int) by omega),S5 w h0 e]
theorem GT{b:Bool}{len cap:Nat}{lo hi mx:Option Value}{l h:Option Int}{m:Int}(w:World)(hl:(l=none/\lo=none)\/∃k i,l=some i/\lo=some (.int k i))(hh:(h=none/\hi=none)\/∃k i,h=some i/\hi=some (.int k i))
  (hm:∃k,mx=some (.int k m)) (hs:h.isSome=true)
  (h0:0<=l.getD 0) (h1:l.getD 0<=h.getD len) (h2:h.getD len<=m) (hc:m<=cap) :
  (Instr.sliceBounds b len cap lo hi mx).run P w=.ok ((l.getD 0).toNat,(h.getD len).toNat,m.toNat) w:=by
 unfold Instr.sliceBounds;obtain⟨km,rfl⟩:=hm;rcases hh with ⟨rfl,rfl⟩|⟨k',j,rfl,rfl⟩
 .simp at hs
 simp only[zf8z]at h1 h2 ⊢;have em:j<=((m.toNat:Nat):Int):=by omega
 rcases hl with ⟨rfl,rfl⟩|⟨k,i,rfl,rfl⟩<;>simp only[zg0z,zf8z]at h0 h1 ⊢
 .cases b<;>simp[S5 w (show (0:Int)<=m by omega) hc,S5 w (show (0:Int)<=j by omega) em]
 .have e:i<=((j.toNat:Nat):Int):=by omega
  cases b<;>simp[S5 w (show (0:Int)<=m by omega) hc,S5 w (show (0:Int)<=j by omega) em,S5 w h0 e]
end
end Go.Abs
