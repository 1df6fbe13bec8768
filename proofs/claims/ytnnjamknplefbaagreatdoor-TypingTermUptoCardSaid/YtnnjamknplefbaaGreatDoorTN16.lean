/- A part of the proof. -/
import Derived.Test.YtnnjamknplefbaaGreatDoorTN15
import Derived.Deep.Draws
import Derived.Laws.CopyRow
import Derived.Laws.Externs
import Derived.Deep.AppendSrc
import Derived.Lib.AppendZerosOnto
import Derived.Test.YtnnjamknplefbaaGreatDoorProg
import Derived.ProofKit
import Derived.WalkKit
import Derived.Lib.Walk
import Derived.Lib.SliceRun
import Derived.Shelf.RegionOpenPlain
import Derived.Shelf.Spec.SlicesInsert
import Derived.KernelRfl
import Derived.Laws.NewBlocks
set_option linter.all false
open List renaming getElem?_eq_some_iff->zf0z,length_take->zf1z,getElem?_eq_getElem->zf2z,getElem?_drop->zf3z,length_append->zf4z,getElem?_take->zf7z,getElem?_toArray->zf9z,getElem?_range->zg3z,getElem?_append_left->zg4z,getElem?_map->zg6z,size_toArray->zg7z,length_drop->zg9z,getElem?_append_right->zt1z,mem_of_mem_drop->zt4z,mem_range->zt7z,mem_map->zt8z,range->A2y
open Array renaming size_append->zf5z,getElem?_append_left->zf6z,getD_eq_getD_getElem?->zg0z
open Nat renaming min_eq_left->zf8z,mul_le_mul_right->zg1z,zero_le->zg2z,zero_add->zg5z,le_refl->zg8z,add_assoc->zt2z,sub_zero->zt3z,zero_mul->zt5z,min_def->zt6z,add_zero->zt9z,lt_or_ge->A2u,succ_mul->A2v,add_mul->A2w,sub_mul->A2x
open Option renaming map_some->zt0z
set_option linter.all false
namespace Go.Abs
open Go.RowKit (Below)
section
variable {P:Program} {E:Env}
theorem pf{k f}(hf:E.h.fams[k]?=some f)(hw:f.wr=true)(hS:SR E){b o}(ho:E.ok b o):b≠(E.im k).b:=by
 intro e;rcases ho with ⟨h1,_⟩|⟨_,_,_,h4⟩
 .have:=(hS.fams k f hf).base;omega
 .have:=(h4 k f hf e.symm).1;rw[hw]at this;cases this
theorem Qy(w dT sT ty elem K g o dLen dCap a sLen sCap n cur t cs)
  (hu:P.underlying dT=some (.slice elem)) (hs:(P.info? elem).map (·.size)=some K)
  (hg:w.heap[g]?=some (.cells cur t (0,0))) (hn:Nat.min sLen dLen=n) (hl:cs.length=n*K)
  (hsrc:∀j v,cs[j]?=some v->w.cell? (a.add j)=some v) (P5:o+cs.length<=cur.size) (h1:∀v∈cs,v.oneCell'=true) :
  (Builtin.copy_ #[dT,sT] ty #[.slice (some ⟨g,o,none⟩) dLen dCap,.slice (some a) sLen sCap]).run P w =
   .ok (goInt n) (w.setRow g (cur.toList.take o++cs++cur.toList.drop (o+cs.length)).toArray):=by
 have hl':=run_loadCells_list (P:=P) w a cs hsrc;have X8:=run_storeCells_at P g o t cs 0 cur w hg (by simpa using P5) h1;cases hq:P.info? elem with
 |none=>simp[hq]at hs
 |some i =>
  have hi:i.size=K:=by simpa[hq]using hs
  simp[Builtin.copy_,run_underlying hu,Builtin.lenOf,Builtin.firstCells,sizeOf,typeInfo,hq,hi,hn,←hl,hl',X8]
theorem bB(t tx ty e ex i)(ht:P.underlying t=some (.slice e))(htx:P.underlying tx=some (.slice ex))(hi:P.info? e=some i)
  (g q sLen sCap cur t' w) (hg:w.heap[g]?=some (.cells cur t' (0,0)))
  (a m c news) (hl:news.length=m*i.size) (hnews:∀j u,news[j]?=some u->w.cell? (a.add j)=some u) (h1:∀u∈news,u.oneCell'=true)
  (Am:sLen+m<=sCap) (P5:q+sLen*i.size+news.length<=cur.size) :
  (Builtin.append_ #[t,tx] ty #[.slice (some ⟨g,q,none⟩) sLen sCap,.slice (some a) m c]).run P w =
   .ok (.slice (some ⟨g,q,none⟩) (sLen+m) sCap) (w.setRow g (cur.toList.take (q+sLen*i.size)++news++cur.toList.drop (q+sLen*i.size+news.length)).toArray):=by
 have hf:=run_firstCells_some (P:=P) w i.size m a m c news hl hnews;have X8:=run_storeCells_at P g (q+sLen*i.size) t' news 0 cur w hg (by simpa using P5) h1;simp only[zt9z]at X8;simp[Builtin.append_,run_underlying ht,run_underlying htx,sizeOf,typeInfo,hi,Builtin.lenOf,Am,hf,Dl,X8]
theorem XZ(w tS tS' tR e)(ht:P.underlying tS=some (.slice e))(size)(hz:∀w,(Go.sizeOf e).run P w=.ok size w)
  (a b la ca lb cb) (AS:a.block≠b.block) (cur cur' t t' fr) (ha:w.heap[a.block]?=some (.cells cur t fr)) (h0:0<cur.size)
  (hb:w.heap[b.block]?=some (.cells cur' t' (0,0))) (h0':0<cur'.size) :
  (Extern.SlicesOverlaps.overlaps #[tS,tS'] #[tR] #[.slice (some a) la ca,.slice (some b) lb cb]).run P w=.ok (.bool false) w:=by
 have hnb:(a.block != b.block)=true:=by simpa using AS
 have hnb':(a.block == b.block)=false:=by simpa using AS
 have hsa:w.shape? a.block=some (t,cur.size):=by simp[World.shape?,ha]
 have hsb:w.shape? b.block=some (t',cur'.size):=by simp[World.shape?,hb]
 have hfb:w.frozen? b=false:=by simp[World.frozen?,hb]
 have hfb':w.frozen? {block:=b.block,off:=cur'.size}=false:=by simp[World.frozen?,hb]
 change Sem.run P (α:=Value) (do
  let some t:=(#[tS,tS']:Array TypeId)[0]? | stuck "slices.overlaps: no parameter types"
  let .slice elem ←underlying t|stuck "slices.overlaps: slice type expected"
  let size ←sizeOf elem
  match (some a:Option Addr),(some b:Option Addr)with
  |some a,some b =>
   if la=0\/lb=0\/size=0 then pure (Value.bool false)
   else if a.block != b.block&&(←frozen a)&&(←frozen b)then unsupported .addressObserved
   else do
    if a.block != b.block then do
     noView a;noView b
     if ←mayBeOne a b then return Value.bool ((←choose (.extern "sameAddr.stringBytes" 2)) == 1)
    pure (Value.bool (a.block == b.block&&a.off<b.off+lb*size&&b.off<a.off+la*size))
  |_,_=>pure (Value.bool false)) w=_
 by_cases hc:la=0\/lb=0\/size=0
 .simp[run_underlying ht,hz,hc]
 .obtain⟨ka,hka⟩:∃k,cur.size=k+1:=⟨cur.size-1,by omega⟩;obtain⟨kb,hkb⟩:∃k,cur'.size=k+1:=⟨cur'.size-1,by omega⟩;rw[hka]at hsa;rw[hkb]at hsb hfb';cases hfa:w.frozen? a<;>cases hfe:w.frozen? {block:=a.block,off:=ka+1}<;>
   simp[run_underlying ht,hz,hc,hnb,hnb',frozen,noView,viewAt,mayBeOne,stringish,shape,Sem.run,hsa,hsb,hfb,hfb',hfa,hfe]
structure InsLaw (P:Program) (f:FuncId) (K bytes:Nat):Prop where
 pos:0<K
 enter:Program.enterable P f=true
 inR:∀(w:World) (blk o n c i vb vo vc:Nat) (cur:Array Value) (t:TypeId) (cs vs:List Value),i<=n->n+1<=c->c<=maxLen->cs.length=n*K->vs.length=K->w.heap[blk]?=some (.cells cur t (0,0))->(∀j,j<n*K->cur[o+j]?=cs[j]?) ->
  o+c*K<=cur.size->(∀j v,vs[j]?=some v->w.cell? ⟨vb,vo+j,none⟩=some v)->vb≠blk->(∀v∈cs,v.oneCell'=true)->(∀v∈vs,v.oneCell'=true) ->
  Calls P f #[.slice (some ⟨blk,o,none⟩) n c,.int .i64 i,.slice (some ⟨vb,vo,none⟩) 1 vc] w λe w'=>e=.returned (.slice (some ⟨blk,o,none⟩) (n+1) c)/\∃(q:Nat) (us:Array Value),w'=(w.drewN q).setRow blk us/\us.size=cur.size /\
   ∀j,j<(n+1)*K->us[o+j]?=(cs.take (i*K)++vs++cs.drop (i*K))[j]?
 newR:∀(w:World) (base:Option Addr) (n c i vb vo vc:Nat) (cs vs:List Value),i<=n->n<=c->c<n+1->n+1<=maxLen->(n+1)*bytes<=K7->cs.length=n*K->vs.length=K->(base=none->n=0) ->
  (∀a,base=some a->(0<n->a.spot=none)/\∀j v,cs[j]?=some v->w.cell? (a.add j)=some v)->(∀j v,vs[j]?=some v->w.cell? ⟨vb,vo+j,none⟩=some v)->(∀v∈cs,v.oneCell'=true)->(∀v∈vs,v.oneCell'=true) ->
  Calls P f #[.slice base n c,.int .i64 i,.slice (some ⟨vb,vo,none⟩) 1 vc] w λe w'=>∃(q G:Nat) (us:Array Value) (t:TypeId),e=.returned (.slice (some ⟨w.heap.size,0,none⟩) (n+1) G)/\w'=(w.drewN q).alloc (.cells us t)/\n+1<=G/\G<=maxLen/\G*K<=us.size /\
   ∀j,j<(n+1)*K->us[j]?=(cs.take (i*K)++vs++cs.drop (i*K))[j]?
theorem Fq(w q):Bl w.heap.size w (w.drewN q):=⟨⟨rfl,rfl,rfl,zg8z _,λ_ _=>rfl⟩,λ_=>Nat.le_add_right _ _⟩
theorem yW{cs vs xs x K n i}(hr:IV E cs xs K)(hl:cs.length=n*K)(sv:xs.length=n)(hv:IV E vs [x] K)(hvl:vs.length=K)(hi:i<=n) :
  IV E (cs.take (i*K)++vs++cs.drop (i*K)) (xs.take i++x::xs.drop i) K:=by
 have h1:IV E (cs.take (i*K)) (xs.take i) K:=by
  intro j y hy;rw[zf7z]at hy;split at hy
  .rename_i hj;obtain⟨g1,g2⟩:=hr j y hy;refine⟨g1,λc z hz=>?_⟩;obtain⟨v,v1,v2⟩:=g2 c z hz;have hc:c<K:=by have:=(zf0z.1 hz).1;omega
   have:=DE hj hc;exact⟨v,by rw[zf7z,if_pos (by omega)];exact v1,v2⟩
  .cases hy
 have h2:IV E (cs.drop (i*K)) (xs.drop i) K:=by
  intro j y hy;rw[zf3z]at hy;obtain⟨g1,g2⟩:=hr (i+j) y hy;refine⟨g1,λc z hz=>?_⟩;obtain⟨v,v1,v2⟩:=g2 c z hz;refine⟨v,?_,v2⟩;rw[zf3z,←zt2z,←A2w];exact v1
 have hiK:i*K<=n*K:=zg1z _ hi;have h3:=LX (LX h1 (by rw[zf1z,zf1z,hl,sv,zf8z hiK,zf8z hi]) hv) (by
  rw[zf4z,zf4z,zf1z,zf1z,hl,sv,hvl,zf8z hiK,zf8z hi,A2w];simp) h2
 rw[List.append_assoc (xs.take i)]at h3;exact h3
theorem mg(hS:SR E){k n f v}(hv:VR E (.sl k n 0 n) v)(hf:E.h.fams[k]?=some f)(hn:f.xs.length=n)(h0:0<n):∃(cur:Array Value) (t:TypeId) (cs:List Value),v=.slice (some ⟨(E.im k).b,(E.im k).o,none⟩) n (E.im k).cap/\(E.im k).lo=0/\n<=(E.im k).cap/\(E.im k).cap<=maxLen /\
  E.w.heap[(E.im k).b]?=some (.cells cur t (0,0))/\(E.im k).o+(E.im k).cap*f.sz<=cur.size/\cs.length=n*f.sz/\(∀j,j<n*f.sz->cur[(E.im k).o+j]?=cs[j]?)/\(∀u∈cs,u.oneCell'=true)/\IV E cs f.xs f.sz:=by
 simp only[VR]at hv;obtain⟨a,cap,f',rfl,hf',⟨_,_⟩,hv⟩:=hv;rw[hf]at hf';cases hf';obtain⟨l1,_,l3,_,l5⟩:=hv hn;have hF:=hS.fams k f hf;have Uv:(E.im k).lo=0:=by omega
 have Am:=hF.room;have hcap:cap=(E.im k).cap:=by omega
 have ha:a=some ⟨(E.im k).b,(E.im k).o,none⟩:=by
  have:=l5 (by omega);rw[Uv]at this;simpa using this
 subst ha;obtain⟨cur,t,hcur,P5,Ry⟩:=hF.cells;rw[Uv]at Ry;have hnK:n*f.sz<=(E.im k).cap*f.sz:=zg1z _ (by omega);refine⟨cur,t,(A2y (n*f.sz)).map λj=>cur.getD ((E.im k).o+j) undef,by rw[hcap],Uv,by omega,hF.cap,hcur,P5,by simp,λj hj=>?_,λu hu=>?_,λj x hx=>?_⟩
 .rw[zg6z,zg3z hj,zt0z,zg0z,Array.getElem?_eq_getElem (by omega)];rfl
 .rw[zt8z]at hu;obtain⟨j,hj,rfl⟩:=hu;rw[zt7z]at hj;obtain⟨q1,q2,q3⟩:=sE hF.sz hj;obtain⟨g1,g2⟩:=Ry (j / f.sz) _ (zg2z _) (zf2z (by omega));obtain⟨u,u1,u2,_⟩:=g2 (j % f.sz) _ (zf2z (by omega));rw[zt3z,show (E.im k).o+j / f.sz*f.sz+j % f.sz=(E.im k).o+j from by omega]at u1;rw[zg0z,u1];exact u2
 .obtain⟨g1,g2⟩:=Ry j x (zg2z _) hx;refine⟨g1,λc y hy=>?_⟩;obtain⟨u,u1,u2,u3⟩:=g2 c y hy;rw[zt3z]at u1;have hj:j<n:=by have:=(zf0z.1 hx).1;omega
  have hc:c<f.sz:=by have:=(zf0z.1 hy).1;omega
  have C2:=DE hj hc;refine⟨u,?_,u2,u3⟩;rw[zg6z,zg3z C2,zt0z,zg0z,show (E.im k).o+(j*f.sz+c)=(E.im k).o+j*f.sz+c from by omega,u1];rfl
theorem eB(hS:SR E){q z K x v}(hz:z=K)(hv:VR E (.vs q z [x]) v):∃(vb vo vc:Nat) (vs:List Value),v=.slice (some ⟨vb,vo,none⟩) 1 vc/\vs.length=K/\(∀j u,vs[j]?=some u->E.w.cell? ⟨vb,vo+j,none⟩=some u/\E.ok vb (vo+j))/\(∀u∈vs,u.oneCell'=true)/\IV E vs [x] K/\0<K:=by
 subst hz;simp only[VR,PV]at hv;obtain⟨a,len,cap,rfl,rfl,_,_,_,_,h6⟩:=hv;obtain⟨b,o,rfl,hz,he⟩:=h6 (by simp);obtain⟨p1,p2⟩:=NL he (j:=0) (x:=x) rfl;rw[zt5z,zt9z]at p2;have hex:∀c,c<z->∃u y,x.cells[c]?=some y/\E.ok b (o+c)/\E.w.cell? ⟨b,o+c,none⟩=some u/\u.oneCell'=true/\PV E.w E.ok y u:=λc hc=>by
  have C2:c<x.cells.length:=by omega
  obtain⟨u,u1,u2,u3,u4⟩:=CM p2 (zf2z C2);exact⟨u,_,zf2z C2,u1,u2,u3,u4⟩
 refine⟨b,o,cap,(A2y z).map λc=>(E.w.cell? ⟨b,o+c,none⟩).getD undef,rfl,by simp,λj u hu=>?_,λu hu=>?_,λj y hy=>?_,hz⟩
 .rw[zg6z]at hu;by_cases hj:j<z
  .rw[zg3z hj,zt0z,Option.some.injEq]at hu;obtain⟨u',_,_,u1,u2,_⟩:=hex j hj;rw[u2]at hu ⊢;cases hu;exact⟨rfl,u1⟩
  .rw[List.getElem?_eq_none (by simpa using hj)]at hu;cases hu
 .rw[zt8z]at hu;obtain⟨j,hj,rfl⟩:=hu;rw[zt7z]at hj;obtain⟨u',_,_,u1,u2,u3,_⟩:=hex j hj;rw[u2];exact u3
 .have hj:j=0:=by
   have:=(zf0z.1 hy).1;simp at this;exact this
  subst hj;simp only[List.getElem?_cons_zero,Option.some.injEq]at hy;subst hy;refine⟨p1,λc y hy=>?_⟩;have hc:c<z:=by have:=(zf0z.1 hy).1;omega
  obtain⟨u,u1,u2,u3,u4⟩:=CM p2 hy;refine⟨u,?_,u3,u4⟩;rw[zt5z,zg5z,zg6z,zg3z hc,zt0z,u2];rfl
theorem wK{f K bytes}(L:InsLaw P f K bytes)(O args h r h')(he:(insR K bytes).run O args h=some (r,h')):Program.enterable P f=true /\
  ∀(E:Env) (vs:Array Value),SR E->Fo E.w E.ok->E.h=h->i7 E args vs.toList ->
   Calls P f vs E.w λe w'=>∃u E',e=.returned u/\w'=E'.w/\Ext E E'/\SR E'/\E'.h=h'/\VR E' r u:=by
 refine⟨L.enter,λE avs hS _ hh hv=>?_⟩;subst hh;change Zz K bytes args E.h=some (r,h')at he;unfold Zz at he;split at he
 .rename_i s i q z x;split at he
  .rename_i hc0;obtain⟨hzK,hag⟩:=hc0;obtain⟨avs⟩:=avs;simp only[i7]at hv;obtain⟨v0,_,rfl,hv0,v1,_,rfl,hv1,v2,_,rfl,hv2,rfl⟩:=hv;simp only[VR]at hv1;subst hv1;obtain⟨vb,vo,vc,vs,rfl,hvl,hvc,hv1c,hvr,hK⟩:=eB hS hzK hv2;have hvc1:=λj u hu=>(hvc j u hu).1;have hv0':∃u,vs[0]?=some u:=⟨_,zf2z (by omega)⟩;split at he
   .rename_i k n off len;split at he
    .rename_i f' hf;split at he
     .rename_i hc;obtain⟨c1,c2,c3,c4,c5,c6,c7,c8,c9,c10⟩:=hc;cases he;subst c2;have c3':=c3.symm;subst c3';obtain⟨cur,t,cs,rfl,Uv,hncap,hcapm,hcur,P5,IN,hcc,hc1,hrow⟩:=mg hS hv0 hf c1 c4;rw[c6]at P5 IN hcc hrow;have hi0:=Int.toNat_of_nonneg c7;have jO:i.toNat<=n:=by omega
      have AS:vb≠(E.im k).b:=by
       obtain⟨u,hu⟩:=hv0';exact pf hf c5 hS (hvc 0 u hu).2
      have hrow':∀{E':Env},Ext E E'->IV E' (cs.take (i.toNat*K)++vs++cs.drop (i.toNat*K)) (f'.xs.take i.toNat++x::f'.xs.drop i.toNat) K:=λhx=>Rk hx (yW hrow IN c1 hvr hvl jO);have D6:(f'.xs.take i.toNat++x::f'.xs.drop i.toNat).length=n+1:=by simp;omega
      rw[←hi0];by_cases Am:n+1<=(E.im k).cap
      .refine(L.inR E.w (E.im k).b (E.im k).o n (E.im k).cap i.toNat vb vo vc cur t cs vs jO Am hcapm IN hvl hcur hcc P5 hvc1 AS hc1 hv1c).mono λe w' ⟨h1,q,us,h2,h3,h4⟩=>?_;have x1:=Bi hS (Fq E.w q);have s1:=FO hS (Fq E.w q);have hcur1:=hcur;have OK:f'.xs.length<=(f'.xs.take i.toNat++x::f'.xs.drop i.toNat).length:=by rw[D6];omega
       have x2:=Kt s1 (f':={f' with xs:=f'.xs.take i.toNat++x::f'.xs.drop i.toNat}) (us:=us) hf hcur1 rfl rfl OK (λhw=>by rw[c5]at hw;cases hw)
       have s2:=QU s1 (f':={f' with xs:=f'.xs.take i.toNat++x::f'.xs.drop i.toNat}) (us:=us) hf hcur1 rfl rfl OK (λhw=>by rw[c5]at hw;cases hw)
        (by show (f'.xs.take i.toNat++x::f'.xs.drop i.toNat).length<=(E.im k).lo+(E.im k).cap;omega) h3 (by
         intro j y _ hy;show TT _ _ ((E.im k).o+(j-(E.im k).lo)*f'.sz) f'.sz y;rw[Uv,zt3z,c6];obtain⟨g1,g2⟩:=hrow' x1 j y hy;refine⟨g1,λc y' hy'=>?_⟩;obtain⟨v,v1,v2⟩:=g2 c y' hy';have hjn:j<n+1:=by have:=(zf0z.1 hy).1;rw[←D6];exact this
         have hcK:c<K:=by have:=(zf0z.1 hy').1;omega
         exact⟨v,by rw[zt2z,h4 _ (DE hjn hcK)];exact v1,v2⟩)
       refine⟨_,({E with w:=E.w.drewN q}:Env).setFam k us {f' with xs:=f'.xs.take i.toNat++x::f'.xs.drop i.toNat},h1,h2,x1.trans x2,s2,rfl,?_⟩
       have Ef:=(zf0z.1 hf).1;simp only[VR,Env.setFam];exact⟨_,_,{f' with xs:=f'.xs.take i.toNat++x::f'.xs.drop i.toNat},rfl,by simp[Ef],⟨by rw[D6];exact zg8z _,λ_=>⟨_,_,rfl⟩⟩,λ_=>⟨by omega,by omega,by omega,(λh=>nomatch h),λ_=>by simp[Uv]⟩⟩
      .refine(L.newR E.w (some ⟨(E.im k).b,(E.im k).o,none⟩) n (E.im k).cap i.toNat vb vo vc cs vs jO hncap (by omega) c10 c9 IN hvl (λh=>nomatch h) (λa ha=>?_) hvc1 hc1 hv1c).mono λe w' ⟨q,G,us,te,h1,h2,h3,h4,h5,h6⟩=>?_
       .cases ha;refine⟨λ_=>rfl,λj v hj=>?_⟩;have hjn:j<n*K:=by have:=(zf0z.1 hj).1;omega
        rw[Dl,cell_of_row _ _ _ _ _ _ hcur,hcc j hjn];exact hj
       have x1:=Bi hS (Fq E.w q);have s1:=FO hS (Fq E.w q);have C2:f'.xs.length<(f'.xs.take i.toNat++x::f'.xs.drop i.toNat).length:=by rw[D6];omega
       have x2:=SA s1 (f':={f' with xs:=f'.xs.take i.toNat++x::f'.xs.drop i.toNat}) hf us te 0 G rfl C2
       have s2:=aJ s1 (f':={f' with xs:=f'.xs.take i.toNat++x::f'.xs.drop i.toNat}) (us:=us) (t:=te) (lo:=0) (cap:=G) hf rfl C2 (zg2z _) (by show (f'.xs.take i.toNat++x::f'.xs.drop i.toNat).length<=0+G;omega) h4 (by rw[c6];exact h5) (by
         intro j y _ hy;rw[zt3z,c6];obtain⟨g1,g2⟩:=hrow' x1 j y hy;refine⟨g1,λc y' hy'=>?_⟩;obtain⟨v,v1,v2⟩:=g2 c y' hy';have hjn:j<n+1:=by have:=(zf0z.1 hy).1;rw[←D6];exact this
         have hcK:c<K:=by have:=(zf0z.1 hy').1;omega
         exact⟨v,by rw[h6 _ (DE hjn hcK)];exact v1,v2⟩)
       refine⟨_,({E with w:=E.w.drewN q}:Env).moveFam k us te 0 G {f' with xs:=f'.xs.take i.toNat++x::f'.xs.drop i.toNat},h1,h2,x1.trans x2,s2,rfl,?_⟩
       have Ef:=(zf0z.1 hf).1;simp only[VR,Env.moveFam,X5];exact⟨_,_,{f' with xs:=f'.xs.take i.toNat++x::f'.xs.drop i.toNat},rfl,by simp[Ef],⟨by rw[D6];exact zg8z _,λ_=>⟨_,_,rfl⟩⟩,λ_=>⟨zg8z _,by omega,by omega,(λh=>nomatch h),λ_=>by simp⟩⟩
     .cases he
    .cases he
   .rename_i z';split at he
    .rename_i hc;obtain⟨rfl,hb⟩:=hc;cases he;simp only[VR,PV]at hv0;obtain⟨base,len,cap,rfl,rfl,_,_,h4',_,_⟩:=hv0;have hcap:=h4' trivial;subst hcap;refine(L.newR E.w base 0 0 0 vb vo vc [] vs (zg8z _) (zg8z _) (by omega) (by unfold maxLen;omega) (by omega) (by simp) hvl (λ_=>rfl) (λa ha=>?_) hvc1 (λ_ h=>nomatch h) hv1c).mono λe w' ⟨q,G,us,te,h1,h2,h3,h4,h5,h6⟩=>?_
     .exact⟨λh=>absurd h (Nat.lt_irrefl 0),λj v hj=>by simp at hj⟩
     have x1:=Bi hS (Fq E.w q);have s1:=FO hS (Fq E.w q);refine⟨_,({E with w:=E.w.drewN q}:Env).newFam us te G ⟨[x],K,true⟩,h1,h2,x1.trans (JQ s1 _ _ _ _),NI s1 hK (by simpa using h3) h4 h5 (λj y hy=>?_),rfl,?_⟩
     .obtain⟨g1,g2⟩:=Rk x1 hvr j y hy;refine⟨g1,λc y' hy'=>?_⟩;obtain⟨v,v1,v2⟩:=g2 c y' hy';have hjn:j<0+1:=by have:=(zf0z.1 hy).1;simpa using this
      have hcK:c<K:=by have:=(zf0z.1 hy').1;omega
      exact⟨v,by rw[h6 _ (DE hjn hcK)];simpa using v1,v2⟩
     .simp only[VR,Env.newFam,X5];exact⟨_,_,⟨[x],K,true⟩,rfl,by simp,⟨by simp,λ_=>⟨_,_,rfl⟩⟩,λ_=>⟨zg2z _,by simp,by simp,(λh=>nomatch h),λ_=>by simp⟩⟩
    .cases he
   .cases he
  .cases he
 .cases he
end
end Go.Abs
set_option linter.unusedVariables false
set_option linter.unusedSimpArgs false
namespace Go.Proofs
open Go.RowKit Go.Lib Go.Abs
theorem Tryz.setUnd:Tryz.prog.underlying 373=some (.slice 28):=by kernel_rfl
theorem Tryz.termsUnd:Tryz.prog.underlying 26=some (.slice 28):=by kernel_rfl
theorem Tryz.intUnd:Tryz.prog.underlying 3=some (.int .i64):=by kernel_rfl
set_option maxHeartbeats 4000000 in
set_option maxRecDepth 100000 in
theorem Tryz.ins_end_room(blk o n c vb vo vc:Nat)(cur:Array Value)(t:TypeId)(vs:List Value)(w:World)(Am:n+1<=c)(hm:c<=maxLen)(hvl:vs.length=4)(hcur:w.heap[blk]?=some (.cells cur t (0,0)))(P5:o+c*4<=cur.size)
  (Ki:∀j v,vs[j]?=some v->w.cell? ⟨vb,vo+j,none⟩=some v) (h1v:∀v∈vs,v.oneCell'=true) (us:Array Value) (Wk:us=(cur.toList.take (o+n*4)++vs++cur.toList.drop (o+n*4+vs.length)).toArray) :
  Calls Tryz.prog 432 #[.slice (some ⟨blk,o,none⟩) n c,.int .i64 n,.slice (some ⟨vb,vo,none⟩) 1 vc] w λe w'=>e=.returned (.slice (some ⟨blk,o,none⟩) (n+1) c)/\w'=w.setRow blk us:=by
 obtain⟨i0,hi0,X9⟩:∃i0,Tryz.prog.info? 28=some i0/\i0.size=4:=⟨_,rfl,by kernel_rfl⟩;have hrun:∀ty,(Builtin.append_ #[373,26] ty #[.slice (some ⟨blk,o,none⟩) n c,.slice (some ⟨vb,vo,none⟩) 1 vc]).run Tryz.prog w=_:=λty =>
  bB 373 26 ty 28 28 i0 Tryz.setUnd Tryz.termsUnd hi0 blk o n c cur t w hcur ⟨vb,vo,none⟩ 1 vc vs (by rw[X9,hvl]) (λj v hj=>by rw[Addr.add_lit];exact Ki j v hj) h1v Am (by rw[X9,hvl];omega)
 rw[X9,←Wk]at hrun;have hmm:maxLen<=9223372036854775807:=by unfold maxLen;omega
 clear Wk
 go_enter Tryz.func432,Tryz.ntmps432
 go_wp2_with (at_builtin;refine Lib.wpList_append_run _ rfl _ _ _ _ rfl _ _ rfl rfl _ _ (hrun _) ?_)
 go_ret
 exact⟨rfl,rfl⟩
set_option maxHeartbeats 4000000 in
set_option maxRecDepth 100000 in
theorem Tryz.ins_end_grow(base:Option Addr)(n c vb vo vc:Nat)(cs vs:List Value)(w:World)(i0:TypeInfo)(z:Value)(hi0:Tryz.prog.info? 28=some i0)(hz0:i0.zero=some z)(X9:i0.size=4)(hnc:n<=c)(Am:c<n+1)(hm:n+1<=maxLen)(hbig:(n+1)*i0.bytes<=140737488355328)
  (IN:cs.length=n*4) (hvl:vs.length=4) (hnil:base=none->n=0) (Au:∀a,base=some a->∀j v,cs[j]?=some v->w.cell? (a.add j)=some v) (Ki:∀j v,vs[j]?=some v->w.cell? ⟨vb,vo+j,none⟩=some v) (h1v:∀v∈vs,v.oneCell'=true) :
  Calls Tryz.prog 432 #[.slice base n c,.int .i64 n,.slice (some ⟨vb,vo,none⟩) 1 vc] w λe w'=>e=.returned (.slice (some ⟨w.heap.size,0,none⟩) (n+1) (grownCap w (n+1) c 28)) /\
   w'=w.drew.alloc (.cells ((cs++vs).toArray++Builtin.zeroCells z.cells (grownCap w (n+1) c 28-(n+1))) 28):=by
 have hmm:maxLen<=9223372036854775807:=by unfold maxLen;omega
 have hsrc:Src Tryz.prog i0.size 26 (.slice (some ⟨vb,vo,none⟩) 1 vc) 1 vs w:=Src.ofSlice w Tryz.termsUnd ⟨vb,vo,none⟩ 1 vc vs (by rw[X9,hvl]) (λj u hj=>by rw[Addr.add_lit];exact Ki j u hj) h1v;have hold:(Builtin.firstCells i0.size n (.slice base n c)).run Tryz.prog w.drew=.ok cs.toArray w.drew:=by
  rw[X9];cases base with
  |none =>
   have h0:=hnil rfl;subst h0;have hc0:cs=[]:=List.length_eq_zero_iff.1 (by simpa using IN);rw[hc0];exact run_firstCells_none w.drew 4 0 0 c
  |some a=>exact run_firstCells_some w.drew 4 n a n c cs IN (λj v hj=>Au a rfl j v hj)
 have hrun:∀ty,(Builtin.append_ #[373,26] ty #[.slice base n c,.slice (some ⟨vb,vo,none⟩) 1 vc]).run Tryz.prog w=_:=λty =>
  run_append_grow_src w 373 26 ty 28 i0 z Tryz.setUnd hi0 hz0 base n c cs hold _ 1 vs hsrc Am (by omega) (growslice_fits Am hbig)
 generalize hG:grownCap w (n+1) c 28=G at *
 generalize hR:(cs++vs).toArray++Builtin.zeroCells z.cells (G-(n+1))=R at *
 clear hR hold hsrc hG
 go_enter Tryz.func432,Tryz.ntmps432
 cases base with
 |none =>
  have h0:=hnil rfl;subst h0
  go_wp2_with (at_builtin;refine Lib.wpList_append_run _ rfl _ _ _ _ rfl _ _ rfl rfl _ _ (hrun _) ?_)
  go_ret
  exact⟨rfl,rfl⟩
 |some a =>
  obtain⟨ab,ao,asp⟩:=a
  go_wp2_with (at_builtin;refine Lib.wpList_append_run _ rfl _ _ _ _ rfl _ _ rfl rfl _ _ (hrun _) ?_)
  all_goals (go_ret;exact⟨rfl,rfl⟩)
set_option maxHeartbeats 4000000 in
set_option maxRecDepth 100000 in
theorem Tryz.ins_shift(blk o n c i vb vo vc:Nat)(cur us1 us2:Array Value)(t:TypeId)(cs vs:List Value)(w:World)(hi:i<n)(Am:n+1<=c)(hm:c<=maxLen)(IN:cs.length=n*4)(hvl:vs.length=4)(AS:vb≠blk)
  (hcur:w.heap[blk]?=some (.cells cur t (0,0))) (P5:o+c*4<=cur.size) (hcc:∀j,j<n*4->cur[o+j]?=cs[j]?) (Ki:∀j v,vs[j]?=some v->w.cell? ⟨vb,vo+j,none⟩=some v) (h1c:∀v∈cs,v.oneCell'=true) (h1v:∀v∈vs,v.oneCell'=true)
  (hu1:us1=(cur.toList.take (o+(i+1)*4)++cs.drop (i*4)++cur.toList.drop (o+(i+1)*4+(cs.drop (i*4)).length)).toArray) (hu2:us2=(us1.toList.take (o+i*4)++vs++us1.toList.drop (o+i*4+vs.length)).toArray) :
  Calls Tryz.prog 432 #[.slice (some ⟨blk,o,none⟩) n c,.int .i64 i,.slice (some ⟨vb,vo,none⟩) 1 vc] w λe w'=>e=.returned (.slice (some ⟨blk,o,none⟩) (n+1) c)/\w'=(w.drew.setRow blk us1).setRow blk us2:=by
 have hmm:maxLen<=9223372036854775807:=by unfold maxLen;omega
 have hz2:¬((i:Int)=(n:Int)):=by omega
 have X9:(Tryz.prog.info? 28).map (·.size)=some 4:=by kernel_rfl
 have zz:∀w,(Go.sizeOf 28).run Tryz.prog w=.ok 4 w:=λw=>by
  cases hq:Tryz.prog.info? 28 with
  |none=>simp[hq]at X9
  |some i=>simp[hq]at X9;simp[Go.sizeOf,typeInfo,hq,X9]
 have hcs0:0<cur.size:=by omega
 have hv0:w.cell? ⟨vb,vo+0,none⟩=some vs[0]:=Ki 0 _ (zf2z (by omega));obtain⟨curv,tv,frv,hcv,hcv0⟩:∃curv tv frv,w.heap[vb]?=some (.cells curv tv frv)/\0<curv.size:=by
  unfold World.cell? at hv0;split at hv0
  .rename_i a b c' h;refine⟨a,b,c',h,?_⟩;simp only[Option.isSome_none,Bool.false_eq_true,if_false]at hv0;have:=(Array.getElem?_eq_some_iff.1 hv0).1;omega
  .cases hv0
 have hov:∀x lb cb,(callFunc 464 #[.slice (some ⟨vb,vo,none⟩) 1 vc,.slice (some ⟨blk,x,none⟩) lb cb]).run Tryz.prog w=.ok (.value (.bool false)) w:=λx lb cb=>by
  rw[run_callFunc_extern Tryz.func464 (by kernel_rfl) (by kernel_rfl) (by kernel_rfl) (e:=Extern.SlicesOverlaps.overlaps #[26,26] #[4]) (by kernel_rfl),
   XZ w 26 26 4 28 Tryz.termsUnd 4 zz ⟨vb,vo,none⟩ ⟨blk,x,none⟩ 1 vc lb cb AS curv cur tv t frv hcv hcv0 hcur hcs0]
  rfl
 have yE:(cs.drop (i*4)).length=(n-i)*4:=by rw[zg9z,IN,A2x]
 have hcur':w.drew.heap[blk]?=some (.cells cur t (0,0)):=hcur;have hcp1:∀ty dc sc,(Builtin.copy_ #[373,373] ty #[.slice (some ⟨blk,o+(i+1)*4,none⟩) (n-i) dc,.slice (some ⟨blk,o+i*4,none⟩) (n+1-i) sc]).run Tryz.prog w.drew=.ok (goInt (n-i:Nat)) (w.drew.setRow blk us1):=λty dc sc=>by
  rw[hu1];exact Qy w.drew _ _ ty 28 4 blk (o+(i+1)*4) (n-i) dc ⟨blk,o+i*4,none⟩ (n+1-i) sc (n-i) cur t (cs.drop (i*4)) Tryz.setUnd X9 hcur' (by simp only[zt6z];split<;>omega) yE
   (λj v hj=>by
    rw[Addr.add_lit,cell_of_row _ _ _ _ _ _ hcur'];rw[zf3z]at hj;have hjn:i*4+j<n*4:=by have:=(zf0z.1 hj).1;omega
    rw[zt2z,hcc _ hjn];exact hj) (by rw[yE];omega) (λv hv=>h1c v (zt4z hv))
 have hs1:us1.size=cur.size:=by rw[hu1];simp;omega
 have hW1:(w.drew.setRow blk us1).heap[blk]?=some (.cells us1 t (0,0)):=setRow_heap _ _ _ _ _ _ hcur';have hcp2:∀ty dc,(Builtin.copy_ #[373,26] ty #[.slice (some ⟨blk,o+i*4,none⟩) (n+1-i) dc,.slice (some ⟨vb,vo,none⟩) 1 vc]).run Tryz.prog (w.drew.setRow blk us1)=.ok (goInt (1:Nat)) ((w.drew.setRow blk us1).setRow blk us2):=λty dc=>by
  rw[hu2];exact Qy (w.drew.setRow blk us1) _ _ ty 28 4 blk (o+i*4) (n+1-i) dc ⟨vb,vo,none⟩ 1 vc 1 us1 t vs Tryz.setUnd X9 hW1 (by simp only[zt6z];split<;>omega) (by rw[hvl])
   (λj v hj=>by
    rw[Addr.add_lit,World.cell?_of_block (a:=⟨vb,vo+j,none⟩) (setRow_other _ _ _ _ AS)];exact Ki j v hj) (by rw[hvl,hs1];omega) h1v
 have mixed:Tryz.prog.follows Departure.mixedOrders=true:=by kernel_rfl
 have hw1:IntKind.i64.wrap ((i:Int)+1)=(i:Int)+1:=by rw[IntKind.wrap_i64];omega
 have hw2:IntKind.i64.wrap ((n:Int)+1)=(n:Int)+1:=by rw[IntKind.wrap_i64];omega
 have hb1:(0:Int)<=(i:Int)+1:=by omega
 have jO:i<=n:=by omega
 have htn:((i:Int)+1).toNat=i+1:=by omega
 have htn2:((n:Int)+1).toNat=n+1:=by omega
 have hb2:¬(c=i+1):=by omega
 have hb3:(i:Int)<=(n:Int)+1:=by omega
 have hb4:¬(c=i):=by omega
 clear hu1 hu2 hv0 hcc h1c h1v Ki hcv hW1 yE
 go_enter Tryz.func432,Tryz.ntmps432
 go_wp2_with (simp only[hov])
 go_region_law_o (refine step_copy_runI rfl _ _ 373 373 rfl _ _ (by simp[Act.eval,Act.put]) (by simp[Act.eval,Act.put]) (hcp1 _ _ _) ?_)
 go_wp2_with (at_builtin;refine wpList_copy_runI _ rfl _ _ 373 26 rfl _ _ rfl rfl (hcp2 _ _) ?_)
 go_ret
 exact⟨rfl,rfl⟩
theorem Me(w:World)(r us:Array Value)(t:TypeId):(w.alloc (.cells r t)).setRow w.heap.size us=w.alloc (.cells us t):=by
 unfold World.alloc World.setRow;congr 1;apply Array.ext_getElem?;intro k;simp only[Array.getElem?_modify,Array.getElem?_push];by_cases hk:w.heap.size=k
 .subst hk;simp
 .have:¬k=w.heap.size:=λe=>hk e.symm;simp[hk,this]
set_option maxHeartbeats 4000000 in
set_option maxRecDepth 100000 in
theorem Tryz.ins_grow(blk o n c i vb vo vc:Nat)(us1 us2:Array Value)(cs vs:List Value)(w:World)(i0:TypeInfo)(z:Value)(hi0:Tryz.prog.info? 28=some i0)(hz0:i0.zero=some z)(X9:i0.size=4)(hzs:z.cells.size=4)(hi:i<n)(hnc:n<=c)(Am:c<n+1)(hm:n+1<=maxLen)(hbig:(n+1)*i0.bytes<=140737488355328)
  (IN:cs.length=n*4) (hvl:vs.length=4) (Au:∀j v,cs[j]?=some v->w.cell? ⟨blk,o+j,none⟩=some v) (Ki:∀j v,vs[j]?=some v->w.cell? ⟨vb,vo+j,none⟩=some v) (h1c:∀v∈cs,v.oneCell'=true) (h1v:∀v∈vs,v.oneCell'=true) (ROW:Array Value)
  (hROW:ROW=(cs.take (i*4)).toArray++Builtin.zeroCells z.cells (n+1-i)++Builtin.zeroCells z.cells (grownCap w (n+1) c 28-(n+1)))
  (hu1:us1=(ROW.toList.take (i*4)++vs++ROW.toList.drop (i*4+vs.length)).toArray) (hu2:us2=(us1.toList.take ((i+1)*4)++cs.drop (i*4)++us1.toList.drop ((i+1)*4+(cs.drop (i*4)).length)).toArray) :
  Calls Tryz.prog 432 #[.slice (some ⟨blk,o,none⟩) n c,.int .i64 i,.slice (some ⟨vb,vo,none⟩) 1 vc] w λe w'=>e=.returned (.slice (some ⟨w.heap.size,0,none⟩) (n+1) (grownCap w (n+1) c 28)) /\
   ∃q,w'=(w.drewN q).alloc (.cells us2 28):=by
 have hmm:maxLen<=9223372036854775807:=by unfold maxLen;omega
 have hz2:¬((i:Int)=(n:Int)):=by omega
 have hz3:(c:Int)<(n:Int)+1:=by omega
 have hszm:(Tryz.prog.info? 28).map (·.size)=some 4:=by rw[hi0];simp[X9]
 have zz:∀w,(Go.sizeOf 28).run Tryz.prog w=.ok 4 w:=λw=>by simp[Go.sizeOf,typeInfo,hi0,X9]
 have hbw:blk<w.heap.size:=block_lt_of_cell (Au 0 _ (zf2z (by omega)));have hvw:vb<w.heap.size:=block_lt_of_cell (Ki 0 _ (zf2z (by omega)));have hik:i+(n+1-i)=n+1:=by omega
 have Qo:(n:Int)+1-(i:Int)=((n+1-i:Nat):Int):=by omega
 have hold:(Builtin.firstCells i0.size i (.slice (some ⟨blk,o,none⟩) i c)).run Tryz.prog w.drew=.ok (cs.take (i*4)).toArray w.drew:=by
  rw[X9];exact run_firstCells_some w.drew 4 i ⟨blk,o,none⟩ i c (cs.take (i*4)) (by rw[zf1z,IN];omega) (λj v hj=>by
   rw[Addr.add_lit];rw[zf7z]at hj;split at hj
   .exact Au j v hj
   .cases hj)
 have hrz:∀ty,(Builtin.append_ #[373,3] ty #[.slice (some ⟨blk,o,none⟩) i c,.int .i64 ((n:Int)+1-(i:Int))]).run Tryz.prog w =
   .ok (.slice (some ⟨w.heap.size,0,none⟩) (n+1) (grownCap w (n+1) c 28)) (w.drew.alloc (.cells ROW 28)):=λty=>by
  have h:=Lib.run_append_grow_zeros w 373 3 ty 28 i0 z .i64 .i64 Tryz.setUnd Tryz.intUnd hi0 hz0 (some ⟨blk,o,none⟩) i c (cs.take (i*4)) hold (n+1-i) (by omega) (by omega) (by omega) (by omega)
   (by
     have:(n+1-i)*i0.bytes<=(n+1)*i0.bytes:=zg1z _ (by omega);omega) (by rw[hik];exact growslice_fits Am hbig)
  rw[hik,←hROW]at h;rw[Qo];exact h
 obtain⟨G,hG⟩:∃G,G=grownCap w (n+1) c 28:=⟨_,rfl⟩;rw[←hG]at hrz hROW ⊢;have hGn:n+1<=G:=by rw[hG];exact grownCap_ge w _ _ _
 have hG63:G<=9223372036854775807:=by
  have:=grownCap_le_maxLen w (n+1) c 28 hm;rw[←hG]at this;omega
 have hRs:ROW.size=G*4:=by
  rw[hROW,zf5z,zf5z,size_zeroCells,size_zeroCells,hzs,zg7z,zf1z,IN];omega
 have hcur0:(w.drew.alloc (.cells ROW 28)).heap[w.heap.size]?=some (.cells ROW 28 (0,0)):=heap_alloc_new w.drew _;have hs1:us1.size=ROW.size:=by rw[hu1];simp;omega
 have hcell:∀(b j:Nat) (u:Value),b<w.heap.size->w.cell? ⟨b,j,none⟩=some u->∀r,(w.drew.alloc (.cells r 28)).cell? ⟨b,j,none⟩=some u:=λb j u hb hu r=>by
  rw[World.cell?_alloc_past (w:=w.drew) _ b j hb];exact hu
 have hcpA:∀ty dc,(Builtin.copy_ #[373,26] ty #[.slice (some ⟨w.heap.size,i*4,none⟩) (n+1-i) dc,.slice (some ⟨vb,vo,none⟩) 1 vc]).run Tryz.prog (w.alloc (.cells ROW 28)).drew=.ok (goInt (1:Nat)) (w.alloc (.cells us1 28)).drew:=λty dc=>by
  have h:=Qy (w.drew.alloc (.cells ROW 28)) 373 26 ty 28 4 w.heap.size (i*4) (n+1-i) dc ⟨vb,vo,none⟩ 1 vc 1 ROW 28 vs Tryz.setUnd hszm hcur0 (by simp only[zt6z];split<;>omega) (by rw[hvl])
   (λj v hj=>by rw[Addr.add_lit];exact hcell vb _ _ hvw (Ki j v hj) _) (by rw[hvl,hRs];omega) h1v
  rw[←hu1]at h;exact h.trans (congrArg _ (Me w.drew ROW us1 _))
 have hcur1:(w.drew.alloc (.cells us1 28)).heap[w.heap.size]?=some (.cells us1 28 (0,0)):=heap_alloc_new w.drew _;have yE:(cs.drop (i*4)).length=(n-i)*4:=by rw[zg9z,IN,A2x]
 have hcpB:∀ty dc sc,(Builtin.copy_ #[373,373] ty #[.slice (some ⟨w.heap.size,(i+1)*4,none⟩) (n-i) dc,.slice (some ⟨blk,o+i*4,none⟩) (n-i) sc]).run Tryz.prog (w.alloc (.cells us1 28)).drew.drew=.ok (goInt (n-i:Nat)) (w.alloc (.cells us2 28)).drew.drew:=λty dc sc=>by
  have h:=Qy (w.drew.drew.alloc (.cells us1 28)) 373 373 ty 28 4 w.heap.size ((i+1)*4) (n-i) dc ⟨blk,o+i*4,none⟩ (n-i) sc (n-i) us1 28 (cs.drop (i*4)) Tryz.setUnd hszm hcur1 (by simp) yE
   (λj v hj=>by
    rw[Addr.add_lit,zt2z];exact hcell blk _ _ hbw (Au _ v (by rwa [zf3z]at hj)) _) (by rw[yE,hs1,hRs];omega) (λv hv=>h1c v (zt4z hv))
  rw[←hu2]at h;exact h.trans (congrArg _ (Me w.drew.drew us1 us2 _))
 have hW:∀r,(w.drew.alloc (.cells r 28)).drew=w.drew.drew.alloc (.cells r 28):=λr=>rfl;have mixed:Tryz.prog.follows Departure.mixedOrders=true:=by kernel_rfl
 have hGi:¬(G=i):=by omega
 have hGim:¬(G=i+1):=by omega
 have hci:¬(c=i):=by omega
 have hw1:IntKind.i64.wrap ((i:Int)+1)=(i:Int)+1:=by rw[IntKind.wrap_i64];omega
 have hw2:IntKind.i64.wrap ((n:Int)+1)=(n:Int)+1:=by rw[IntKind.wrap_i64];omega
 have hb1:(0:Int)<=(i:Int)+1:=by omega
 have jO:i<=n:=by omega
 have htn:((i:Int)+1).toNat=i+1:=by omega
 have hb3:(i:Int)<=(n:Int):=by omega
 clear Qo hik hold hROW hG hu1 hu2 hcell hcur0 hcur1 hRs hs1 yE
 go_enter Tryz.func432,Tryz.ntmps432
 go_wp2_with (first
  |(at_builtin;refine Lib.wpList_append_run _ rfl _ _ _ _ rfl _ _ rfl rfl _ _ (hrz _) ?_)
  |(at_builtin;refine wpList_copy_runI _ rfl _ _ 373 26 rfl _ _ rfl rfl (hcpA _ _) ?_))
 go_region_law_o (refine step_copy_runI rfl _ _ 373 373 rfl (.slice (some ⟨w.heap.size,(i+1)*4,none⟩) (n-i) (G-(i+1))) (.slice (some ⟨blk,o+i*4,none⟩) (n-i) (c-i)) (by simp[Act.eval,Act.put]) (by simp[Act.eval,Act.put]) (hcpB _ _ _) ?_)
 go_wp2
 go_ret
 exact⟨rfl,2,rfl⟩
end Go.Proofs
namespace Go.Abs
theorem PY{α:Type}{cs vs:List α}{A:Nat}(hA:A<=cs.length)(j:Nat):(cs.take A++vs++cs.drop A)[j]?=if j<A then cs[j]? else if j<A+vs.length then vs[j-A]? else cs[j-vs.length]?:=by
 by_cases h1:j<A
 .rw[if_pos h1,zg4z (by rw[zf4z,zf1z];omega),zg4z (by rw[zf1z];omega),zf7z,if_pos h1]
 .rw[if_neg h1];by_cases h2:j<A+vs.length
  .rw[if_pos h2,zg4z (by rw[zf4z,zf1z];omega),zt1z (by rw[zf1z];omega),zf1z,zf8z hA]
  .rw[if_neg h2,zt1z (by rw[zf4z,zf1z];omega),zf4z,zf1z,zf8z hA,zf3z];congr 1;omega
theorem RC{cur us:Array Value}{vs:List Value}{off:Nat}(P5:off+vs.length<=cur.size)(Wk:us=(cur.toList.take off++vs++cur.toList.drop (off+vs.length)).toArray)(j:Nat):us[j]?=if j<off then cur[j]? else if j<off+vs.length then vs[j-off]? else cur[j]?:=by
 have:=Hk (l:=cur.toList) (off:=off) (vs:=vs) (by simpa using P5) j;simp only[Array.getElem?_toList]at this;rw[Wk,zf9z,this]
theorem row_end{cur us:Array Value}{cs vs:List Value}{o N:Nat}(IN:cs.length=N)(hcc:∀j,j<N->cur[o+j]?=cs[j]?)(P5:o+N+vs.length<=cur.size)(Wk:us=(cur.toList.take (o+N)++vs++cur.toList.drop (o+N+vs.length)).toArray) :
  ∀j,j<N+vs.length->us[o+j]?=(cs.take N++vs++cs.drop N)[j]?:=by
 intro j hj;rw[RC P5 Wk,PY (by omega)];by_cases h1:j<N
 .rw[if_pos (by omega),if_pos h1,hcc j h1]
 .rw[if_neg (by omega),if_pos (by omega),if_neg h1,if_pos hj];congr 1;omega
theorem row_mid{cur us1 us2:Array Value}{cs vs:List Value}{o N A:Nat}(IN:cs.length=N)(hA:A<=N)(hcc:∀j,j<N->cur[o+j]?=cs[j]?)(P5:o+N+vs.length<=cur.size)
  (hu1:us1=(cur.toList.take (o+(A+vs.length))++cs.drop A++cur.toList.drop (o+(A+vs.length)+(cs.drop A).length)).toArray) (hu2:us2=(us1.toList.take (o+A)++vs++us1.toList.drop (o+A+vs.length)).toArray) :
  us2.size=cur.size/\∀j,j<N+vs.length->us2[o+j]?=(cs.take A++vs++cs.drop A)[j]?:=by
 have hd:(cs.drop A).length=N-A:=by rw[zg9z,IN]
 have hs1:us1.size=cur.size:=by rw[hu1];simp;omega
 refine⟨by rw[hu2];simp;omega,λj hj=>?_⟩;rw[RC (by omega) hu2,PY (by omega)];by_cases h1:j<A
 .rw[if_pos (by omega),if_pos h1,RC (by omega) hu1,if_pos (by omega),hcc j (by omega)]
 .rw[if_neg (by omega),if_neg h1];by_cases h2:j<A+vs.length
  .rw[if_pos (by omega),if_pos h2];congr 1;omega
  .rw[if_neg (by omega),if_neg h2,RC (by omega) hu1,if_neg (by omega),if_pos (by omega),zf3z];congr 1;omega
end Go.Abs
namespace Go.Proofs
open Go.RowKit Go.Lib Go.Abs
set_option maxRecDepth 100000 in
theorem Tryz.insLaw:InsLaw Tryz.prog 432 4 56:=by
 obtain⟨i0,z,hi0,X9,hz0,hzs,hby⟩:∃i0 z,Tryz.prog.info? 28=some i0/\i0.size=4/\i0.zero=some z/\z.cells.size=4/\i0.bytes=56:=⟨_,_,rfl,by kernel_rfl,rfl,by kernel_rfl,by kernel_rfl⟩;refine⟨by omega,by kernel_rfl,?_,?_⟩
 .intro w blk o n c i vb vo vc cur t cs vs jO hnc hcm IN hvl hcur hcc P5 Ki AS h1c h1v;rcases A2u i n with C2|hge
  .obtain⟨us1,hu1⟩:∃us1,us1=(cur.toList.take (o+(i+1)*4)++cs.drop (i*4)++cur.toList.drop (o+(i+1)*4+(cs.drop (i*4)).length)).toArray:=⟨_,rfl⟩;obtain⟨us2,hu2⟩:∃us2,us2=(us1.toList.take (o+i*4)++vs++us1.toList.drop (o+i*4+vs.length)).toArray:=⟨_,rfl⟩;have h:=row_mid (o:=o) (A:=i*4) (vs:=vs) IN (zg1z _ jO) hcc (by omega) (by rw[hvl,←A2v];exact hu1) hu2;rw[hvl,←A2v]at h;exact(Tryz.ins_shift blk o n c i vb vo vc cur us1 us2 t cs vs w C2 hnc hcm IN hvl AS hcur P5 hcc Ki h1c h1v hu1 hu2).mono λe w' ⟨h1,h2⟩=>⟨h1,1,us2,h2.trans (setRow_setRow _ _ _ _),h⟩
  .have e:i=n:=by omega
   subst e;obtain⟨us,Wk⟩:∃us,us=(cur.toList.take (o+i*4)++vs++cur.toList.drop (o+i*4+vs.length)).toArray:=⟨_,rfl⟩;have h:=row_end (o:=o) (vs:=vs) IN hcc (by omega) Wk;refine(Tryz.ins_end_room blk o i c vb vo vc cur t vs w hnc hcm hvl hcur P5 Ki h1v us Wk).mono λe w' ⟨h1,h2⟩=>⟨h1,0,us,h2,?_,?_⟩
   .rw[Wk];simp;omega
   .intro j hj;exact h j (by omega)
 .intro w base n c i vb vo vc cs vs jO hnc Am hm hbig IN hvl hnil Au Ki h1c h1v;have hbig':(n+1)*i0.bytes<=140737488355328:=by rw[hby];exact hbig
  have hG1:=grownCap_ge w (n+1) c 28;have hG2:=grownCap_le_maxLen w (n+1) c 28 hm;rcases A2u i n with C2|hge
  .cases base with
   |none=>exact absurd (hnil rfl) (by omega)
   |some a =>
    obtain⟨blk,o,sp⟩:=a;obtain⟨hsp,Au⟩:=Au _ rfl;have:=hsp (by omega);simp only at this;subst this;have hcs':∀j v,cs[j]?=some v->w.cell? ⟨blk,o+j,none⟩=some v:=λj v hj=>by
     have:=Au j v hj
     rwa [Dl]at this
    obtain⟨ROW,hROW⟩:∃ROW,ROW=(cs.take (i*4)).toArray++Builtin.zeroCells z.cells (n+1-i)++Builtin.zeroCells z.cells (grownCap w (n+1) c 28-(n+1)):=⟨_,rfl⟩;obtain⟨us1,hu1⟩:∃us1,us1=(ROW.toList.take (i*4)++vs++ROW.toList.drop (i*4+vs.length)).toArray:=⟨_,rfl⟩;obtain⟨us2,hu2⟩:∃us2,us2=(us1.toList.take ((i+1)*4)++cs.drop (i*4)++us1.toList.drop ((i+1)*4+(cs.drop (i*4)).length)).toArray:=⟨_,rfl⟩;have hRs:ROW.size=grownCap w (n+1) c 28*4:=by
     rw[hROW,zf5z,zf5z,size_zeroCells,size_zeroCells,hzs,zg7z,zf1z,IN];omega
    have hR0:∀j,j<i*4->ROW[j]?=cs[j]?:=λj hj=>by
     rw[hROW,zf6z (by simp;omega),zf6z (by simp;omega),zf9z,zf7z,if_pos hj]
    have hs1:us1.size=ROW.size:=by rw[hu1];simp;omega
    have hd:(cs.drop (i*4)).length=n*4-i*4:=by rw[zg9z,IN]
    refine(Tryz.ins_grow blk o n c i vb vo vc us1 us2 cs vs w i0 z hi0 hz0 X9 hzs C2 hnc Am hm hbig' IN hvl hcs' Ki h1c h1v ROW hROW hu1 hu2).mono λe w' ⟨h1,q,h2⟩=>⟨q,_,us2,_,h1,h2,hG1,hG2,?_,?_⟩
    .rw[hu2];simp;omega
    .intro j hj;rw[RC (by omega) hu2,PY (by omega),hvl];by_cases h1:j<i*4
     .rw[if_pos (by omega),if_pos h1,RC (by omega) hu1,if_pos h1,hR0 j h1]
     .rw[if_neg h1];by_cases h2:j<i*4+4
      .rw[if_pos (by omega),if_pos h2,RC (by omega) hu1,if_neg h1,if_pos (by omega)]
      .rw[if_neg (by omega),if_neg h2,if_pos (by omega),zf3z];congr 1;omega
  .have e:i=n:=by omega
   subst e;refine(Tryz.ins_end_grow base i c vb vo vc cs vs w i0 z hi0 hz0 X9 hnc Am hm hbig' IN hvl hnil (λa ha=>(Au a ha).2) Ki h1v).mono λe w' ⟨h1,h2⟩=>⟨1,_,_,_,h1,h2,hG1,hG2,?_,?_⟩
   .rw[zf5z,size_zeroCells,hzs,zg7z,zf4z,IN,hvl];omega
   .intro j hj;rw[zf6z (by simp;omega),zf9z,List.take_of_length_le (by omega),List.drop_eq_nil_of_le (by omega),List.append_nil]
end Go.Proofs
namespace Go.Abs
open Go.RowKit (Below)
section
variable {P:Program} {E:Env}
structure InsLaw0 (P:Program) (f:FuncId) (K bytes:Nat):Prop where
 pos:0<K
 enter:Program.enterable P f=true
 newR:∀(w:World) (base:Option Addr) (vb vo vc:Nat) (vs:List Value),bytes<=K7->vs.length=K->(∀j v,vs[j]?=some v->w.cell? ⟨vb,vo+j,none⟩=some v)->(∀v∈vs,v.oneCell'=true) ->
  Calls P f #[.slice base 0 0,.int .i64 0,.slice (some ⟨vb,vo,none⟩) 1 vc] w λe w'=>∃(q G:Nat) (us:Array Value) (t:TypeId),e=.returned (.slice (some ⟨w.heap.size,0,none⟩) 1 G)/\w'=(w.drewN q).alloc (.cells us t)/\1<=G/\G<=maxLen/\G*K<=us.size /\
   ∀j,j<K->us[j]?=vs[j]?
theorem oM{f K bytes}(L:InsLaw0 P f K bytes)(O args h r h')(he:(A0I K bytes).run O args h=some (r,h')):Program.enterable P f=true /\
  ∀(E:Env) (vs:Array Value),SR E->Fo E.w E.ok->E.h=h->i7 E args vs.toList ->
   Calls P f vs E.w λe w'=>∃u E',e=.returned u/\w'=E'.w/\Ext E E'/\SR E'/\E'.h=h'/\VR E' r u:=by
 refine⟨L.enter,λE avs hS _ hh hv=>?_⟩;subst hh;change gQ K bytes args E.h=some (r,h')at he;unfold gQ at he;split at he
 .rename_i z' i0 x0;unfold Zz at he;split at he
  .rename_i s i q z x heq;cases heq;split at he
   .rename_i hc0;obtain⟨hzK,hag⟩:=hc0;obtain⟨avs⟩:=avs;simp only[i7]at hv;obtain⟨v0,_,rfl,hv0,v1,_,rfl,hv1,v2,_,rfl,hv2,rfl⟩:=hv;simp only[VR]at hv1;subst hv1;obtain⟨vb,vo,vc,vs,rfl,hvl,hvc,hv1c,hvr,hK⟩:=eB hS hzK hv2;have hvc1:=λj u hu=>(hvc j u hu).1;simp only at he;split at he
    .rename_i hc;obtain⟨rfl,hb⟩:=hc;cases he;simp only[VR,PV]at hv0;obtain⟨base,len,cap,rfl,rfl,_,_,h4',_,_⟩:=hv0;have hcap:=h4' trivial;subst hcap;refine(L.newR E.w base vb vo vc vs hb hvl hvc1 hv1c).mono λe w' ⟨q,G,us,te,h1,h2,h3,h4,h5,h6⟩=>?_;have x1:=Bi hS (Fq E.w q);have s1:=FO hS (Fq E.w q);refine⟨_,({E with w:=E.w.drewN q}:Env).newFam us te G ⟨[x],K,true⟩,h1,h2,x1.trans (JQ s1 _ _ _ _),NI s1 hK (by simpa using h3) h4 h5 (λj y hy=>?_),rfl,?_⟩
     .obtain⟨g1,g2⟩:=Rk x1 hvr j y hy;refine⟨g1,λc y' hy'=>?_⟩;obtain⟨v,v1,v2⟩:=g2 c y' hy';have hjn:j=0:=by have:=(zf0z.1 hy).1;simpa using this
      have hcK:c<K:=by have:=(zf0z.1 hy').1;omega
      subst hjn;rw[zt5z,zg5z]at v1 ⊢;exact⟨v,by rw[h6 _ hcK];exact v1,v2⟩
     .simp only[VR,Env.newFam,X5];exact⟨_,_,⟨[x],K,true⟩,rfl,by simp,⟨by simp,λ_=>⟨_,_,rfl⟩⟩,λ_=>⟨zg2z _,by simp,by simp,(λh=>nomatch h),λ_=>by simp⟩⟩
    .cases he
   .cases he
  .cases he
 .cases he
structure GrowLaw (P:Program) (f:FuncId) (K bytes:Nat):Prop where
 pos:0<K
 enter:Program.enterable P f=true
 zero:∀(w:World) (base:Option Addr),Calls P f #[.slice base 0 0,.int .i64 0] w λe w'=>e=.returned (.slice base 0 0)/\w'=w
 some:∀(w:World) (base:Option Addr) (n:Nat),0<n->n*bytes<=K7->n<=maxLen ->
  Calls P f #[.slice base 0 0,.int .i64 n] w λe w'=>∃(q G:Nat) (us:Array Value) (t:TypeId),e=.returned (.slice (some ⟨w.heap.size,0,none⟩) 0 G)/\w'=(w.drewN q).alloc (.cells us t)/\G<=maxLen/\G*K<=us.size
theorem oD{f K bytes b}(L:GrowLaw P f K bytes)(O args h r h')(he:(A0E K bytes b).run O args h=some (r,h')):Program.enterable P f=true /\
  ∀(E:Env) (vs:Array Value),SR E->Fo E.w E.ok->E.h=h->i7 E args vs.toList ->
   Calls P f vs E.w λe w'=>∃u E',e=.returned u/\w'=E'.w/\Ext E E'/\SR E'/\E'.h=h'/\VR E' r u:=by
 refine⟨L.enter,λE avs hS _ hh hv=>?_⟩;subst hh;change gN K bytes b args E.h=some (r,h')at he;unfold gN at he;split at he
 .rename_i z n;obtain⟨avs⟩:=avs;simp only[i7]at hv;obtain⟨v0,_,rfl,hv0,v1,_,rfl,hv1,rfl⟩:=hv;simp only[VR]at hv1;subst hv1;have hv0':=hv0;simp only[VR,PV]at hv0;obtain⟨base,len,cap,rfl,rfl,_,_,h4',_,_⟩:=hv0;have hcap:=h4' trivial;subst hcap;split at he
  .rename_i h0;subst h0;cases he;exact(L.zero E.w base).mono λe w' ⟨h1,h2⟩=>⟨_,E,h1,h2,Ext.refl E,hS,rfl,hv0'⟩
  .split at he
   .rename_i hc;obtain⟨c1,c2,c3⟩:=hc;cases he;obtain⟨m,rfl⟩:∃m:Nat,n=m:=⟨n.toNat,by omega⟩;refine(L.some E.w base m (by omega) (by exact_mod_cast c2) (by exact_mod_cast c3)).mono λe w' ⟨q,G,us,te,h1,h2,h3,h4⟩=>?_;have x1:=Bi hS (Fq E.w q);have s1:=FO hS (Fq E.w q);refine⟨_,({E with w:=E.w.drewN q}:Env).newFam us te G ⟨[],K,b⟩,h1,h2,x1.trans (JQ s1 _ _ _ _),NI s1 L.pos (zg2z _) h3 h4 (λj y hy=>by simp at hy),rfl,?_⟩
    simp only[VR,Env.newFam,X5];exact⟨_,_,⟨[],K,b⟩,rfl,by simp,⟨by simp,λh=>absurd rfl h⟩,λ_=>⟨zg2z _,by simp,by simp,(λh=>nomatch h),λ_=>by simp⟩⟩
   .cases he
 .cases he
end
end Go.Abs
set_option linter.unusedVariables false
set_option linter.unusedSimpArgs false
namespace Go.Proofs
open Go.RowKit Go.Lib Go.Abs
theorem Tryz.powsUnd:Tryz.prog.underlying 427=some (.slice 431):=by kernel_rfl
set_option maxHeartbeats 4000000 in
set_option maxRecDepth 100000 in
theorem Tryz.insp_nil(base:Option Addr)(vb vo vc:Nat)(vs:List Value)(w:World)(i0:TypeInfo)(z:Value)(hi0:Tryz.prog.info? 431=some i0)(hz0:i0.zero=some z)(X9:i0.size=5)(hbig:i0.bytes<=140737488355328)
  (hvl:vs.length=5) (Ki:∀j v,vs[j]?=some v->w.cell? ⟨vb,vo+j,none⟩=some v) (h1v:∀v∈vs,v.oneCell'=true) :
  Calls Tryz.prog 495 #[.slice base 0 0,.int .i64 0,.slice (some ⟨vb,vo,none⟩) 1 vc] w λe w'=>e=.returned (.slice (some ⟨w.heap.size,0,none⟩) 1 (grownCap w 1 0 431)) /\
   w'=w.drew.alloc (.cells (vs.toArray++Builtin.zeroCells z.cells (grownCap w 1 0 431-1)) 431):=by
 have hsrc:Src Tryz.prog i0.size 427 (.slice (some ⟨vb,vo,none⟩) 1 vc) 1 vs w:=Src.ofSlice w Tryz.powsUnd ⟨vb,vo,none⟩ 1 vc vs (by rw[X9,hvl]) (λj u hj=>by rw[Addr.add_lit];exact Ki j u hj) h1v;have hold:(Builtin.firstCells i0.size 0 (.slice base 0 0)).run Tryz.prog w.drew=.ok ([]:List Value).toArray w.drew:=by
  rw[X9];cases base with
  |none=>exact run_firstCells_none w.drew 5 0 0 0
  |some a=>exact run_firstCells_some w.drew 5 0 a 0 0 [] rfl (λj v hj=>by simp at hj)
 have hrun:∀ty,(Builtin.append_ #[427,427] ty #[.slice base 0 0,.slice (some ⟨vb,vo,none⟩) 1 vc]).run Tryz.prog w=_:=λty =>
  run_append_grow_src w 427 427 ty 431 i0 z Tryz.powsUnd hi0 hz0 base 0 0 [] hold _ 1 vs hsrc (by omega) (by omega) (growslice_fits (by omega) (by rw[zg5z,Nat.one_mul];exact hbig))
 rw[zg5z,List.nil_append]at hrun;generalize hG:grownCap w 1 0 431=G at *
 generalize hR:vs.toArray++Builtin.zeroCells z.cells (G-1)=R at *
 clear hR hold hsrc hG
 go_enter Tryz.func495,Tryz.ntmps495
 cases base with
 |none =>
  go_wp2_with (at_builtin;refine Lib.wpList_append_run _ rfl _ _ _ _ rfl _ _ rfl rfl _ _ (hrun _) ?_)
  go_ret
  exact⟨rfl,rfl⟩
 |some a =>
  obtain⟨ab,ao,asp⟩:=a
  go_wp2_with (at_builtin;refine Lib.wpList_append_run _ rfl _ _ _ _ rfl _ _ rfl rfl _ _ (hrun _) ?_)
  all_goals (go_ret;exact⟨rfl,rfl⟩)
set_option maxRecDepth 100000 in
theorem Tryz.insLawP:InsLaw0 Tryz.prog 495 5 64:=by
 obtain⟨i0,z,hi0,X9,hz0,hzs,hby⟩:∃i0 z,Tryz.prog.info? 431=some i0/\i0.size=5/\i0.zero=some z/\z.cells.size=5/\i0.bytes=64:=⟨_,_,rfl,by kernel_rfl,rfl,by kernel_rfl,by kernel_rfl⟩;refine⟨by omega,by kernel_rfl,?_⟩;intro w base vb vo vc vs hb hvl Ki h1v;have hG1:=grownCap_ge w 1 0 431;have hG2:=grownCap_le_maxLen w 1 0 431 (by unfold maxLen;omega);refine(Tryz.insp_nil base vb vo vc vs w i0 z hi0 hz0 X9 (by rw[hby];omega) hvl Ki h1v).mono λe w' ⟨h1,h2⟩=>⟨1,_,_,_,h1,h2,hG1,hG2,?_,?_⟩
 .rw[zf5z,size_zeroCells,hzs,zg7z,hvl];omega
 .intro j hj;rw[zf6z (by simp;omega),zf9z]
set_option maxHeartbeats 4000000 in
set_option maxRecDepth 100000 in
theorem Tryz.growZero(base:Option Addr)(w:World):Calls Tryz.prog 338 #[.slice base 0 0,.int .i64 0] w λe w'=>e=.returned (.slice base 0 0)/\w'=w:=by
 go_enter Tryz.func338,Tryz.ntmps338
 go_wp2
 go_ret
 exact⟨rfl,rfl⟩
set_option maxHeartbeats 4000000 in
set_option maxRecDepth 100000 in
theorem Tryz.growSome(base:Option Addr)(n:Nat)(w:World)(i0:TypeInfo)(z:Value)(hi0:Tryz.prog.info? 28=some i0)(hz0:i0.zero=some z)(X9:i0.size=4)(h0:0<n)(hm:n<=maxLen)(hbig:n*i0.bytes<=140737488355328) :
  Calls Tryz.prog 338 #[.slice base 0 0,.int .i64 n] w λe w'=>e=.returned (.slice (some ⟨w.heap.size,0,none⟩) 0 (grownCap w n 0 28)) /\
   w'=w.drew.alloc (.cells (Builtin.zeroCells z.cells n++Builtin.zeroCells z.cells (grownCap w n 0 28-n)) 28):=by
 have hmm:maxLen<=9223372036854775807:=by unfold maxLen;omega
 have mixed:Tryz.prog.follows Departure.mixedOrders=true:=by kernel_rfl
 have hold:(Builtin.firstCells i0.size 0 (.slice base 0 0)).run Tryz.prog w.drew=.ok ([]:List Value).toArray w.drew:=by
  rw[X9];cases base with
  |none=>exact run_firstCells_none w.drew 4 0 0 0
  |some a=>exact run_firstCells_some w.drew 4 0 a 0 0 [] rfl (λj v hj=>by simp at hj)
 have hrz:∀ty,(Builtin.append_ #[26,3] ty #[.slice base 0 0,.int .i64 (n:Int)]).run Tryz.prog w =
   .ok (.slice (some ⟨w.heap.size,0,none⟩) n (grownCap w n 0 28)) (w.drew.alloc (.cells (Builtin.zeroCells z.cells n++Builtin.zeroCells z.cells (grownCap w n 0 28-n)) 28)):=λty=>by
  have h:=Lib.run_append_grow_zeros w 26 3 ty 28 i0 z .i64 .i64 Tryz.termsUnd Tryz.intUnd hi0 hz0 base 0 0 [] hold n (by omega) (by omega) (by omega) (by omega) (by omega)
   (by rw[zg5z];exact growslice_fits (need:=n) (by omega) hbig)
  rw[zg5z]at h;simpa using h
 have hG63:grownCap w n 0 28<=9223372036854775807:=by
  have:=grownCap_le_maxLen w n 0 28 hm;omega
 generalize hG:grownCap w n 0 28=G at *
 generalize hR:Builtin.zeroCells z.cells n++Builtin.zeroCells z.cells (G-n)=R at *
 have h1:¬((n:Int)<0):=by omega
 have h2:wrap64 (n:Int)=(n:Int):=by unfold wrap64;omega
 have h4:(n:Int) > 0:=by omega
 clear hR hold hG
 go_enter Tryz.func338,Tryz.ntmps338
 cases base with
 |none =>
  go_wp2_with (at_builtin;refine Lib.wpList_append_run _ rfl _ _ _ _ rfl _ _ rfl rfl _ _ (hrz _) ?_)
  all_goals (go_ret;exact⟨rfl,rfl⟩)
 |some a =>
  obtain⟨ab,ao,asp⟩:=a
  go_wp2_with (at_builtin;refine Lib.wpList_append_run _ rfl _ _ _ _ rfl _ _ rfl rfl _ _ (hrz _) ?_)
  all_goals (go_ret;exact⟨rfl,rfl⟩)
set_option maxRecDepth 100000 in
theorem Tryz.growLaw:GrowLaw Tryz.prog 338 4 56:=by
 obtain⟨i0,z,hi0,X9,hz0,hzs,hby⟩:∃i0 z,Tryz.prog.info? 28=some i0/\i0.size=4/\i0.zero=some z/\z.cells.size=4/\i0.bytes=56:=⟨_,_,rfl,by kernel_rfl,rfl,by kernel_rfl,by kernel_rfl⟩;refine⟨by omega,by kernel_rfl,λw base=>Tryz.growZero base w,λw base n h0 hb hm=>?_⟩;have hG1:=grownCap_ge w n 0 28;refine(Tryz.growSome base n w i0 z hi0 hz0 X9 h0 hm (by rw[hby];exact hb)).mono λe w' ⟨h1,h2⟩=>⟨1,_,_,_,h1,h2,grownCap_le_maxLen w n 0 28 hm,?_⟩;rw[zf5z,size_zeroCells,size_zeroCells,hzs];omega
end Go.Proofs
