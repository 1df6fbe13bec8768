/- A part of the proof. -/
import Derived.Test.YtnnjamknplefbaaGreatDoorTS20
import Derived.Deep.Draws
import Derived.Laws.CopyRow
import Derived.Laws.Externs
import Derived.Deep.AppendSrc
import Derived.Lib.AppendZerosOnto
import Derived.Test.YtnnjamknplefbaaGreatDoorProg
import Derived.ProofKit
import Derived.WalkKit
import Derived.Lib.Walk
import Derived.Lib.SliceRun
import Derived.Shelf.RegionOpenPlain
import Derived.Shelf.Spec.SlicesInsert
import Derived.KernelRfl
import Derived.Laws.NewBlocks
set_option linter.all false
open List renaming getElem?_eq_some_iff->zf0z,length_take->zf1z,getElem?_eq_getElem->zf2z,getElem?_drop->zf3z,length_append->zf4z,getElem?_take->zf5z,getElem?_range->zg1z,getElem?_append_left->zg2z,getElem?_map->zg3z,length_drop->zg5z,getElem?_toArray->zg6z,getElem?_append_right->zg8z,size_toArray->zt0z,mem_of_mem_drop->zt3z,mem_range->zt5z,mem_map->zt6z,range->A0o
open Nat renaming min_eq_left->zf6z,mul_le_mul_right->zf9z,le_refl->zg4z,add_assoc->zg9z,sub_zero->zt1z,zero_le->zt2z,min_def->zt4z,add_zero->zt7z,lt_or_ge->zt8z,succ_mul->zt9z,zero_mul->A0l,add_mul->A0m,sub_mul->A0n
open Array renaming size_append->zf7z,getD_eq_getD_getElem?->zf8z,getElem?_append_left->zg0z
open Option renaming map_some->zg7z
set_option linter.all false
namespace Go.Abs
open Go.RowKit (Below)
section
variable {P:Program} {E:Env}
theorem eP{k:Nat}{f:Fam}(hf:E.h.fams[k]?=some f)(hw:f.wr=true)(hS:SR E){b o:Nat}(ho:E.ok b o):b≠(E.im k).b:=by
 intro e;rcases ho with ⟨h1,_⟩|⟨_,_,_,h4⟩
 .have:=(hS.fams k f hf).base;omega
 .have:=(h4 k f hf e.symm).1;rw[hw]at this;cases this
theorem Kh(w:World)(dT sT ty elem:TypeId)(K g o dLen dCap:Nat)(a:Addr)(sLen sCap n:Nat)(cur:Array Value)(t:TypeId)(cs:List Value)
  (hu:P.underlying dT=some (.slice elem)) (hs:(P.info? elem).map (·.size)=some K)
  (hg:w.heap[g]?=some (.cells cur t (0,0))) (hn:Nat.min sLen dLen=n) (hl:cs.length=n*K)
  (hsrc:∀j v,cs[j]?=some v->w.cell? (a.add j)=some v) (V6:o+cs.length<=cur.size) (h1:∀v∈cs,v.oneCell'=true) :
  (Builtin.copy_ #[dT,sT] ty #[.slice (some ⟨g,o,none⟩) dLen dCap,.slice (some a) sLen sCap]).run P w =
   .ok (goInt n) (w.setRow g (cur.toList.take o++cs++cur.toList.drop (o+cs.length)).toArray):=by
 have hl':=run_loadCells_list (P:=P) w a cs hsrc;have V8:=run_storeCells_at P g o t cs 0 cur w hg (by simpa using V6) h1;cases hq:P.info? elem with
 |none=>simp[hq]at hs
 |some i =>
  have hi:i.size=K:=by simpa[hq]using hs
  simp[Builtin.copy_,run_underlying hu,Builtin.lenOf,Builtin.firstCells,sizeOf,typeInfo,hq,hi,hn,←hl,hl',V8]
theorem TF(t tx ty e ex:TypeId)(i:TypeInfo)(ht:P.underlying t=some (.slice e))(htx:P.underlying tx=some (.slice ex))(hi:P.info? e=some i)
  (g q sLen sCap:Nat) (cur:Array Value) (t':TypeId) (w:World) (hg:w.heap[g]?=some (.cells cur t' (0,0)))
  (a:Addr) (m c:Nat) (news:List Value) (hl:news.length=m*i.size) (hnews:∀j u,news[j]?=some u->w.cell? (a.add j)=some u) (h1:∀u∈news,u.oneCell'=true)
  (n8:sLen+m<=sCap) (V6:q+sLen*i.size+news.length<=cur.size) :
  (Builtin.append_ #[t,tx] ty #[.slice (some ⟨g,q,none⟩) sLen sCap,.slice (some a) m c]).run P w =
   .ok (.slice (some ⟨g,q,none⟩) (sLen+m) sCap) (w.setRow g (cur.toList.take (q+sLen*i.size)++news++cur.toList.drop (q+sLen*i.size+news.length)).toArray):=by
 have hf:=run_firstCells_some (P:=P) w i.size m a m c news hl hnews;have V8:=run_storeCells_at P g (q+sLen*i.size) t' news 0 cur w hg (by simpa using V6) h1;simp only[zt7z]at V8;simp[Builtin.append_,run_underlying ht,run_underlying htx,sizeOf,typeInfo,hi,Builtin.lenOf,n8,hf,Bj,V8]
theorem Pq(w:World)(tS tS' tR e:TypeId)(ht:P.underlying tS=some (.slice e))(size:Nat)(hz:∀w,(Go.sizeOf e).run P w=.ok size w)
  (a b:Addr) (la ca lb cb:Nat) (s9:a.block≠b.block) (cur cur':Array Value) (t t':TypeId) (fr:Nat×Nat) (ha:w.heap[a.block]?=some (.cells cur t fr)) (h0:0<cur.size)
  (hb:w.heap[b.block]?=some (.cells cur' t' (0,0))) (h0':0<cur'.size) :
  (Extern.SlicesOverlaps.overlaps #[tS,tS'] #[tR] #[.slice (some a) la ca,.slice (some b) lb cb]).run P w=.ok (.bool false) w:=by
 have hnb:(a.block != b.block)=true:=by simpa using s9
 have hnb':(a.block == b.block)=false:=by simpa using s9
 have hsa:w.shape? a.block=some (t,cur.size):=by simp[World.shape?,ha]
 have hsb:w.shape? b.block=some (t',cur'.size):=by simp[World.shape?,hb]
 have hfb:w.frozen? b=false:=by simp[World.frozen?,hb]
 have hfb':w.frozen? {block:=b.block,off:=cur'.size}=false:=by simp[World.frozen?,hb]
 change Sem.run P (α:=Value) (do
  let some t:=(#[tS,tS']:Array TypeId)[0]? | stuck "slices.overlaps: no parameter types"
  let .slice elem ←underlying t|stuck "slices.overlaps: slice type expected"
  let size ←sizeOf elem
  match (some a:Option Addr),(some b:Option Addr)with
  |some a,some b =>
   if la=0\/lb=0\/size=0 then pure (Value.bool false)
   else if a.block != b.block&&(←frozen a)&&(←frozen b)then unsupported .addressObserved
   else do
    if a.block != b.block then do
     noView a;noView b
     if ←mayBeOne a b then return Value.bool ((←choose (.extern "sameAddr.stringBytes" 2)) == 1)
    pure (Value.bool (a.block == b.block&&a.off<b.off+lb*size&&b.off<a.off+la*size))
  |_,_=>pure (Value.bool false)) w=_
 by_cases hc:la=0\/lb=0\/size=0
 .simp[run_underlying ht,hz,hc]
 .obtain⟨ka,hka⟩:∃k,cur.size=k+1:=⟨cur.size-1,by omega⟩;obtain⟨kb,hkb⟩:∃k,cur'.size=k+1:=⟨cur'.size-1,by omega⟩;rw[hka]at hsa;rw[hkb]at hsb hfb';cases hfa:w.frozen? a<;>cases hfe:w.frozen? {block:=a.block,off:=ka+1}<;>
   simp[run_underlying ht,hz,hc,hnb,hnb',frozen,noView,viewAt,mayBeOne,stringish,shape,Sem.run,hsa,hsb,hfb,hfb',hfa,hfe]
structure InsLaw (P:Program) (f:FuncId) (K bytes:Nat):Prop where
 pos:0<K
 enter:Program.enterable P f=true
 inR:∀(w:World) (blk o n c i vb vo vc:Nat) (cur:Array Value) (t:TypeId) (cs vs:List Value),i<=n->n+1<=c->c<=maxLen->cs.length=n*K->vs.length=K->w.heap[blk]?=some (.cells cur t (0,0))->(∀j,j<n*K->cur[o+j]?=cs[j]?) ->
  o+c*K<=cur.size->(∀j v,vs[j]?=some v->w.cell? ⟨vb,vo+j,none⟩=some v)->vb≠blk->(∀v∈cs,v.oneCell'=true)->(∀v∈vs,v.oneCell'=true) ->
  Calls P f #[.slice (some ⟨blk,o,none⟩) n c,.int .i64 i,.slice (some ⟨vb,vo,none⟩) 1 vc] w λe w'=>e=.returned (.slice (some ⟨blk,o,none⟩) (n+1) c)/\∃(q:Nat) (us:Array Value),w'=(w.drewN q).setRow blk us/\us.size=cur.size /\
   ∀j,j<(n+1)*K->us[o+j]?=(cs.take (i*K)++vs++cs.drop (i*K))[j]?
 newR:∀(w:World) (base:Option Addr) (n c i vb vo vc:Nat) (cs vs:List Value),i<=n->n<=c->c<n+1->n+1<=maxLen->(n+1)*bytes<=P7->cs.length=n*K->vs.length=K->(base=none->n=0) ->
  (∀a,base=some a->(0<n->a.spot=none)/\∀j v,cs[j]?=some v->w.cell? (a.add j)=some v)->(∀j v,vs[j]?=some v->w.cell? ⟨vb,vo+j,none⟩=some v)->(∀v∈cs,v.oneCell'=true)->(∀v∈vs,v.oneCell'=true) ->
  Calls P f #[.slice base n c,.int .i64 i,.slice (some ⟨vb,vo,none⟩) 1 vc] w λe w'=>∃(q G:Nat) (us:Array Value) (t:TypeId),e=.returned (.slice (some ⟨w.heap.size,0,none⟩) (n+1) G)/\w'=(w.drewN q).alloc (.cells us t)/\n+1<=G/\G<=maxLen/\G*K<=us.size /\
   ∀j,j<(n+1)*K->us[j]?=(cs.take (i*K)++vs++cs.drop (i*K))[j]?
theorem DG(w:World)(q:Nat):Bl w.heap.size w (w.drewN q):=⟨⟨rfl,rfl,rfl,zg4z _,λ_ _=>rfl⟩,λ_=>Nat.le_add_right _ _⟩
theorem nU{cs vs:List Value}{xs:I7}{x:AV}{K n i:Nat}(hr:Ee E cs xs K)(hl:cs.length=n*K)(iH:xs.length=n)(hv:Ee E vs [x] K)(hvl:vs.length=K)(hi:i<=n) :
  Ee E (cs.take (i*K)++vs++cs.drop (i*K)) (xs.take i++x::xs.drop i) K:=by
 have h1:Ee E (cs.take (i*K)) (xs.take i) K:=by
  intro j y hy;rw[zf5z]at hy;split at hy
  .rename_i hj;obtain⟨g1,g2⟩:=hr j y hy;refine⟨g1,λc z hz=>?_⟩;obtain⟨v,v1,v2⟩:=g2 c z hz;have hc:c<K:=by have:=(zf0z.1 hz).1;omega
   have:=BM hj hc;exact⟨v,by rw[zf5z,if_pos (by omega)];exact v1,v2⟩
  .cases hy
 have h2:Ee E (cs.drop (i*K)) (xs.drop i) K:=by
  intro j y hy;rw[zf3z]at hy;obtain⟨g1,g2⟩:=hr (i+j) y hy;refine⟨g1,λc z hz=>?_⟩;obtain⟨v,v1,v2⟩:=g2 c z hz;refine⟨v,?_,v2⟩;rw[zf3z,←zg9z,←A0m];exact v1
 have hiK:i*K<=n*K:=zf9z _ hi;have h3:=Gp (Gp h1 (by rw[zf1z,zf1z,hl,iH,zf6z hiK,zf6z hi]) hv) (by
  rw[zf4z,zf4z,zf1z,zf1z,hl,iH,hvl,zf6z hiK,zf6z hi,A0m];simp) h2
 rw[List.append_assoc (xs.take i)]at h3;exact h3
theorem cP(hS:SR E){k n:Nat}{f:Fam}{v:Value}(hv:VR E (.sl k n 0 n) v)(hf:E.h.fams[k]?=some f)(hn:f.xs.length=n)(h0:0<n):∃(cur:Array Value) (t:TypeId) (cs:List Value),v=.slice (some ⟨(E.im k).b,(E.im k).o,none⟩) n (E.im k).cap/\(E.im k).lo=0/\n<=(E.im k).cap/\(E.im k).cap<=maxLen /\
  E.w.heap[(E.im k).b]?=some (.cells cur t (0,0))/\(E.im k).o+(E.im k).cap*f.sz<=cur.size/\cs.length=n*f.sz/\(∀j,j<n*f.sz->cur[(E.im k).o+j]?=cs[j]?)/\(∀u∈cs,u.oneCell'=true)/\Ee E cs f.xs f.sz:=by
 simp only[VR]at hv;obtain⟨a,cap,f',rfl,hf',⟨_,_⟩,hv⟩:=hv;rw[hf]at hf';cases hf';obtain⟨l1,_,l3,_,l5⟩:=hv hn;have hF:=hS.fams k f hf;have Na:(E.im k).lo=0:=by omega
 have n8:=hF.room;have hcap:cap=(E.im k).cap:=by omega
 have ha:a=some ⟨(E.im k).b,(E.im k).o,none⟩:=by
  have:=l5 (by omega);rw[Na]at this;simpa using this
 subst ha;obtain⟨cur,t,hcur,V6,LN⟩:=hF.cells;rw[Na]at LN;have hnK:n*f.sz<=(E.im k).cap*f.sz:=zf9z _ (by omega);refine⟨cur,t,(A0o (n*f.sz)).map λj=>cur.getD ((E.im k).o+j) undef,by rw[hcap],Na,by omega,hF.cap,hcur,V6,by simp,λj hj=>?_,λu hu=>?_,λj x hx=>?_⟩
 .rw[zg3z,zg1z hj,zg7z,zf8z,Array.getElem?_eq_getElem (by omega)];rfl
 .rw[zt6z]at hu;obtain⟨j,hj,rfl⟩:=hu;rw[zt5z]at hj;obtain⟨q1,q2,q3⟩:=gh hF.sz hj;obtain⟨g1,g2⟩:=LN (j / f.sz) _ (zt2z _) (zf2z (by omega));obtain⟨u,u1,u2,_⟩:=g2 (j % f.sz) _ (zf2z (by omega));rw[zt1z,show (E.im k).o+j / f.sz*f.sz+j % f.sz=(E.im k).o+j from by omega]at u1;rw[zf8z,u1];exact u2
 .obtain⟨g1,g2⟩:=LN j x (zt2z _) hx;refine⟨g1,λc y hy=>?_⟩;obtain⟨u,u1,u2,u3⟩:=g2 c y hy;rw[zt1z]at u1;have hj:j<n:=by have:=(zf0z.1 hx).1;omega
  have hc:c<f.sz:=by have:=(zf0z.1 hy).1;omega
  have G9:=BM hj hc;refine⟨u,?_,u2,u3⟩;rw[zg3z,zg1z G9,zg7z,zf8z,show (E.im k).o+(j*f.sz+c)=(E.im k).o+j*f.sz+c from by omega,u1];rfl
theorem Va(hS:SR E){q:Bool}{z K:Nat}{x:AV}{v:Value}(hz:z=K)(hv:VR E (.vs q z [x]) v):∃(vb vo vc:Nat) (vs:List Value),v=.slice (some ⟨vb,vo,none⟩) 1 vc/\vs.length=K/\(∀j u,vs[j]?=some u->E.w.cell? ⟨vb,vo+j,none⟩=some u/\E.ok vb (vo+j))/\(∀u∈vs,u.oneCell'=true)/\Ee E vs [x] K/\0<K:=by
 subst hz;simp only[VR,PV]at hv;obtain⟨a,len,cap,rfl,rfl,_,_,_,_,h6⟩:=hv;obtain⟨b,o,rfl,hz,he⟩:=h6 (by simp);obtain⟨p1,p2⟩:=IM he (j:=0) (x:=x) rfl;rw[A0l,zt7z]at p2;have hex:∀c,c<z->∃u y,x.cells[c]?=some y/\E.ok b (o+c)/\E.w.cell? ⟨b,o+c,none⟩=some u/\u.oneCell'=true/\PV E.w E.ok y u:=λc hc=>by
  have G9:c<x.cells.length:=by omega
  obtain⟨u,u1,u2,u3,u4⟩:=Af p2 (zf2z G9);exact⟨u,_,zf2z G9,u1,u2,u3,u4⟩
 refine⟨b,o,cap,(A0o z).map λc=>(E.w.cell? ⟨b,o+c,none⟩).getD undef,rfl,by simp,λj u hu=>?_,λu hu=>?_,λj y hy=>?_,hz⟩
 .rw[zg3z]at hu;by_cases hj:j<z
  .rw[zg1z hj,zg7z,Option.some.injEq]at hu;obtain⟨u',_,_,u1,u2,_⟩:=hex j hj;rw[u2]at hu ⊢;cases hu;exact⟨rfl,u1⟩
  .rw[List.getElem?_eq_none (by simpa using hj)]at hu;cases hu
 .rw[zt6z]at hu;obtain⟨j,hj,rfl⟩:=hu;rw[zt5z]at hj;obtain⟨u',_,_,u1,u2,u3,_⟩:=hex j hj;rw[u2];exact u3
 .have hj:j=0:=by
   have:=(zf0z.1 hy).1;simp at this;exact this
  subst hj;simp only[List.getElem?_cons_zero,Option.some.injEq]at hy;subst hy;refine⟨p1,λc y hy=>?_⟩;have hc:c<z:=by have:=(zf0z.1 hy).1;omega
  obtain⟨u,u1,u2,u3,u4⟩:=Af p2 hy;refine⟨u,?_,u3,u4⟩;rw[A0l,Nat.zero_add,zg3z,zg1z hc,zg7z,u2];rfl
theorem lE{f:FuncId}{K bytes:Nat}(L:InsLaw P f K bytes)(O:Orc)(args:I7)(h:AH)(r:AV)(h':AH)(he:(insR K bytes).run O args h=some (r,h')):Program.enterable P f=true /\
  ∀(E:Env) (vs:Array Value),SR E->DC E.w E.ok->E.h=h->W5 E args vs.toList ->
   Calls P f vs E.w λe w'=>∃u E',e=.returned u/\w'=E'.w/\Ext E E'/\SR E'/\E'.h=h'/\VR E' r u:=by
 refine⟨L.enter,λE avs hS _ hh hv=>?_⟩;subst hh;change SP K bytes args E.h=some (r,h')at he;unfold SP at he;split at he
 .rename_i s i q z x;split at he
  .rename_i hc0;obtain⟨hzK,hag⟩:=hc0;obtain⟨avs⟩:=avs;simp only[W5]at hv;obtain⟨v0,_,rfl,hv0,v1,_,rfl,hv1,v2,_,rfl,hv2,rfl⟩:=hv;simp only[VR]at hv1;subst hv1;obtain⟨vb,vo,vc,vs,rfl,hvl,hvc,hv1c,hvr,hK⟩:=Va hS hzK hv2;have hvc1:∀j u,vs[j]?=some u->E.w.cell? ⟨vb,vo+j,none⟩=some u:=λj u hu=>(hvc j u hu).1;have hv0':∃u,vs[0]?=some u:=⟨_,zf2z (by omega)⟩;split at he
   .rename_i k n off len;split at he
    .rename_i f' hf;split at he
     .rename_i hc;obtain⟨c1,c2,c3,c4,c5,c6,c7,c8,c9,c10⟩:=hc;cases he;subst c2;have c3':=c3.symm;subst c3';obtain⟨cur,t,cs,rfl,Na,hncap,hcapm,hcur,V6,Ev,hcc,hc1,hrow⟩:=cP hS hv0 hf c1 c4;rw[c6]at V6 Ev hcc hrow;have hi0:(i.toNat:Int)=i:=Int.toNat_of_nonneg c7;have ZG:i.toNat<=n:=by omega
      have s9:vb≠(E.im k).b:=by
       obtain⟨u,hu⟩:=hv0';exact eP hf c5 hS (hvc 0 u hu).2
      have hrow':∀{E':Env},Ext E E'->Ee E' (cs.take (i.toNat*K)++vs++cs.drop (i.toNat*K)) (f'.xs.take i.toNat++x::f'.xs.drop i.toNat) K:=λhx=>Kz hx (nU hrow Ev c1 hvr hvl ZG);have J3:(f'.xs.take i.toNat++x::f'.xs.drop i.toNat).length=n+1:=by simp;omega
      rw[←hi0];by_cases n8:n+1<=(E.im k).cap
      .refine(L.inR E.w (E.im k).b (E.im k).o n (E.im k).cap i.toNat vb vo vc cur t cs vs ZG n8 hcapm Ev hvl hcur hcc V6 hvc1 s9 hc1 hv1c).mono λe w' ⟨h1,q,us,h2,h3,h4⟩=>?_;have x1:=AJ hS (DG E.w q);have s1:=Cm hS (DG E.w q);have hcur1:({E with w:=E.w.drewN q}:Env).w.heap[(({E with w:=E.w.drewN q}:Env).im k).b]?=some (.cells cur t (0,0)):=hcur
       have Ju:f'.xs.length<=(f'.xs.take i.toNat++x::f'.xs.drop i.toNat).length:=by rw[J3];omega
       have x2:=GS s1 (f':={f' with xs:=f'.xs.take i.toNat++x::f'.xs.drop i.toNat}) (us:=us) hf hcur1 rfl rfl Ju (λhw=>by rw[c5]at hw;cases hw)
       have s2:=KI s1 (f':={f' with xs:=f'.xs.take i.toNat++x::f'.xs.drop i.toNat}) (us:=us) hf hcur1 rfl rfl Ju (λhw=>by rw[c5]at hw;cases hw)
        (by show (f'.xs.take i.toNat++x::f'.xs.drop i.toNat).length<=(E.im k).lo+(E.im k).cap;omega) h3 (by
         intro j y _ hy;show MS _ _ ((E.im k).o+(j-(E.im k).lo)*f'.sz) f'.sz y;rw[Na,zt1z,c6];obtain⟨g1,g2⟩:=hrow' x1 j y hy;refine⟨g1,λc y' hy'=>?_⟩;obtain⟨v,v1,v2⟩:=g2 c y' hy';have hjn:j<n+1:=by have:=(zf0z.1 hy).1;rw[←J3];exact this
         have hcK:c<K:=by have:=(zf0z.1 hy').1;omega
         exact⟨v,by rw[zg9z,h4 _ (BM hjn hcK)];exact v1,v2⟩)
       refine⟨_,({E with w:=E.w.drewN q}:Env).setFam k us {f' with xs:=f'.xs.take i.toNat++x::f'.xs.drop i.toNat},h1,h2,x1.trans x2,s2,rfl,?_⟩
       have DB:=(zf0z.1 hf).1;simp only[VR,Env.setFam];exact⟨_,_,{f' with xs:=f'.xs.take i.toNat++x::f'.xs.drop i.toNat},rfl,by simp[DB],⟨by rw[J3];exact zg4z _,λ_=>⟨_,_,rfl⟩⟩,λ_=>⟨by omega,by omega,by omega,(λh=>nomatch h),λ_=>by simp[Na]⟩⟩
      .refine(L.newR E.w (some ⟨(E.im k).b,(E.im k).o,none⟩) n (E.im k).cap i.toNat vb vo vc cs vs ZG hncap (by omega) c10 c9 Ev hvl (λh=>nomatch h) (λa ha=>?_) hvc1 hc1 hv1c).mono λe w' ⟨q,G,us,te,h1,h2,h3,h4,h5,h6⟩=>?_
       .cases ha;refine⟨λ_=>rfl,λj v hj=>?_⟩;have hjn:j<n*K:=by have:=(zf0z.1 hj).1;omega
        rw[Bj,cell_of_row _ _ _ _ _ _ hcur,hcc j hjn];exact hj
       have x1:=AJ hS (DG E.w q);have s1:=Cm hS (DG E.w q);have G9:f'.xs.length<(f'.xs.take i.toNat++x::f'.xs.drop i.toNat).length:=by rw[J3];omega
       have x2:=LQ s1 (f':={f' with xs:=f'.xs.take i.toNat++x::f'.xs.drop i.toNat}) hf us te 0 G rfl G9
       have s2:=Sb s1 (f':={f' with xs:=f'.xs.take i.toNat++x::f'.xs.drop i.toNat}) (us:=us) (t:=te) (lo:=0) (cap:=G) hf rfl G9 (zt2z _) (by show (f'.xs.take i.toNat++x::f'.xs.drop i.toNat).length<=0+G;omega) h4 (by rw[c6];exact h5) (by
         intro j y _ hy;rw[zt1z,c6];obtain⟨g1,g2⟩:=hrow' x1 j y hy;refine⟨g1,λc y' hy'=>?_⟩;obtain⟨v,v1,v2⟩:=g2 c y' hy';have hjn:j<n+1:=by have:=(zf0z.1 hy).1;rw[←J3];exact this
         have hcK:c<K:=by have:=(zf0z.1 hy').1;omega
         exact⟨v,by rw[h6 _ (BM hjn hcK)];exact v1,v2⟩)
       refine⟨_,({E with w:=E.w.drewN q}:Env).moveFam k us te 0 G {f' with xs:=f'.xs.take i.toNat++x::f'.xs.drop i.toNat},h1,h2,x1.trans x2,s2,rfl,?_⟩
       have DB:=(zf0z.1 hf).1;simp only[VR,Env.moveFam,V4];exact⟨_,_,{f' with xs:=f'.xs.take i.toNat++x::f'.xs.drop i.toNat},rfl,by simp[DB],⟨by rw[J3];exact zg4z _,λ_=>⟨_,_,rfl⟩⟩,λ_=>⟨zg4z _,by omega,by omega,(λh=>nomatch h),λ_=>by simp⟩⟩
     .cases he
    .cases he
   .rename_i z';split at he
    .rename_i hc;obtain⟨rfl,hb⟩:=hc;cases he;simp only[VR,PV]at hv0;obtain⟨base,len,cap,rfl,rfl,_,_,h4',_,_⟩:=hv0;have hcap:cap=0:=h4' trivial;subst hcap;refine(L.newR E.w base 0 0 0 vb vo vc [] vs (zg4z _) (zg4z _) (by omega) (by unfold maxLen;omega) (by omega) (by simp) hvl (λ_=>rfl) (λa ha=>?_) hvc1 (λ_ h=>nomatch h) hv1c).mono λe w' ⟨q,G,us,te,h1,h2,h3,h4,h5,h6⟩=>?_
     .exact⟨λh=>absurd h (Nat.lt_irrefl 0),λj v hj=>by simp at hj⟩
     have x1:=AJ hS (DG E.w q);have s1:=Cm hS (DG E.w q);refine⟨_,({E with w:=E.w.drewN q}:Env).newFam us te G ⟨[x],K,true⟩,h1,h2,x1.trans (FF s1 _ _ _ _),II s1 hK (by simpa using h3) h4 h5 (λj y hy=>?_),rfl,?_⟩
     .obtain⟨g1,g2⟩:=Kz x1 hvr j y hy;refine⟨g1,λc y' hy'=>?_⟩;obtain⟨v,v1,v2⟩:=g2 c y' hy';have hjn:j<0+1:=by have:=(zf0z.1 hy).1;simpa using this
      have hcK:c<K:=by have:=(zf0z.1 hy').1;omega
      exact⟨v,by rw[h6 _ (BM hjn hcK)];simpa using v1,v2⟩
     .simp only[VR,Env.newFam,V4];exact⟨_,_,⟨[x],K,true⟩,rfl,by simp,⟨by simp,λ_=>⟨_,_,rfl⟩⟩,λ_=>⟨zt2z _,by simp,by simp,(λh=>nomatch h),λ_=>by simp⟩⟩
    .cases he
   .cases he
  .cases he
 .cases he
end
end Go.Abs
set_option linter.unusedVariables false
set_option linter.unusedSimpArgs false
namespace Go.Proofs
open Go.RowKit Go.Lib Go.Abs
theorem Tryz.setUnd:Tryz.prog.underlying 373=some (.slice 28):=by kernel_rfl
theorem Tryz.termsUnd:Tryz.prog.underlying 26=some (.slice 28):=by kernel_rfl
theorem Tryz.intUnd:Tryz.prog.underlying 3=some (.int .i64):=by kernel_rfl
set_option maxHeartbeats 4000000 in
set_option maxRecDepth 100000 in
theorem Tryz.ins_end_room(blk o n c vb vo vc:Nat)(cur:Array Value)(t:TypeId)(vs:List Value)(w:World)(n8:n+1<=c)(hm:c<=maxLen)(hvl:vs.length=4)(hcur:w.heap[blk]?=some (.cells cur t (0,0)))(V6:o+c*4<=cur.size)
  (GJ:∀j v,vs[j]?=some v->w.cell? ⟨vb,vo+j,none⟩=some v) (h1v:∀v∈vs,v.oneCell'=true) (us:Array Value) (Nb:us=(cur.toList.take (o+n*4)++vs++cur.toList.drop (o+n*4+vs.length)).toArray) :
  Calls Tryz.prog 432 #[.slice (some ⟨blk,o,none⟩) n c,.int .i64 n,.slice (some ⟨vb,vo,none⟩) 1 vc] w λe w'=>e=.returned (.slice (some ⟨blk,o,none⟩) (n+1) c)/\w'=w.setRow blk us:=by
 obtain⟨i0,hi0,Y3⟩:∃i0,Tryz.prog.info? 28=some i0/\i0.size=4:=⟨_,rfl,by kernel_rfl⟩;have hrun:∀ty,(Builtin.append_ #[373,26] ty #[.slice (some ⟨blk,o,none⟩) n c,.slice (some ⟨vb,vo,none⟩) 1 vc]).run Tryz.prog w=_:=λty =>
  TF 373 26 ty 28 28 i0 Tryz.setUnd Tryz.termsUnd hi0 blk o n c cur t w hcur ⟨vb,vo,none⟩ 1 vc vs (by rw[Y3,hvl]) (λj v hj=>by rw[Addr.add_lit];exact GJ j v hj) h1v n8 (by rw[Y3,hvl];omega)
 rw[Y3,←Nb]at hrun;have hmm:maxLen<=9223372036854775807:=by unfold maxLen;omega
 clear Nb
 go_enter Tryz.func432,Tryz.ntmps432
 go_wp2_with (at_builtin;refine Lib.wpList_append_run _ rfl _ _ _ _ rfl _ _ rfl rfl _ _ (hrun _) ?_)
 go_ret
 exact⟨rfl,rfl⟩
set_option maxHeartbeats 4000000 in
set_option maxRecDepth 100000 in
theorem Tryz.ins_end_grow(base:Option Addr)(n c vb vo vc:Nat)(cs vs:List Value)(w:World)(i0:TypeInfo)(z:Value)(hi0:Tryz.prog.info? 28=some i0)(hz0:i0.zero=some z)(Y3:i0.size=4)(hnc:n<=c)(n8:c<n+1)(hm:n+1<=maxLen)(hbig:(n+1)*i0.bytes<=140737488355328)
  (Ev:cs.length=n*4) (hvl:vs.length=4) (hnil:base=none->n=0) (o9:∀a,base=some a->∀j v,cs[j]?=some v->w.cell? (a.add j)=some v) (GJ:∀j v,vs[j]?=some v->w.cell? ⟨vb,vo+j,none⟩=some v) (h1v:∀v∈vs,v.oneCell'=true) :
  Calls Tryz.prog 432 #[.slice base n c,.int .i64 n,.slice (some ⟨vb,vo,none⟩) 1 vc] w λe w'=>e=.returned (.slice (some ⟨w.heap.size,0,none⟩) (n+1) (grownCap w (n+1) c 28)) /\
   w'=w.drew.alloc (.cells ((cs++vs).toArray++Builtin.zeroCells z.cells (grownCap w (n+1) c 28-(n+1))) 28):=by
 have hmm:maxLen<=9223372036854775807:=by unfold maxLen;omega
 have hsrc:Src Tryz.prog i0.size 26 (.slice (some ⟨vb,vo,none⟩) 1 vc) 1 vs w:=Src.ofSlice w Tryz.termsUnd ⟨vb,vo,none⟩ 1 vc vs (by rw[Y3,hvl]) (λj u hj=>by rw[Addr.add_lit];exact GJ j u hj) h1v;have hold:(Builtin.firstCells i0.size n (.slice base n c)).run Tryz.prog w.drew=.ok cs.toArray w.drew:=by
  rw[Y3];cases base with
  |none =>
   have h0:=hnil rfl;subst h0;have hc0:cs=[]:=List.length_eq_zero_iff.1 (by simpa using Ev);rw[hc0];exact run_firstCells_none w.drew 4 0 0 c
  |some a=>exact run_firstCells_some w.drew 4 n a n c cs Ev (λj v hj=>o9 a rfl j v hj)
 have hrun:∀ty,(Builtin.append_ #[373,26] ty #[.slice base n c,.slice (some ⟨vb,vo,none⟩) 1 vc]).run Tryz.prog w=_:=λty =>
  run_append_grow_src w 373 26 ty 28 i0 z Tryz.setUnd hi0 hz0 base n c cs hold _ 1 vs hsrc n8 (by omega) (growslice_fits n8 hbig)
 generalize hG:grownCap w (n+1) c 28=G at *
 generalize hR:(cs++vs).toArray++Builtin.zeroCells z.cells (G-(n+1))=R at *
 clear hR hold hsrc hG
 go_enter Tryz.func432,Tryz.ntmps432
 cases base with
 |none =>
  have h0:=hnil rfl;subst h0
  go_wp2_with (at_builtin;refine Lib.wpList_append_run _ rfl _ _ _ _ rfl _ _ rfl rfl _ _ (hrun _) ?_)
  go_ret
  exact⟨rfl,rfl⟩
 |some a =>
  obtain⟨ab,ao,asp⟩:=a
  go_wp2_with (at_builtin;refine Lib.wpList_append_run _ rfl _ _ _ _ rfl _ _ rfl rfl _ _ (hrun _) ?_)
  all_goals (go_ret;exact⟨rfl,rfl⟩)
set_option maxHeartbeats 4000000 in
set_option maxRecDepth 100000 in
theorem Tryz.ins_shift(blk o n c i vb vo vc:Nat)(cur us1 us2:Array Value)(t:TypeId)(cs vs:List Value)(w:World)(hi:i<n)(n8:n+1<=c)(hm:c<=maxLen)(Ev:cs.length=n*4)(hvl:vs.length=4)(s9:vb≠blk)
  (hcur:w.heap[blk]?=some (.cells cur t (0,0))) (V6:o+c*4<=cur.size) (hcc:∀j,j<n*4->cur[o+j]?=cs[j]?) (GJ:∀j v,vs[j]?=some v->w.cell? ⟨vb,vo+j,none⟩=some v) (h1c:∀v∈cs,v.oneCell'=true) (h1v:∀v∈vs,v.oneCell'=true)
  (hu1:us1=(cur.toList.take (o+(i+1)*4)++cs.drop (i*4)++cur.toList.drop (o+(i+1)*4+(cs.drop (i*4)).length)).toArray) (hu2:us2=(us1.toList.take (o+i*4)++vs++us1.toList.drop (o+i*4+vs.length)).toArray) :
  Calls Tryz.prog 432 #[.slice (some ⟨blk,o,none⟩) n c,.int .i64 i,.slice (some ⟨vb,vo,none⟩) 1 vc] w λe w'=>e=.returned (.slice (some ⟨blk,o,none⟩) (n+1) c)/\w'=(w.drew.setRow blk us1).setRow blk us2:=by
 have hmm:maxLen<=9223372036854775807:=by unfold maxLen;omega
 have hz2:¬((i:Int)=(n:Int)):=by omega
 have Y3:(Tryz.prog.info? 28).map (·.size)=some 4:=by kernel_rfl
 have zz:∀w,(Go.sizeOf 28).run Tryz.prog w=.ok 4 w:=λw=>by
  cases hq:Tryz.prog.info? 28 with
  |none=>simp[hq]at Y3
  |some i=>simp[hq]at Y3;simp[Go.sizeOf,typeInfo,hq,Y3]
 have hcs0:0<cur.size:=by omega
 have hv0:w.cell? ⟨vb,vo+0,none⟩=some vs[0]:=GJ 0 _ (zf2z (by omega));obtain⟨curv,tv,frv,hcv,hcv0⟩:∃curv tv frv,w.heap[vb]?=some (.cells curv tv frv)/\0<curv.size:=by
  unfold World.cell? at hv0;split at hv0
  .rename_i a b c' h;refine⟨a,b,c',h,?_⟩;simp only[Option.isSome_none,Bool.false_eq_true,if_false]at hv0;have:=(Array.getElem?_eq_some_iff.1 hv0).1;omega
  .cases hv0
 have hov:∀x lb cb,(callFunc 464 #[.slice (some ⟨vb,vo,none⟩) 1 vc,.slice (some ⟨blk,x,none⟩) lb cb]).run Tryz.prog w=.ok (.value (.bool false)) w:=λx lb cb=>by
  rw[run_callFunc_extern Tryz.func464 (by kernel_rfl) (by kernel_rfl) (by kernel_rfl) (e:=Extern.SlicesOverlaps.overlaps #[26,26] #[4]) (by kernel_rfl),
   Pq w 26 26 4 28 Tryz.termsUnd 4 zz ⟨vb,vo,none⟩ ⟨blk,x,none⟩ 1 vc lb cb s9 curv cur tv t frv hcv hcv0 hcur hcs0]
  rfl
 have qd:(cs.drop (i*4)).length=(n-i)*4:=by rw[zg5z,Ev,A0n]
 have hcur':w.drew.heap[blk]?=some (.cells cur t (0,0)):=hcur;have hcp1:∀ty dc sc,(Builtin.copy_ #[373,373] ty #[.slice (some ⟨blk,o+(i+1)*4,none⟩) (n-i) dc,.slice (some ⟨blk,o+i*4,none⟩) (n+1-i) sc]).run Tryz.prog w.drew=.ok (goInt (n-i:Nat)) (w.drew.setRow blk us1):=λty dc sc=>by
  rw[hu1];exact Kh w.drew _ _ ty 28 4 blk (o+(i+1)*4) (n-i) dc ⟨blk,o+i*4,none⟩ (n+1-i) sc (n-i) cur t (cs.drop (i*4)) Tryz.setUnd Y3 hcur' (by simp only[zt4z];split<;>omega) qd
   (λj v hj=>by
    rw[Addr.add_lit,cell_of_row _ _ _ _ _ _ hcur'];rw[zf3z]at hj;have hjn:i*4+j<n*4:=by have:=(zf0z.1 hj).1;omega
    rw[zg9z,hcc _ hjn];exact hj) (by rw[qd];omega) (λv hv=>h1c v (zt3z hv))
 have hs1:us1.size=cur.size:=by rw[hu1];simp;omega
 have hW1:(w.drew.setRow blk us1).heap[blk]?=some (.cells us1 t (0,0)):=setRow_heap _ _ _ _ _ _ hcur';have hcp2:∀ty dc,(Builtin.copy_ #[373,26] ty #[.slice (some ⟨blk,o+i*4,none⟩) (n+1-i) dc,.slice (some ⟨vb,vo,none⟩) 1 vc]).run Tryz.prog (w.drew.setRow blk us1)=.ok (goInt (1:Nat)) ((w.drew.setRow blk us1).setRow blk us2):=λty dc=>by
  rw[hu2];exact Kh (w.drew.setRow blk us1) _ _ ty 28 4 blk (o+i*4) (n+1-i) dc ⟨vb,vo,none⟩ 1 vc 1 us1 t vs Tryz.setUnd Y3 hW1 (by simp only[zt4z];split<;>omega) (by rw[hvl])
   (λj v hj=>by
    rw[Addr.add_lit,World.cell?_of_block (a:=⟨vb,vo+j,none⟩) (setRow_other _ _ _ _ s9)];exact GJ j v hj) (by rw[hvl,hs1];omega) h1v
 have mixed:Tryz.prog.follows Departure.mixedOrders=true:=by kernel_rfl
 have hw1:IntKind.i64.wrap ((i:Int)+1)=(i:Int)+1:=by rw[IntKind.wrap_i64];omega
 have hw2:IntKind.i64.wrap ((n:Int)+1)=(n:Int)+1:=by rw[IntKind.wrap_i64];omega
 have hb1:(0:Int)<=(i:Int)+1:=by omega
 have ZG:i<=n:=by omega
 have htn:((i:Int)+1).toNat=i+1:=by omega
 have htn2:((n:Int)+1).toNat=n+1:=by omega
 have hb2:¬(c=i+1):=by omega
 have hb3:(i:Int)<=(n:Int)+1:=by omega
 have hb4:¬(c=i):=by omega
 clear hu1 hu2 hv0 hcc h1c h1v GJ hcv hW1 qd
 go_enter Tryz.func432,Tryz.ntmps432
 go_wp2_with (simp only[hov])
 go_region_law_o (refine step_copy_runI rfl _ _ 373 373 rfl _ _ (by simp[Act.eval,Act.put]) (by simp[Act.eval,Act.put]) (hcp1 _ _ _) ?_)
 go_wp2_with (at_builtin;refine wpList_copy_runI _ rfl _ _ 373 26 rfl _ _ rfl rfl (hcp2 _ _) ?_)
 go_ret
 exact⟨rfl,rfl⟩
theorem Hi(w:World)(r us:Array Value)(t:TypeId):(w.alloc (.cells r t)).setRow w.heap.size us=w.alloc (.cells us t):=by
 unfold World.alloc World.setRow;congr 1;apply Array.ext_getElem?;intro k;simp only[Array.getElem?_modify,Array.getElem?_push];by_cases hk:w.heap.size=k
 .subst hk;simp
 .have:¬k=w.heap.size:=λe=>hk e.symm;simp[hk,this]
set_option maxHeartbeats 4000000 in
set_option maxRecDepth 100000 in
theorem Tryz.ins_grow(blk o n c i vb vo vc:Nat)(us1 us2:Array Value)(cs vs:List Value)(w:World)(i0:TypeInfo)(z:Value)(hi0:Tryz.prog.info? 28=some i0)(hz0:i0.zero=some z)(Y3:i0.size=4)(hzs:z.cells.size=4)(hi:i<n)(hnc:n<=c)(n8:c<n+1)(hm:n+1<=maxLen)(hbig:(n+1)*i0.bytes<=140737488355328)
  (Ev:cs.length=n*4) (hvl:vs.length=4) (o9:∀j v,cs[j]?=some v->w.cell? ⟨blk,o+j,none⟩=some v) (GJ:∀j v,vs[j]?=some v->w.cell? ⟨vb,vo+j,none⟩=some v) (h1c:∀v∈cs,v.oneCell'=true) (h1v:∀v∈vs,v.oneCell'=true) (ROW:Array Value)
  (hROW:ROW=(cs.take (i*4)).toArray++Builtin.zeroCells z.cells (n+1-i)++Builtin.zeroCells z.cells (grownCap w (n+1) c 28-(n+1)))
  (hu1:us1=(ROW.toList.take (i*4)++vs++ROW.toList.drop (i*4+vs.length)).toArray) (hu2:us2=(us1.toList.take ((i+1)*4)++cs.drop (i*4)++us1.toList.drop ((i+1)*4+(cs.drop (i*4)).length)).toArray) :
  Calls Tryz.prog 432 #[.slice (some ⟨blk,o,none⟩) n c,.int .i64 i,.slice (some ⟨vb,vo,none⟩) 1 vc] w λe w'=>e=.returned (.slice (some ⟨w.heap.size,0,none⟩) (n+1) (grownCap w (n+1) c 28)) /\
   ∃q,w'=(w.drewN q).alloc (.cells us2 28):=by
 have hmm:maxLen<=9223372036854775807:=by unfold maxLen;omega
 have hz2:¬((i:Int)=(n:Int)):=by omega
 have hz3:(c:Int)<(n:Int)+1:=by omega
 have hszm:(Tryz.prog.info? 28).map (·.size)=some 4:=by rw[hi0];simp[Y3]
 have zz:∀w,(Go.sizeOf 28).run Tryz.prog w=.ok 4 w:=λw=>by simp[Go.sizeOf,typeInfo,hi0,Y3]
 have hbw:blk<w.heap.size:=block_lt_of_cell (o9 0 _ (zf2z (by omega)));have hvw:vb<w.heap.size:=block_lt_of_cell (GJ 0 _ (zf2z (by omega)));have hik:i+(n+1-i)=n+1:=by omega
 have Hq:(n:Int)+1-(i:Int)=((n+1-i:Nat):Int):=by omega
 have hold:(Builtin.firstCells i0.size i (.slice (some ⟨blk,o,none⟩) i c)).run Tryz.prog w.drew=.ok (cs.take (i*4)).toArray w.drew:=by
  rw[Y3];exact run_firstCells_some w.drew 4 i ⟨blk,o,none⟩ i c (cs.take (i*4)) (by rw[zf1z,Ev];omega) (λj v hj=>by
   rw[Addr.add_lit];rw[zf5z]at hj;split at hj
   .exact o9 j v hj
   .cases hj)
 have hrz:∀ty,(Builtin.append_ #[373,3] ty #[.slice (some ⟨blk,o,none⟩) i c,.int .i64 ((n:Int)+1-(i:Int))]).run Tryz.prog w =
   .ok (.slice (some ⟨w.heap.size,0,none⟩) (n+1) (grownCap w (n+1) c 28)) (w.drew.alloc (.cells ROW 28)):=λty=>by
  have h:=Lib.run_append_grow_zeros w 373 3 ty 28 i0 z .i64 .i64 Tryz.setUnd Tryz.intUnd hi0 hz0 (some ⟨blk,o,none⟩) i c (cs.take (i*4)) hold (n+1-i) (by omega) (by omega) (by omega) (by omega)
   (by
     have:(n+1-i)*i0.bytes<=(n+1)*i0.bytes:=zf9z _ (by omega);omega) (by rw[hik];exact growslice_fits n8 hbig)
  rw[hik,←hROW]at h;rw[Hq];exact h
 obtain⟨G,hG⟩:∃G,G=grownCap w (n+1) c 28:=⟨_,rfl⟩;rw[←hG]at hrz hROW ⊢;have hGn:n+1<=G:=by rw[hG];exact grownCap_ge w _ _ _
 have hG63:G<=9223372036854775807:=by
  have:=grownCap_le_maxLen w (n+1) c 28 hm;rw[←hG]at this;omega
 have hRs:ROW.size=G*4:=by
  rw[hROW,zf7z,zf7z,size_zeroCells,size_zeroCells,hzs,zt0z,zf1z,Ev];omega
 have hcur0:(w.drew.alloc (.cells ROW 28)).heap[w.heap.size]?=some (.cells ROW 28 (0,0)):=heap_alloc_new w.drew _;have hs1:us1.size=ROW.size:=by rw[hu1];simp;omega
 have hcell:∀(b j:Nat) (u:Value),b<w.heap.size->w.cell? ⟨b,j,none⟩=some u->∀r,(w.drew.alloc (.cells r 28)).cell? ⟨b,j,none⟩=some u:=λb j u hb hu r=>by
  rw[World.cell?_alloc_past (w:=w.drew) _ b j hb];exact hu
 have hcpA:∀ty dc,(Builtin.copy_ #[373,26] ty #[.slice (some ⟨w.heap.size,i*4,none⟩) (n+1-i) dc,.slice (some ⟨vb,vo,none⟩) 1 vc]).run Tryz.prog (w.alloc (.cells ROW 28)).drew=.ok (goInt (1:Nat)) (w.alloc (.cells us1 28)).drew:=λty dc=>by
  have h:=Kh (w.drew.alloc (.cells ROW 28)) 373 26 ty 28 4 w.heap.size (i*4) (n+1-i) dc ⟨vb,vo,none⟩ 1 vc 1 ROW 28 vs Tryz.setUnd hszm hcur0 (by simp only[zt4z];split<;>omega) (by rw[hvl])
   (λj v hj=>by rw[Addr.add_lit];exact hcell vb _ _ hvw (GJ j v hj) _) (by rw[hvl,hRs];omega) h1v
  rw[←hu1]at h;exact h.trans (congrArg _ (Hi w.drew ROW us1 _))
 have hcur1:(w.drew.alloc (.cells us1 28)).heap[w.heap.size]?=some (.cells us1 28 (0,0)):=heap_alloc_new w.drew _;have qd:(cs.drop (i*4)).length=(n-i)*4:=by rw[zg5z,Ev,A0n]
 have hcpB:∀ty dc sc,(Builtin.copy_ #[373,373] ty #[.slice (some ⟨w.heap.size,(i+1)*4,none⟩) (n-i) dc,.slice (some ⟨blk,o+i*4,none⟩) (n-i) sc]).run Tryz.prog (w.alloc (.cells us1 28)).drew.drew=.ok (goInt (n-i:Nat)) (w.alloc (.cells us2 28)).drew.drew:=λty dc sc=>by
  have h:=Kh (w.drew.drew.alloc (.cells us1 28)) 373 373 ty 28 4 w.heap.size ((i+1)*4) (n-i) dc ⟨blk,o+i*4,none⟩ (n-i) sc (n-i) us1 28 (cs.drop (i*4)) Tryz.setUnd hszm hcur1 (by simp) qd
   (λj v hj=>by
    rw[Addr.add_lit,zg9z];exact hcell blk _ _ hbw (o9 _ v (by rwa [zf3z]at hj)) _) (by rw[qd,hs1,hRs];omega) (λv hv=>h1c v (zt3z hv))
  rw[←hu2]at h;exact h.trans (congrArg _ (Hi w.drew.drew us1 us2 _))
 have hW:∀r,(w.drew.alloc (.cells r 28)).drew=w.drew.drew.alloc (.cells r 28):=λr=>rfl;have mixed:Tryz.prog.follows Departure.mixedOrders=true:=by kernel_rfl
 have hGi:¬(G=i):=by omega
 have hGim:¬(G=i+1):=by omega
 have hci:¬(c=i):=by omega
 have hw1:IntKind.i64.wrap ((i:Int)+1)=(i:Int)+1:=by rw[IntKind.wrap_i64];omega
 have hw2:IntKind.i64.wrap ((n:Int)+1)=(n:Int)+1:=by rw[IntKind.wrap_i64];omega
 have hb1:(0:Int)<=(i:Int)+1:=by omega
 have ZG:i<=n:=by omega
 have htn:((i:Int)+1).toNat=i+1:=by omega
 have hb3:(i:Int)<=(n:Int):=by omega
 clear Hq hik hold hROW hG hu1 hu2 hcell hcur0 hcur1 hRs hs1 qd
 go_enter Tryz.func432,Tryz.ntmps432
 go_wp2_with (first
  |(at_builtin;refine Lib.wpList_append_run _ rfl _ _ _ _ rfl _ _ rfl rfl _ _ (hrz _) ?_)
  |(at_builtin;refine wpList_copy_runI _ rfl _ _ 373 26 rfl _ _ rfl rfl (hcpA _ _) ?_))
 go_region_law_o (refine step_copy_runI rfl _ _ 373 373 rfl (.slice (some ⟨w.heap.size,(i+1)*4,none⟩) (n-i) (G-(i+1))) (.slice (some ⟨blk,o+i*4,none⟩) (n-i) (c-i)) (by simp[Act.eval,Act.put]) (by simp[Act.eval,Act.put]) (hcpB _ _ _) ?_)
 go_wp2
 go_ret
 exact⟨rfl,2,rfl⟩
end Go.Proofs
namespace Go.Abs
theorem Je{α:Type}{cs vs:List α}{A:Nat}(hA:A<=cs.length)(j:Nat):(cs.take A++vs++cs.drop A)[j]?=if j<A then cs[j]? else if j<A+vs.length then vs[j-A]? else cs[j-vs.length]?:=by
 by_cases h1:j<A
 .rw[if_pos h1,zg2z (by rw[zf4z,zf1z];omega),zg2z (by rw[zf1z];omega),zf5z,if_pos h1]
 .rw[if_neg h1];by_cases h2:j<A+vs.length
  .rw[if_pos h2,zg2z (by rw[zf4z,zf1z];omega),zg8z (by rw[zf1z];omega),zf1z,zf6z hA]
  .rw[if_neg h2,zg8z (by rw[zf4z,zf1z];omega),zf4z,zf1z,zf6z hA,zf3z];congr 1;omega
theorem Kj{cur us:Array Value}{vs:List Value}{off:Nat}(V6:off+vs.length<=cur.size)(Nb:us=(cur.toList.take off++vs++cur.toList.drop (off+vs.length)).toArray)(j:Nat):us[j]?=if j<off then cur[j]? else if j<off+vs.length then vs[j-off]? else cur[j]?:=by
 have:=EI (l:=cur.toList) (off:=off) (vs:=vs) (by simpa using V6) j;simp only[Array.getElem?_toList]at this;rw[Nb,zg6z,this]
theorem xc{cur us:Array Value}{cs vs:List Value}{o N:Nat}(Ev:cs.length=N)(hcc:∀j,j<N->cur[o+j]?=cs[j]?)(V6:o+N+vs.length<=cur.size)(Nb:us=(cur.toList.take (o+N)++vs++cur.toList.drop (o+N+vs.length)).toArray) :
  ∀j,j<N+vs.length->us[o+j]?=(cs.take N++vs++cs.drop N)[j]?:=by
 intro j hj;rw[Kj V6 Nb,Je (by omega)];by_cases h1:j<N
 .rw[if_pos (by omega),if_pos h1,hcc j h1]
 .rw[if_neg (by omega),if_pos (by omega),if_neg h1,if_pos hj];congr 1;omega
theorem xd{cur us1 us2:Array Value}{cs vs:List Value}{o N A:Nat}(Ev:cs.length=N)(hA:A<=N)(hcc:∀j,j<N->cur[o+j]?=cs[j]?)(V6:o+N+vs.length<=cur.size)
  (hu1:us1=(cur.toList.take (o+(A+vs.length))++cs.drop A++cur.toList.drop (o+(A+vs.length)+(cs.drop A).length)).toArray) (hu2:us2=(us1.toList.take (o+A)++vs++us1.toList.drop (o+A+vs.length)).toArray) :
  us2.size=cur.size/\∀j,j<N+vs.length->us2[o+j]?=(cs.take A++vs++cs.drop A)[j]?:=by
 have hd:(cs.drop A).length=N-A:=by rw[zg5z,Ev]
 have hs1:us1.size=cur.size:=by rw[hu1];simp;omega
 refine⟨by rw[hu2];simp;omega,λj hj=>?_⟩;rw[Kj (by omega) hu2,Je (by omega)];by_cases h1:j<A
 .rw[if_pos (by omega),if_pos h1,Kj (by omega) hu1,if_pos (by omega),hcc j (by omega)]
 .rw[if_neg (by omega),if_neg h1];by_cases h2:j<A+vs.length
  .rw[if_pos (by omega),if_pos h2];congr 1;omega
  .rw[if_neg (by omega),if_neg h2,Kj (by omega) hu1,if_neg (by omega),if_pos (by omega),zf3z];congr 1;omega
end Go.Abs
namespace Go.Proofs
open Go.RowKit Go.Lib Go.Abs
set_option maxRecDepth 100000 in
theorem Tryz.insLaw:InsLaw Tryz.prog 432 4 56:=by
 obtain⟨i0,z,hi0,Y3,hz0,hzs,hby⟩:∃i0 z,Tryz.prog.info? 28=some i0/\i0.size=4/\i0.zero=some z/\z.cells.size=4/\i0.bytes=56:=⟨_,_,rfl,by kernel_rfl,rfl,by kernel_rfl,by kernel_rfl⟩;refine⟨by omega,by kernel_rfl,?_,?_⟩
 .intro w blk o n c i vb vo vc cur t cs vs ZG hnc hcm Ev hvl hcur hcc V6 GJ s9 h1c h1v;rcases zt8z i n with G9|hge
  .obtain⟨us1,hu1⟩:∃us1,us1=(cur.toList.take (o+(i+1)*4)++cs.drop (i*4)++cur.toList.drop (o+(i+1)*4+(cs.drop (i*4)).length)).toArray:=⟨_,rfl⟩;obtain⟨us2,hu2⟩:∃us2,us2=(us1.toList.take (o+i*4)++vs++us1.toList.drop (o+i*4+vs.length)).toArray:=⟨_,rfl⟩;have h:=xd (o:=o) (A:=i*4) (vs:=vs) Ev (zf9z _ ZG) hcc (by omega) (by rw[hvl,←zt9z];exact hu1) hu2;rw[hvl,←zt9z]at h;exact(Tryz.ins_shift blk o n c i vb vo vc cur us1 us2 t cs vs w G9 hnc hcm Ev hvl s9 hcur V6 hcc GJ h1c h1v hu1 hu2).mono λe w' ⟨h1,h2⟩=>⟨h1,1,us2,h2.trans (setRow_setRow _ _ _ _),h⟩
  .have e:i=n:=by omega
   subst e;obtain⟨us,Nb⟩:∃us,us=(cur.toList.take (o+i*4)++vs++cur.toList.drop (o+i*4+vs.length)).toArray:=⟨_,rfl⟩;have h:=xc (o:=o) (vs:=vs) Ev hcc (by omega) Nb;refine(Tryz.ins_end_room blk o i c vb vo vc cur t vs w hnc hcm hvl hcur V6 GJ h1v us Nb).mono λe w' ⟨h1,h2⟩=>⟨h1,0,us,h2,?_,?_⟩
   .rw[Nb];simp;omega
   .intro j hj;exact h j (by omega)
 .intro w base n c i vb vo vc cs vs ZG hnc n8 hm hbig Ev hvl hnil o9 GJ h1c h1v;have hbig':(n+1)*i0.bytes<=140737488355328:=by rw[hby];exact hbig
  have hG1:=grownCap_ge w (n+1) c 28;have hG2:=grownCap_le_maxLen w (n+1) c 28 hm;rcases zt8z i n with G9|hge
  .cases base with
   |none=>exact absurd (hnil rfl) (by omega)
   |some a =>
    obtain⟨blk,o,sp⟩:=a;obtain⟨hsp,o9⟩:=o9 _ rfl;have:=hsp (by omega);simp only at this;subst this;have hcs':∀j v,cs[j]?=some v->w.cell? ⟨blk,o+j,none⟩=some v:=λj v hj=>by
     have:=o9 j v hj
     rwa [Bj]at this
    obtain⟨ROW,hROW⟩:∃ROW,ROW=(cs.take (i*4)).toArray++Builtin.zeroCells z.cells (n+1-i)++Builtin.zeroCells z.cells (grownCap w (n+1) c 28-(n+1)):=⟨_,rfl⟩;obtain⟨us1,hu1⟩:∃us1,us1=(ROW.toList.take (i*4)++vs++ROW.toList.drop (i*4+vs.length)).toArray:=⟨_,rfl⟩;obtain⟨us2,hu2⟩:∃us2,us2=(us1.toList.take ((i+1)*4)++cs.drop (i*4)++us1.toList.drop ((i+1)*4+(cs.drop (i*4)).length)).toArray:=⟨_,rfl⟩;have hRs:ROW.size=grownCap w (n+1) c 28*4:=by
     rw[hROW,zf7z,zf7z,size_zeroCells,size_zeroCells,hzs,zt0z,zf1z,Ev];omega
    have hR0:∀j,j<i*4->ROW[j]?=cs[j]?:=λj hj=>by
     rw[hROW,zg0z (by simp;omega),zg0z (by simp;omega),zg6z,zf5z,if_pos hj]
    have hs1:us1.size=ROW.size:=by rw[hu1];simp;omega
    have hd:(cs.drop (i*4)).length=n*4-i*4:=by rw[zg5z,Ev]
    refine(Tryz.ins_grow blk o n c i vb vo vc us1 us2 cs vs w i0 z hi0 hz0 Y3 hzs G9 hnc n8 hm hbig' Ev hvl hcs' GJ h1c h1v ROW hROW hu1 hu2).mono λe w' ⟨h1,q,h2⟩=>⟨q,_,us2,_,h1,h2,hG1,hG2,?_,?_⟩
    .rw[hu2];simp;omega
    .intro j hj;rw[Kj (by omega) hu2,Je (by omega),hvl];by_cases h1:j<i*4
     .rw[if_pos (by omega),if_pos h1,Kj (by omega) hu1,if_pos h1,hR0 j h1]
     .rw[if_neg h1];by_cases h2:j<i*4+4
      .rw[if_pos (by omega),if_pos h2,Kj (by omega) hu1,if_neg h1,if_pos (by omega)]
      .rw[if_neg (by omega),if_neg h2,if_pos (by omega),zf3z];congr 1;omega
  .have e:i=n:=by omega
   subst e;refine(Tryz.ins_end_grow base i c vb vo vc cs vs w i0 z hi0 hz0 Y3 hnc n8 hm hbig' Ev hvl hnil (λa ha=>(o9 a ha).2) GJ h1v).mono λe w' ⟨h1,h2⟩=>⟨1,_,_,_,h1,h2,hG1,hG2,?_,?_⟩
   .rw[zf7z,size_zeroCells,hzs,zt0z,zf4z,Ev,hvl];omega
   .intro j hj;rw[zg0z (by simp;omega),zg6z,List.take_of_length_le (by omega),List.drop_eq_nil_of_le (by omega),List.append_nil]
end Go.Proofs
