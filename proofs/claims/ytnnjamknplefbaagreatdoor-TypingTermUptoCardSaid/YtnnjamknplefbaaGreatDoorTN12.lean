/- A part of the proof. -/
import Derived.Test.YtnnjamknplefbaaGreatDoorTN11
import Derived.Test.YtnnjamknplefbaaGreatDoorRows
import Derived.ProofKit
import Derived.OpenShut
import Derived.JoinedCond
import Derived.Deep.Slices
import Derived.Carry
import Derived.Shelf.Strings.Builder1
import Derived.Test.YtnnjamknplefbaaGreatDoorProg
import Derived.KernelRfl
import Derived.WalkKit
import Derived.Deep.RegionWith
import Derived.Deep.QuietTactic
import Derived.BigQuiet
set_option linter.all false
open ByteArray renaming size_append->zf0z
open List renaming length_append->zf1z,append_assoc->zf3z,getElem?_eq_getElem->zf5z,getElem?_eq_some_iff->zf7z,map_cons->zg1z,getElem?_map->zg2z,map_toArray->zg3z,map_nil->zg4z
open Array renaming getElem?_eq_none->zf2z
open Nat renaming le_refl->zf4z,le_succ->zf6z,le_trans->zf8z,lt_or_ge->zf9z
open Option renaming map_eq_some_iff->zg0z
set_option linter.all false
namespace Go.Abs
open Go.RowKit (Below)
open Go.ChangeShapes Go.WideShapes Go.Deep
open Go.Proofs.YtnnjamknplefbaaGreatDoor (Rows.uptoBulk Rows.uptoBulkAll)
abbrev okW(w:World):Nat->Nat->Prop:=λb _=>b<w.heap.size
def CV(w:World)(ys:List AV)(cs:List Value):Prop:=DV w (okW w) ys cs/\∀u∈cs,u.oneCell'=true
def Oa(P:Program)(w:World)(t:TypeId){T:Type}(cells:T->List AV)(good:T->Prop)(wt:T->Nat)(n:Nat):Prop :=
 ∀{H:Type} (enc:TypeId×Value->H) (cs:List Value) (x:DataW H×List MemPlace),DataW.trod enc P w 0 (λ_=>true) true n t cs=some x ->
  ∃a,good a/\wt a<=Rows.uptoBulk x.1/\CV w (cells a) cs
section
variable {P:Program} {w:World} {t e:TypeId}
theorem Oa.le{T:Type}{cells:T->List AV}{good:T->Prop}{wt:T->Nat}{n m:Nat}(h:Oa P w t cells good wt n)(hm:m<=n):Oa P w t cells good wt m :=
 λenc cs x hx=>h enc cs x (DataW.trod_le hm hx)
theorem Wl{a:AV}{v:Value}(h:PV w (okW w) a v)(ho:v.oneCell'=true):CV w [a] [v]:=by
 refine⟨?_,λu hu=>by simp at hu;subst hu;exact ho⟩;simp only[DV];exact⟨v,[],rfl,h,rfl⟩
theorem Ko{k:IntKind}(ht:P.underlying t=some (.int k))(n:Nat):Oa P w t (λi:Int=>[.int k i]) (λi=>(Lit.int k i).wf=true) (λ_=>1) n:=by
 intro H enc cs x hx;obtain⟨i,rfl,rfl,hw⟩:=DataW.trod_int ht hx;exact⟨i,hw,by simp[Rows.uptoBulk],Wl (by simp[PV]) rfl⟩
theorem eC(ht:P.underlying t=some .string)(n:Nat):Oa P w t (λs:ByteArray=>[.str s]) (λs=>s.size<=maxLen) (λs=>s.size+1) n:=by
 intro H enc cs x hx;obtain⟨s,rfl,rfl,hw⟩:=DataW.trod_string ht hx;exact⟨s,hw,Nat.le_of_eq (by simp only[Rows.uptoBulk,Array.length_toList];rfl),Wl (by simp[PV]) rfl⟩
theorem tA{T:Type}{R:Nat->T->Prop}:∀{n:Nat},(∀i,i<n->∃a,R i a)->∃ys:List T,ys.length=n/\∀i a,ys[i]?=some a->R i a
 |0,_=>⟨[],rfl,λi a h=>by simp at h⟩
 |n+1,h=>by
  obtain⟨ys,hl,ha⟩:=tA (n:=n) λi hi=>h i (by omega);obtain⟨a,hr⟩:=h n (by omega);refine⟨ys++[a],by simp[hl],λi b hb=>?_⟩;by_cases hi:i<n
  .rw[List.getElem?_append_left (by omega)]at hb;exact ha i b hb
  .rw[List.getElem?_append_right (by omega),hl]at hb;have jO:i=n:=by
    have:=(zf7z.1 hb).1;simp at this;omega
   subst jO;simp at hb;subst hb;exact hr
theorem mS{H T:Type}{wt:T->Nat}:∀{ys:List T} {l:List (DataW H)},ys.length=l.length->(∀(i:Nat) (a:T) (d:DataW H),ys[i]?=some a->l[i]?=some d->wt a<=Rows.uptoBulk d)->(ys.map wt).sum<=Rows.uptoBulkAll l
 | [],l,_,_=>by simp
 |a::ys,[],h,_=>by simp at h
 |a::ys,d::l,h,k=>by
  have h1:=k 0 a d rfl rfl;have h2:=mS (ys:=ys) (l:=l) (by simpa using h) λi a d ha hd=>k (i+1) a d (by simpa using ha) (by simpa using hd);simp only[zg1z,List.sum_cons,Rows.uptoBulkAll];omega
theorem PV_sl{sz:Nat}{xs:b9}{a:Addr}{len cap:Nat}(D6:xs.length=len)(hc:len<=cap)(hm:cap<=maxLen)(X9:0<sz)
  (hx:∀(i:Nat) (x:AV),xs[i]?=some x->∃cs',w.cells? 0 (a.add (i*sz)) sz=some cs'/\CV w x.cells cs'):PV w (okW w) (.vs false sz xs) (.slice (some a) len cap):=by
 simp only[PV];refine⟨some a,len,cap,rfl,D6.symm,hc,hm,(by simp),⟨(by simp),⟨(by simp),λe=>absurd X9 (by omega)⟩⟩,λAS=>?_⟩;have spot:a.spot=none:=by
  cases xs with
  |nil=>exact absurd rfl AS
  |cons x xs =>
   obtain⟨cs',h1,h2,_⟩:=hx 0 x rfl;obtain⟨_,hl,hcell⟩:=World.cells?_some h1;have h0:=hcell 0 X9;rw[zf5z (by omega)]at h0;simpa[Addr.add]using World.cell?_spot h0
 obtain⟨b,o,sp⟩:=a;subst spot;refine⟨b,o,rfl,X9,VC λj x hj=>?_⟩;obtain⟨cs',h1,h2,h3⟩:=hx j x hj;obtain⟨_,hl,hcell⟩:=World.cells?_some h1;obtain⟨g1,g2⟩:=Jl h2;refine⟨by omega,NB λq c hq=>?_⟩;obtain⟨u,hu,hv⟩:=g2 hq;have hqlt:q<sz:=by
  have:=(zf7z.1 hq).1;omega
 have IN:=hcell q hqlt;rw[hu,Go.WideShapes.add_plain,Go.WideShapes.add_plain]at IN;exact⟨u,World.block_lt_of_cell? _ _ IN,IN,h3 u (List.mem_of_getElem? hu),hv⟩
theorem Jc{T:Type}{sz:Nat}{enc:T->AV}{good:T->Prop}{wt:T->Nat}{n:Nat}(ht:P.underlying t=some (.slice e))(X9:P.cellsOf e=sz)(V5:0<sz)
  (elem:Oa P w e (λa=>(enc a).cells) good wt n) :
  Oa P w t (λys:Bool×List T=>[sl (false,ys.1) sz (ys.2.map enc)]) (λys=>∀a∈ys.2,good a) (λys=>(ys.2.map wt).sum+1) (n+1):=by
 intro H ec cs x hx;rcases DataW.trod_slice ht hx with ⟨rfl,rfl⟩|⟨a,len,cap,elems,rest,n',hn,rfl,rfl,hb,hl,hm,D6,Ry,hsp,hns⟩
 .exact⟨(false,[]),λa ha=>by simp at ha,by simp[Rows.uptoBulk],Wl (by simp only[sl,PV];exact⟨none,0,0,rfl,by simp,zf4z _,Nat.zero_le _,by simp,by simp,λh=>absurd rfl h⟩) rfl⟩
 .have hnn:n'=n:=by omega
  subst hnn;obtain⟨ys,Uw,hr⟩:=tA (T:=T) (n:=len) (R:=λi a'=>good a'/\(∀y,elems[i]?=some y->wt a'<=Rows.uptoBulk y.1)/\∃cs',w.cells? 0 (a.add (i*sz)) sz=some cs'/\CV w (enc a').cells cs') λi hi=>by
   have h1:=Ry i hi;rw[zf5z (by omega),X9]at h1;obtain⟨cs',h2,h3⟩:=Option.bind_eq_some_iff.1 h1;obtain⟨a',k1,k2,k3⟩:=elem ec cs' _ h3;exact⟨a',k1,λy hy=>by rw[zf5z (by omega)]at hy;cases hy;exact k2,cs',h2,k3⟩
  refine⟨(true,ys),λa' ha'=>?_,?_,Wl ((congrArg (λq=>PV w (okW w) q (.slice (some a) len cap)) (iR false sz (ys.map enc))).mp (PV_sl (by simp[Uw]) hl hm V5 λi x hx=>?_)) rfl⟩
  .obtain⟨i,hi⟩:=List.mem_iff_getElem?.1 ha';exact(hr i a' hi).1
  .have:=mS (wt:=wt) (ys:=ys) (l:=elems.map (·.1)) (by simp[Uw,D6]) λi a' d ha' hd=>by
    simp only[zg2z,zg0z]at hd;obtain⟨y,hy,rfl⟩:=hd;exact(hr i a' ha').2.1 y hy
   simp only[Rows.uptoBulk];omega
  .simp only[zg2z,zg0z]at hx;obtain⟨a',ha',rfl⟩:=hx;exact(hr i a' ha').2.2
theorem Jk{ys:b9}{cs:List Value}{y:AV}{c:Value}(h:CV w [y] [c])(k:CV w ys cs):CV w (y::ys) (c::cs):=by
 obtain⟨h1,h2⟩:=h;refine⟨?_,λu hu=>?_⟩
 .simp only[DV]at h1 ⊢;obtain⟨u,us,he,h3,rfl⟩:=h1;cases he;exact⟨c,cs,rfl,h3,k.1⟩
 .rcases List.mem_cons.1 hu with rfl|hu
  .exact h2 u (by simp)
  .exact k.2 u hu
end
section
variable {P:Program}
theorem UA{H:Type}{enc:TypeId×Value->H}{W W':World}(hl:laidOutB P=true)(hb:Below W.heap.size W W'):∀{ts:List TypeId} {vs:List Value} {ds:List (DataW H)} {ps:List MemPlace},(∀t∈ts,P.readableRec t=true/\t<P.types.size) ->
  DataW.TrodAll enc P W 0 (λ_=>true) true ts vs ds ps->(∀p∈ps,p.block<W.heap.size)->∀{sp:Nat->Bool},(∀p∈ps,sp p.block=true)->DataW.TrodAll enc P W' 0 sp true ts vs ds ps
 | [],[],[],_,_,h,_,_,_=>h
 |t::ts,v::vs,d::ds,ps,hr,h,C2,sp,hs=>by
  obtain⟨p,q,h1,h2,rfl⟩:=h;refine⟨p,q,WideElems.Trod_stays hl (hr t (by simp)).1 (hr t (by simp)).2 h1 (λx hx=>hb.same (C2 x (by simp[hx]))) (λx hx=>hs x (by simp[hx])),?_,rfl⟩;exact UA hl hb (λt ht=>hr t (by simp[ht])) h2 (λx hx=>C2 x (by simp[hx])) (λx hx=>hs x (by simp[hx]))
theorem ls{H:Type}{enc:TypeId×Value->H}{f:Func}{s:ChangeSpec}{W W':World}{args:Array Value}{v:Value}{ds gs:List (DataW H)}{T7 pa:List MemPlace}
  (hW:DataW.Whole enc P f.params.toList s.vars false W args.toList ds gs T7) (hps:T7=pa)
  (hres:∀(b:Nat) (sp:Nat->Bool) (hd:Bool),DataW.TrodAll enc P W' b sp hd f.resultTypes.toList (v.resultList f.resultTypes.size) (s.fn H (ds++gs)).results [])
  (hargs:∀sp:Nat->Bool,(∀p∈T7,sp p.block=true)->DataW.TrodAll enc P W' 0 sp true f.params.toList args.toList (s.fn H (ds++gs)).args pa)
  (hv:s.vars=[]) (hgs:(s.fn H (ds++gs)).vars=[]) (hk:W.keptBut W' (·∈T7)) (hfz:∀a:Addr,a.block<W.heap.size->W'.frozen? a=W.frozen? a)
  (O9:∀(j:Nat) (t:TypeId) (r:Value),f.resultTypes[j]?=some t->(v.resultList f.resultTypes.size)[j]?=some r->Value.okWide P W' .any 0 t r) :
  s.post enc P f false true false false W args v W':=by
 subst hps;have hold:∀p∈T7,(λb=>decide (b<W.heap.size)) p.block=true:=λp hp=>by simpa using hW.lt p hp
 have hvars:∀sp:Nat->Bool,DataW.TrodVars enc P W' sp s.vars (s.fn H (ds++gs)).vars []:=λsp=>by rw[hv,hgs];rfl
 refine⟨ds,gs,T7,[],T7,[],hW,hres _ _ _,hargs _ hold,hvars _,World.keptBut_mono (λp hp=>⟨hp,?_⟩) hk,λ_=>?_⟩
 .exact Or.inr (Or.inl hp)
 .have C2:=hW.lt;obtain⟨_,_,_,_,_,hz,hn⟩:=hW;refine⟨O9,_,_,([]++T7)++[],⟨[]++T7,[],trodAll_append (hargs _ (λ_ _=>rfl)) (hres _ _ _),hvars _,rfl,?_,?_⟩,?_⟩
  .intro b off hp;have hp':MemPlace.cell b off∈T7:=by simpa using hp
   rw[hfz _ (C2 _ hp')];exact hz b off hp'
  .intro ha;cases ha
  .intro p hp _;simpa using hp
theorem xk{C:Cfg}(hC:CfgS P C)(hl:laidOutB P=true){f:FuncId}{fn:Func}{tb:TypeId}(hb:P.underlying tb=some .bool)(hres:fn.resultTypes=#[tb])(hpar:∀t∈fn.params.toList,P.readableRec t=true/\t<P.types.size)
  {s:ChangeSpec} (hv:s.vars=[]) {H:Type} {enc:TypeId×Value->H} {W:World} {args:Array Value} {ds gs:List (DataW H)} {T7:List MemPlace}
  (hs:(s.fn H (ds++gs)).results=[.lit (.bool true)]/\(s.fn H (ds++gs)).args=ds/\(s.fn H (ds++gs)).vars=[])
  (hW:DataW.Whole enc P fn.params.toList s.vars false W args.toList ds gs T7) {ys:List AV} (hG:Fo W (okW W)) (hy:DV W (okW W) ys args.toList) (h:pc C f ys=some (.bool true)) :
  Calls P f args W λe W'=>∃v,e=.returned v/\s.post enc P fn false true false false W args v W':=by
 have C2:=hW.lt;have hW':=hW;obtain⟨p,q,hA,hV,hpq,hfz,hnd⟩:=hW;rw[hv]at hV;obtain⟨rfl,rfl⟩:=trodVars_none hV;rw[List.append_nil]at hpq;subst hpq;refine(WG hC h W (okW W) args (λb o hb=>hb) hG hy).mono λe W' ⟨u,he,⟨hbel,_⟩,hu⟩=>?_;have hu':u=.bool true:=by simpa[PV]using hu
 subst hu' he;refine⟨_,rfl,ls hW' rfl (λb sp hd=>?_) (λsp hsp=>?_) hv hs.2.2 (hbel.frame _) (λa ha=>hbel.frozen ha) (RowKit.ok_one hres rfl (RowKit.okWide_bool_mk hb _))⟩
 .rw[hs.1,hres];exact trodAll_mk1 (RowKit.shut_bool hb _)
 .rw[hs.2.1];exact UA hl hbel hpar hA C2 hsp
end
end Go.Abs
set_option linter.unusedVariables false
namespace Go.Proofs
open Go.Shelf Go.RowKit
variable {P:Program} {ρ:Ren}
structure Apart (T:TypeId) (b:Nat) (w w':World):Prop where
 at_:∀k,k<w.heap.size->k≠b->(∀cs fr,w.heap[k]?≠some (.cells cs T fr))->w'.heap[k]?=w.heap[k]?
 drawn:w.drawn<=w'.drawn
theorem Ws{α:Type}:∀(c:Ask α) (w:World),w.drawn<=(w.ask c).2.drawn
 | .done _,_=>zf4z _
 | .ask what range k,w=>by
  unfold World.ask;simp only;split
  .exact Ws _ w
  .exact zf8z (zf6z _) (Ws _ {w with drawn:=w.drawn+1})
theorem xd(w:World)(c:Sys):w.drawn<=(w.sys c).2.drawn:=by
 unfold World.sys;have h:=Ws (Kernel.perform c w.os) w;split
 .exact zf4z _
 .rename_i e;rw[e]at h;exact h
theorem Yn{p:Program}{w:World}{at_:Addr}{u:TypeId}{k:Addr}{v:Value}{b:Bool}{r:World×List Addr}(h:w.viewStore p at_ u k v b=.ok r):r.1.drawn=w.drawn:=by
 unfold World.viewStore at h;simp only[bind,Except.bind,pure,Except.pure,throw,throwThe,MonadExceptOf.throw]at h
 repeat' (split at h)
 all_goals first
  |(cases h;done)
  |(cases h;rfl)
theorem Zp{p:Program}{w:World}{a:Addr}{v:Value}{b:Bool}{r:World×List Addr}(h:w.farStore p a v b=.ok r):r.1.drawn=w.drawn:=by
 unfold World.farStore at h;split at h
 .split at h
  .rename_i e;cases h;exact Yn e
  .cases h
 .cases h
theorem eT{α:Type}(P:Program)(e:Sem α):∀(w:World) (a:α) (w':World),e.run P w=.ok a w'->w.drawn<=w'.drawn:=by
 induction e with
 |pure a=>intro w b w' h;simp only[Sem.run]at h;cases h;exact zf4z _
 |load m a k ih =>
  intro w b w' h;simp only[Sem.run]at h;split at h
  .exact ih _ _ _ _ h
  .split at h
   .exact ih _ _ _ _ h
   .cases h
 |store m a v k ih =>
  intro w b w' h;have key:(match w.cell? a with
   |some _=>if w.frozen? a then Result.halt (.unsupported (.unsafePointer "a write to bytes that a string shares")) w else k.run P (w.setCell a v)
   |none=>match w.farStore P a v (m == Mode.atomic)with
    | .ok (w,_)=>k.run P w
    | .error h=>.halt h w)=.ok b w'->w.drawn<=w'.drawn:=by
   intro h;split at h
   .split at h
    .cases h
    .have:=ih _ _ _ h
     rwa [World.drawn_setCell]at this
   .split at h
    .rename_i hf;have h1:=Zp hf;have h2:=ih _ _ _ h;simp only at h1;omega
    .cases h
  cases v<;>simp only[Sem.run]at h<;>first|(cases h;done)|exact key h
 |new o k ih =>
  intro w b w' h;simp only[Sem.run]at h;exact ih w.heap.size {w with heap:=w.heap.push o} b w' h
 |shape r k ih=>intro w b w' h;simp only[Sem.run]at h;exact ih _ _ _ _ h
 |freeze a n k ih =>
  intro w b w' h;simp only[Sem.run]at h;have:=ih _ _ _ h;have e:(w.freeze a n).drawn=w.drawn:=by
   unfold World.freeze;split<;>rfl
  omega
 |frozen a k ih=>intro w b w' h;simp only[Sem.run]at h;exact ih _ _ _ _ h
 |getObj r k ih =>
  intro w b w' h;simp only[Sem.run]at h;split at h
  .cases h
  .exact ih _ _ _ _ h
  .cases h
 |setObj r o k ih =>
  intro w b w' h;simp only[Sem.run]at h;split at h
  .cases h
  .exact ih {w with heap:=w.heap.setIfInBounds r o} b w' h
  .cases h
 |choose q k ih =>
  intro w b w' h;simp only[Sem.run]at h;split at h
  .exact ih _ _ _ _ h
  .have:=ih _ _ _ _ h;simp only at this;omega
 |sys c k ih=>intro w b w' h;simp only[Sem.run]at h;exact zf8z (xd w c) (ih _ _ _ _ h)
 |program k ih=>intro w b w' h;simp only[Sem.run]at h;exact ih _ _ _ _ h
 |mark m k ih=>intro w b w' h;simp only[Sem.run]at h;exact ih _ _ _ h
 |halt h=>intro w b w' h;simp only[Sem.run]at h;cases h
theorem Nt{P:Program}(w:World){ops:Array Oper}{rest:List Oper}{o:Oper}{a:Act}{Q:Exit->Act->World->Prop}(hgd:o.guard=none)(sl x:Operand)(t u:TypeId)
  (ho:o.op=.call {callee:=.builtin .append,args:=#[sl,x],argTypes:=#[t,u]})
  (base:Nat) (e:TypeId) (i:TypeInfo) (ht:P.underlying t=some (.slice e)) (hu:P.underlying u=some .string) (hi:P.info? e=some i) (hz:i.zero=some (.int .u8 0))
  (Td:i.size=1) (hby:i.bytes=1)
  (v:Value) (n:Nat) (xs:List Value) (hs:a.eval sl=v) (hown:w.ownsRow base e 1 v n xs) (s:ByteArray) (hx:a.eval x=.string s)
  (h63:n+s.size<=maxLen) (hbytes:n+s.size<=140737488355328) (hbase:base<=w.heap.size)
  (h:∀v' w',w'.ownsRow base e 1 v' (n+s.size) (xs++Lib.strCells s)->w.grownBy w' v.ownBlock->w.drawn<=w'.drawn->wpList P ops Q rest (a.put o.dst v') w'):wpList P ops Q (o::rest) a w:=by
 refine wpList_plain hgd λK hK=>?_;obtain⟨v',w',hr,h2,h3,h4⟩:=Lib.run_append_own_string (P:=P) w base t u o.type e i ht hu hi hz Td hby v n xs hown s h63 hbytes hbase;have h5:=eT _ _ _ _ _ hr;unfold Oper.wp execOp;simp only[ho,resolve,invoke,builtin,Sem.run_bind,Sem.run_pure,Result.andThen_ok,zg3z,zg1z,zg4z,hs,hx,hr];exact hK _ _ (h v' w' h2 h3 h5)
theorem TR{P:Program}(w:World){ops:Array Oper}{rest:List Oper}{o:Oper}{a:Act}{Q:Exit->Act->World->Prop}(hgd:o.guard=none)(s x:Operand)(t:TypeId)
  (ho:o.op=.call {callee:=.builtin .append,args:=#[s,x],argTypes:=#[t,t]})
  (base:Nat) (e:TypeId) (i:TypeInfo) (z:Value) (size bytes:Nat) (ht:P.underlying t=some (.slice e)) (hi:P.info? e=some i) (hz:i.zero=some z)
  (Td:i.size=size) (hby:i.bytes=bytes) (hzs:z.cells.size=size) (X9:0<size)
  (v:Value) (n:Nat) (xs:List Value) (hs:a.eval s=v) (hown:w.ownsRow base e size v n xs)
  (ad:Addr) (m c:Nat) (news:List Value) (hx:a.eval x=.slice (some ad) m c) (hl:news.length=m*size) (hnews:∀j u,news[j]?=some u->w.cell? (ad.add j)=some u) (h1:∀u∈news,u.oneCell'=true)
  (h63:n+m<=maxLen) (hbytes:(n+m)*bytes<=140737488355328) (hbase:base<=w.heap.size)
  (h:∀v' w',w'.ownsRow base e size v' (n+m) (xs++news)->w.grownBy w' v.ownBlock->w.drawn<=w'.drawn->wpList P ops Q rest (a.put o.dst v') w'):wpList P ops Q (o::rest) a w:=by
 refine wpList_plain hgd λK hK=>?_;obtain⟨v',w',hr,h2,h3,h4⟩:=run_append_own (P:=P) w base t o.type e i z size bytes ht hi hz Td hby hzs X9 v n xs hown ad m c news hl hnews h1 h63 hbytes hbase;have h5:=eT _ _ _ _ _ hr;unfold Oper.wp execOp;simp only[ho,resolve,invoke,builtin,Sem.run_bind,Sem.run_pure,Result.andThen_ok,zg3z,zg1z,zg4z,hs,hx,hr];exact hK _ _ (h v' w' h2 h3 h5)
theorem PX(w:World)(a:Addr)(v:Value){k:Nat}(h:a.block≠k):(w.setCell a v).heap[k]?=w.heap[k]?:=by
 unfold World.setCell;split<;>simp_all [Array.getElem?_modify]
theorem bldCC(L:Lays.n240 P ρ)(X:Builder.X72 P ρ)(B b:Nat)(bs:List Value)(w:World)(h:Lib.IsBuilder (ρ.t 72) (ρ.t 5) B b bs w) :
  Calls P (ρ.f 240) #[.pointer (some ⟨b,0,none⟩)] w λe w'=>e=.returned (.tuple #[])/\(Lib.BuilderAt (ρ.t 72) (ρ.t 5) B b (.pointer (some ⟨b,0,none⟩)) bs w'/\Below B w w'/\Apart (ρ.t 5) b w w'):=by
 rcases h with h|h
 .refine(Any.Builder_copyCheck_fresh L X b w h.cell0 h.shape h.frozen0).mono ?_;rintro e w' ⟨rfl,rfl⟩;exact⟨rfl,h.used _,(Below.refl B w).setCell (p:=⟨b,0,none⟩) h.1 _,λk _ hk _=>PX _ _ _ (Ne.symm hk),by simp⟩
 .refine(Any.Builder_copyCheck_used L X b w h.cell0).mono ?_;rintro e w' ⟨rfl,rfl⟩;exact⟨rfl,h,Below.refl B _,λ_ _ _ _=>rfl,zf4z _⟩
set_option maxHeartbeats 2000000 in
set_option maxRecDepth 100000 in
theorem bldWS(L:Lays.n166 P ρ)(X:Builder.Extra P ρ)(B b:Nat)(bs:List Value)(s:ByteArray)(w:World)(h:Lib.IsBuilder (ρ.t 72) (ρ.t 5) B b bs w)(D6:bs.length+s.size<=140737488355328)(hBw:B<=w.heap.size) :
  Calls P (ρ.f 166) #[.pointer (some ⟨b,0,none⟩),.string s] w λe w'=>e=.returned (.tuple #[.int .i64 s.size,.nilIface])/\(Lib.BuilderAt (ρ.t 72) (ρ.t 5) B b (.pointer (some ⟨b,0,none⟩)) (bs++Lib.strCells s) w'/\Below B w w'/\Apart (ρ.t 5) b w w'):=by
 obtain⟨i0,hi,hz0,hz1,hz2⟩:=info_parts X.infoByte;have mixed:=L.mixed;have t72:=L.t72;have a72:=L.a72;have z72:=L.z72;have v72:=L.v72;have u72:=run_underlying L.t72;have t70:=L.t70;have a70:=L.a70;have z70:=L.z70;have v70:=L.v70;have u70:=run_underlying L.t70;have t37:=L.t37;have a37:=L.a37;have z37:=L.z37;have v37:=L.v37;have u37:=run_underlying L.t37;have t3:=L.t3;have a3:=L.a3;have z3:=L.z3;have v3:=L.v3;have u3:=run_underlying L.t3;have t9:=L.t9;have a9:=L.a9;have z9:=L.z9;have v9:=L.v9;have u9:=run_underlying L.t9;have t4:=L.t4;have a4:=L.a4;have z4:=L.z4;have v4:=L.v4;have u4:=run_underlying L.t4;have t164:=L.t164;have a164:=L.a164;have z164:=L.z164;have v164:=L.v164;have u164:=run_underlying L.t164;have t5:=X.t5;have a5:=X.a5;have z5:=X.z5;have v5:=X.v5;have u5:=run_underlying X.t5;have e240:∀args w,(callFunc (ρ.f 240) args).run P w=.ok (.enter (ρ.f 240) args) w:=enters_of L.f240 (by kernel_rfl) rfl
 go_enter L.f166,Body.n166_ntmps ρ
 go_wp2_with (go_at_fn (ρ.f 240);refine(bldCC {L with} X.toX72 B b bs _ h).mono ?_)
 rintro e w1 ⟨rfl,h1,hb1,hap⟩;obtain⟨hB,v,hbk,hown,AS⟩:=h1;have c0:w1.cell? ⟨b,0,none⟩=some (.pointer (some ⟨b,0,none⟩)):=by rw[Lib.cell_of_heap hbk];rfl
 have c1:w1.cell? ⟨b,1,none⟩=some v:=by rw[Lib.cell_of_heap hbk];rfl
 go_wp2_with (at_builtin;refine Nt _ rfl _ _ (ρ.t 37) (ρ.t 9) rfl B (ρ.t 5) i0 L.t37 L.t9 hi hz0 hz1 hz2 _ _ _ rfl hown s rfl ?c3 ?c4 ?c5 ?_)
 case c3=>unfold maxLen;omega
 case c4=>omega
 case c5=>have:=hb1.size;omega
 intro v' w2 hown' hgrow hdr;have C2:b<w1.heap.size:=by
  rcases zf9z b w1.heap.size with h' | h'
  .exact h'
  .simp[zf2z h']at hbk
 have hb2:w2.heap[b]?=some (.cells #[.pointer (some ⟨b,0,none⟩),v] (ρ.t 72) (0,0)):=by
  rw[hgrow.block b C2 (λe=>AS e.symm)];exact hbk
 have d0:w2.cell? ⟨b,0,none⟩=some (.pointer (some ⟨b,0,none⟩)):=by rw[Lib.cell_of_heap hb2];rfl
 have d1:w2.cell? ⟨b,1,none⟩=some v:=by rw[Lib.cell_of_heap hb2];rfl
 have f1:w2.frozen? ⟨b,1,none⟩=false:=Lib.frozen_of_heap hb2 1;obtain⟨ao,n',cap,rfl⟩:∃ao n' cap,v'=.slice ao n' cap:=by
  rcases hown'.2 with ⟨hv,_⟩|⟨g,cap,cur,hv,_⟩
  .exact⟨_,_,_,hv⟩
  .exact⟨_,_,_,hv⟩
 go_wp2
 go_ret2
 refine⟨rfl,?_,?_,?_,?_⟩
 .exact Lib.BuilderAt.put (T:=(ρ.t 72)) (e:=(ρ.t 5)) hB hb2 (bs':=bs++Lib.strCells s) (by simpa[Lib.strCells_length]using hown') X.neB5
 .exact(hb1.grown hgrow (by have:=hb1.size;omega) (λk hk=>(hown.lt k hk).1)).setCell (p:=⟨b,1,none⟩) hB _
 .intro k hk hkb hT;have e1:=hap.at_ k hk hkb hT;have hk1:k<w1.heap.size:=by have:=hb1.size;omega
  have hne':∀g,v.ownBlock=some g->k≠g:=by
   rintro g hg rfl;rcases hown.2 with ⟨hv,_⟩|⟨g',cap',cur,hv,_,hgc,_⟩
   .rw[hv]at hg;cases hg
   .rw[hv]at hg;cases hg;exact hT _ _ (e1.symm.trans hgc)
  have e2:w2.heap[k]?=w1.heap[k]?:=hgrow.block k hk1 (λe=>hne' _ e.symm rfl);have e3:(w2.setCell ⟨b,1,none⟩ (.slice ao n' cap)).heap[k]?=w2.heap[k]?:=PX _ _ _ (Ne.symm hkb);exact e3.trans (e2.trans e1)
 .have:=hap.drawn;rw[World.drawn_setCell]
  first|omega|(simp at hdr;omega)
set_option maxHeartbeats 2000000 in
set_option maxRecDepth 100000 in
theorem bldWB(L:Lays.n167 P ρ)(X:Builder.Extra P ρ)(B b:Nat)(bs:List Value)(c:Int)(w:World)(h:Lib.IsBuilder (ρ.t 72) (ρ.t 5) B b bs w)(D6:bs.length+1<=140737488355328)(hBw:B<=w.heap.size) :
  Calls P (ρ.f 167) #[.pointer (some ⟨b,0,none⟩),.int .u8 c] w λe w'=>e=.returned .nilIface/\(Lib.BuilderAt (ρ.t 72) (ρ.t 5) B b (.pointer (some ⟨b,0,none⟩)) (bs++[.int .u8 c]) w'/\Below B w w'/\Apart (ρ.t 5) b w w'):=by
 obtain⟨i0,hi,hz0,hz1,hz2⟩:=info_parts X.infoByte;have mixed:=L.mixed;have t72:=L.t72;have a72:=L.a72;have z72:=L.z72;have v72:=L.v72;have u72:=run_underlying L.t72;have t70:=L.t70;have a70:=L.a70;have z70:=L.z70;have v70:=L.v70;have u70:=run_underlying L.t70;have t5:=L.t5;have a5:=L.a5;have z5:=L.z5;have v5:=L.v5;have u5:=run_underlying L.t5;have t37:=L.t37;have a37:=L.a37;have z37:=L.z37;have v37:=L.v37;have u37:=run_underlying L.t37;have t9:=L.t9;have a9:=L.a9;have z9:=L.z9;have v9:=L.v9;have u9:=run_underlying L.t9;have t4:=L.t4;have a4:=L.a4;have z4:=L.z4;have v4:=L.v4;have u4:=run_underlying L.t4;have t164:=L.t164;have a164:=L.a164;have z164:=L.z164;have v164:=L.v164;have u164:=run_underlying L.t164;have e240:∀args w,(callFunc (ρ.f 240) args).run P w=.ok (.enter (ρ.f 240) args) w:=enters_of L.f240 (by kernel_rfl) rfl
 go_enter L.f167,Body.n167_ntmps ρ
 go_wp2_with (go_at_fn (ρ.f 240);refine(bldCC {L with} X.toX72 B b bs _ h).mono ?_)
 rintro e w1 ⟨rfl,h1,hb1,hap⟩;obtain⟨hB,v,hbk,hown,AS⟩:=h1;have c0:w1.cell? ⟨b,0,none⟩=some (.pointer (some ⟨b,0,none⟩)):=by rw[Lib.cell_of_heap hbk];rfl
 have c1:w1.cell? ⟨b,1,none⟩=some v:=by rw[Lib.cell_of_heap hbk];rfl
 go_wp2_with (at_builtin;refine TR _ rfl _ _ (ρ.t 37) rfl B (ρ.t 5) i0 (.int .u8 0) 1 1 L.t37 hi hz0 hz1 hz2 rfl (by decide) _ _ _ rfl (hown.alloc _) ⟨w1.heap.size,0,none⟩ 1 1 [.int .u8 c] rfl rfl ?c1 ?c2 ?c3 ?c4 ?c5 ?_)
 case c1 =>
  intro j u hj
  match j,hj with
  |0,hj=>simp at hj;subst hj;simp[Addr.add]
 case c2=>intro u hu;simp at hu;subst hu;rfl
 case c3=>unfold maxLen;omega
 case c4=>omega
 case c5=>have:=hb1.size;simp;omega
 intro v' w2 hown' hgrow hdr;have C2:b<w1.heap.size:=by
  rcases zf9z b w1.heap.size with h' | h'
  .exact h'
  .simp[zf2z h']at hbk
 have hb2:w2.heap[b]?=some (.cells #[.pointer (some ⟨b,0,none⟩),v] (ρ.t 72) (0,0)):=by
  rw[hgrow.block b (by simp;omega) (λe=>AS e.symm),Lib.alloc_old w1 _ b C2];exact hbk
 have d0:w2.cell? ⟨b,0,none⟩=some (.pointer (some ⟨b,0,none⟩)):=by rw[Lib.cell_of_heap hb2];rfl
 have d1:w2.cell? ⟨b,1,none⟩=some v:=by rw[Lib.cell_of_heap hb2];rfl
 have f1:w2.frozen? ⟨b,1,none⟩=false:=Lib.frozen_of_heap hb2 1;obtain⟨g,cap,rfl⟩:∃g cap,v'=.slice (some ⟨g,0,none⟩) (bs.length+1) cap:=by
  rcases hown'.2 with ⟨_,h0⟩|⟨g,cap,cur,hv,_⟩
  .omega
  .exact⟨g,cap,hv⟩
 go_wp2
 go_ret
 refine⟨rfl,?_,?_,?_,?_⟩
 .exact Lib.BuilderAt.put (T:=(ρ.t 72)) (e:=(ρ.t 5)) hB hb2 (bs':=bs++[.int .u8 c]) (by simpa using hown') X.neB5
 .exact((hb1.alloc (by have:=hb1.size;omega) _).grown hgrow (by have:=hb1.size;simp;omega) (λk hk=>(hown.lt k hk).1)).setCell (p:=⟨b,1,none⟩) hB _
 .intro k hk hkb hT;have e1:=hap.at_ k hk hkb hT;have hk1:k<w1.heap.size:=by have:=hb1.size;omega
  have hne':∀g,v.ownBlock=some g->k≠g:=by
   rintro g hg rfl;rcases hown.2 with ⟨hv,_⟩|⟨g',cap',cur,hv,_,hgc,_⟩
   .rw[hv]at hg;cases hg
   .rw[hv]at hg;cases hg;exact hT _ _ (e1.symm.trans hgc)
  have e2:w2.heap[k]?=w1.heap[k]?:=(hgrow.block k (by simp;omega) (λe=>hne' _ e.symm rfl)).trans (Lib.alloc_old w1 _ k hk1);have e3:(w2.setCell ⟨b,1,none⟩ (.slice (some ⟨g,0,none⟩) (bs.length+1) cap)).heap[k]?=w2.heap[k]?:=PX _ _ _ (Ne.symm hkb);exact e3.trans (e2.trans e1)
 .have:=hap.drawn;rw[World.drawn_setCell]
  first|omega|(simp at hdr;omega)
theorem gK(w:World)(a:Addr)(n:Nat):(w.freeze a n).drawn=w.drawn:=by
 unfold World.freeze;split<;>rfl
set_option maxHeartbeats 1000000 in
set_option maxRecDepth 100000 in
theorem bldStr(L:Lays.n169 P ρ)(X:Builder.Extra P ρ)(B b:Nat)(l:List UInt8)(w:World)(h:Lib.IsBuilder (ρ.t 72) (ρ.t 5) B b (Lib.byteCells l) w)(h0:l≠[]) :
  Calls P (ρ.f 169) #[.pointer (some ⟨b,0,none⟩)] w λe w'=>e=.returned (.string ⟨l.toArray⟩)/\Below B w w'/\w.drawn<=w'.drawn:=by
 obtain⟨p,hB,v,hbk,hown,AS⟩:∃p,Lib.BuilderAt (ρ.t 72) (ρ.t 5) B b p (Lib.byteCells l) w:=by
  rcases h with h|h
  .exact⟨_,h⟩
  .exact⟨_,h⟩
 have hl0:l.length≠0:=by simpa using h0
 rw[Lib.byteCells_length]at hown;obtain⟨g,cap,cur,rfl,hbg,hg,hnc,hcm,Au,htake⟩:∃g cap cur,v=.slice (some ⟨g,0,none⟩) l.length cap/\B<=g/\w.heap[g]?=some (.cells cur (ρ.t 5) (0,0))/\l.length<=cap/\cap<=maxLen/\cur.size=cap*1/\cur.toList.take (l.length*1)=Lib.byteCells l:=by
  rcases hown.2 with ⟨_,hz⟩|⟨g,cap,cur,hv,r⟩
  .exact absurd hz hl0
  .exact⟨g,cap,cur,hv,r⟩
 have c1:w.drew.cell? ⟨b,1,none⟩=some (.slice (some ⟨g,0,none⟩) l.length cap):=by
  have:w.drew.heap[b]?=some (.cells #[p,.slice (some ⟨g,0,none⟩) l.length cap] (ρ.t 72) (0,0)):=hbk;rw[Lib.cell_of_heap this];rfl
 have hSD:(Builtin.unsafeSliceData_ #[(ρ.t 37)] (ρ.t 127) #[.slice (some ⟨g,0,none⟩) l.length cap]).run P w.drew=.ok (.pointer (some ⟨g,0,none⟩)) w.drew :=
  Lib.run_unsafeSliceData_row _ _ _ _ _ _ (by omega)
 have hUS:(Builtin.unsafeString_ #[(ρ.t 127),(ρ.t 3)] (ρ.t 9) #[.pointer (some ⟨g,0,none⟩),.int .i64 l.length]).run P w.drew=.ok (.string ⟨l.toArray⟩) (w.drew.freeze ⟨g,0,none⟩ l.length):=by
  refine Lib.run_unsafeString_row w.drew (ρ.t 127) (ρ.t 3) (ρ.t 9) (ρ.t 5) L.t127 X.cellsByte g cur.size (by have Jj:w.drew.heap[g]?=some (.cells cur (ρ.t 5) (0,0)):=hg;simp[World.shape?,Jj]) l h0 (by omega) (by unfold maxLen at hcm;omega) ?_;intro j x hx;have:=hown.cells (g:=g) rfl j (.int .u8 x.toNat) (by simp[Lib.byteCells,hx]);exact this
 have mixed:=L.mixed;have t72:=L.t72;have a72:=L.a72;have z72:=L.z72;have v72:=L.v72;have u72:=run_underlying L.t72;have t70:=L.t70;have a70:=L.a70;have z70:=L.z70;have v70:=L.v70;have u70:=run_underlying L.t70;have t37:=L.t37;have a37:=L.a37;have z37:=L.z37;have v37:=L.v37;have u37:=run_underlying L.t37;have t127:=L.t127;have a127:=L.a127;have z127:=L.z127;have v127:=L.v127;have u127:=run_underlying L.t127;have t3:=L.t3;have a3:=L.a3;have z3:=L.z3;have v3:=L.v3;have u3:=run_underlying L.t3;have t9:=L.t9;have a9:=L.a9;have z9:=L.z9;have v9:=L.v9;have u9:=run_underlying L.t9;have t5:=X.t5;have a5:=X.a5;have z5:=X.z5;have v5:=X.v5;have u5:=run_underlying X.t5
 go_enter L.f169,Body.n169_ntmps ρ
 go_wp2
 go_region_o
 all_goals (go_wp2;go_ret;exact⟨rfl,Lib.below_freeze (Below.drew (Below.refl B w)) (p:=⟨g,0,none⟩) hbg _,by rw[gK];exact zf6z _⟩)
set_option maxHeartbeats 2000000 in
set_option maxRecDepth 100000 in
theorem nN(L:Lays.n169 P ρ)(X:Builder.Extra P ρ)(B b:Nat)(p:Value)(w:World)(hbk:w.heap[b]?=some (.cells #[p,.slice none 0 0] (ρ.t 72) (0,0))) :
  Calls P (ρ.f 169) #[.pointer (some ⟨b,0,none⟩)] w λe w'=>e=.returned (.string ⟨#[]⟩)/\Below B w w'/\w.drawn<=w'.drawn:=by
 have hUS:=Any.unsafeString_none L X;have c1:w.drew.cell? ⟨b,1,none⟩=some (.slice none 0 0):=by
  have:w.drew.heap[b]?=some (.cells #[p,.slice none 0 0] (ρ.t 72) (0,0)):=hbk;rw[Lib.cell_of_heap this];rfl
 have hSD:(Builtin.unsafeSliceData_ #[(ρ.t 37)] (ρ.t 127) #[.slice none 0 0]).run P w.drew=.ok (.pointer none) w.drew:=rfl;have mixed:=L.mixed;have t72:=L.t72;have a72:=L.a72;have z72:=L.z72;have v72:=L.v72;have u72:=run_underlying L.t72;have t70:=L.t70;have a70:=L.a70;have z70:=L.z70;have v70:=L.v70;have u70:=run_underlying L.t70;have t37:=L.t37;have a37:=L.a37;have z37:=L.z37;have v37:=L.v37;have u37:=run_underlying L.t37;have t127:=L.t127;have a127:=L.a127;have z127:=L.z127;have v127:=L.v127;have u127:=run_underlying L.t127;have t3:=L.t3;have a3:=L.a3;have z3:=L.z3;have v3:=L.v3;have u3:=run_underlying L.t3;have t9:=L.t9;have a9:=L.a9;have z9:=L.z9;have v9:=L.v9;have u9:=run_underlying L.t9;have t5:=X.t5;have a5:=X.a5;have z5:=X.z5;have v5:=X.v5;have u5:=run_underlying X.t5
 go_enter L.f169,Body.n169_ntmps ρ
 go_wp2
 go_region_o
 all_goals (go_wp2;go_ret;exact⟨rfl,Below.drew (Below.refl B w),zf6z _⟩)
set_option maxHeartbeats 2000000 in
set_option maxRecDepth 100000 in
theorem cW(L:Lays.n169 P ρ)(X:Builder.Extra P ρ)(B b g:Nat)(p:Value)(cur:Array Value)(w:World)(hBw:B<=w.heap.size)(hbk:w.heap[b]?=some (.cells #[p,.slice (some ⟨g,0,none⟩) 0 0] (ρ.t 72) (0,0)))(hg:w.heap[g]?=some (.cells cur (ρ.t 5) (0,0))) :
  Calls P (ρ.f 169) #[.pointer (some ⟨b,0,none⟩)] w λe w'=>e=.returned (.string ⟨#[]⟩)/\Below B w w'/\w.drawn<=w'.drawn:=by
 have hUS:=Any.unsafeString_none L X;have C2:b<w.heap.size:=by
  rcases zf9z b w.heap.size with h' | h'
  .exact h'
  .simp[zf2z h']at hbk
 have c1:w.drew.cell? ⟨b,1,none⟩=some (.slice (some ⟨g,0,none⟩) 0 0):=by
  have:w.drew.heap[b]?=some (.cells #[p,.slice (some ⟨g,0,none⟩) 0 0] (ρ.t 72) (0,0)):=hbk;rw[Lib.cell_of_heap this];rfl
 have hSD:(Builtin.unsafeSliceData_ #[(ρ.t 37)] (ρ.t 127) #[.slice (some ⟨g,0,none⟩) 0 0]).run P w.drew=.ok (.pointer (some ⟨w.drew.heap.size,0,none⟩)) (w.drew.alloc (.view ⟨g,0,none⟩ (ρ.t 5))) :=
  Lib.run_unsafeSliceData_zero w.drew _ _ (ρ.t 5) L.t127 ⟨g,0,none⟩ 0 ((ρ.t 5),cur.size) (by have Jj:w.drew.heap[g]?=some (.cells cur (ρ.t 5) (0,0)):=hg;simp[World.shape?,Jj])
 have c2:(w.drew.alloc (.view ⟨g,0,none⟩ (ρ.t 5))).cell? ⟨b,1,none⟩=some (.slice (some ⟨g,0,none⟩) 0 0):=by
  have:(w.drew.alloc (.view ⟨g,0,none⟩ (ρ.t 5))).heap[b]?=_:=(Lib.alloc_old w.drew _ b C2).trans hbk;rw[Lib.cell_of_heap this];rfl
 have c3:(w.alloc (.view ⟨g,0,none⟩ (ρ.t 5))).drew.cell? ⟨b,1,none⟩=some (.slice (some ⟨g,0,none⟩) 0 0):=c2;have c0:w.cell? ⟨b,1,none⟩=some (.slice (some ⟨g,0,none⟩) 0 0):=c1;have mixed:=L.mixed;have t72:=L.t72;have a72:=L.a72;have z72:=L.z72;have v72:=L.v72;have u72:=run_underlying L.t72;have t70:=L.t70;have a70:=L.a70;have z70:=L.z70;have v70:=L.v70;have u70:=run_underlying L.t70;have t37:=L.t37;have a37:=L.a37;have z37:=L.z37;have v37:=L.v37;have u37:=run_underlying L.t37;have t127:=L.t127;have a127:=L.a127;have z127:=L.z127;have v127:=L.v127;have u127:=run_underlying L.t127;have t3:=L.t3;have a3:=L.a3;have z3:=L.z3;have v3:=L.v3;have u3:=run_underlying L.t3;have t9:=L.t9;have a9:=L.a9;have z9:=L.z9;have v9:=L.v9;have u9:=run_underlying L.t9;have t5:=X.t5;have a5:=X.a5;have z5:=X.z5;have v5:=X.v5;have u5:=run_underlying X.t5
 go_enter L.f169,Body.n169_ntmps ρ
 go_wp2
 go_region_o
 all_goals (go_wp2;go_ret;exact⟨rfl,(Below.drew (Below.refl B w)).alloc hBw _,zf6z _⟩)
set_option maxHeartbeats 2000000 in
set_option maxRecDepth 100000 in
theorem ja(L:Lays.n169 P ρ)(X:Builder.Extra P ρ)(B b g cap:Nat)(p:Value)(w:World)(hc0:cap≠0)(hbk:w.heap[b]?=some (.cells #[p,.slice (some ⟨g,0,none⟩) 0 cap] (ρ.t 72) (0,0))) :
  Calls P (ρ.f 169) #[.pointer (some ⟨b,0,none⟩)] w λe w'=>e=.returned (.string ⟨#[]⟩)/\Below B w w'/\w.drawn<=w'.drawn:=by
 have hUS:=Any.unsafeString_none L X;have c1:w.drew.cell? ⟨b,1,none⟩=some (.slice (some ⟨g,0,none⟩) 0 cap):=by
  have:w.drew.heap[b]?=some (.cells #[p,.slice (some ⟨g,0,none⟩) 0 cap] (ρ.t 72) (0,0)):=hbk;rw[Lib.cell_of_heap this];rfl
 have hSD:(Builtin.unsafeSliceData_ #[(ρ.t 37)] (ρ.t 127) #[.slice (some ⟨g,0,none⟩) 0 cap]).run P w.drew=.ok (.pointer (some ⟨g,0,none⟩)) w.drew :=
  Lib.run_unsafeSliceData_row _ _ _ _ _ _ hc0
 clear hc0;have mixed:=L.mixed;have t72:=L.t72;have a72:=L.a72;have z72:=L.z72;have v72:=L.v72;have u72:=run_underlying L.t72;have t70:=L.t70;have a70:=L.a70;have z70:=L.z70;have v70:=L.v70;have u70:=run_underlying L.t70;have t37:=L.t37;have a37:=L.a37;have z37:=L.z37;have v37:=L.v37;have u37:=run_underlying L.t37;have t127:=L.t127;have a127:=L.a127;have z127:=L.z127;have v127:=L.v127;have u127:=run_underlying L.t127;have t3:=L.t3;have a3:=L.a3;have z3:=L.z3;have v3:=L.v3;have u3:=run_underlying L.t3;have t9:=L.t9;have a9:=L.a9;have z9:=L.z9;have v9:=L.v9;have u9:=run_underlying L.t9;have t5:=X.t5;have a5:=X.a5;have z5:=X.z5;have v5:=X.v5;have u5:=run_underlying X.t5
 go_enter L.f169,Body.n169_ntmps ρ
 go_wp2
 go_region_o
 all_goals (go_wp2;go_ret;exact⟨rfl,Below.drew (Below.refl B w),zf6z _⟩)
theorem fe(L:Lays.n169 P ρ)(X:Builder.Extra P ρ)(B b:Nat)(w:World)(h:Lib.IsBuilder (ρ.t 72) (ρ.t 5) B b [] w)(hBw:B<=w.heap.size) :
  Calls P (ρ.f 169) #[.pointer (some ⟨b,0,none⟩)] w λe w'=>e=.returned (.string ⟨#[]⟩)/\Below B w w'/\w.drawn<=w'.drawn:=by
 obtain⟨p,hB,v,hbk,hown,AS⟩:∃p,Lib.BuilderAt (ρ.t 72) (ρ.t 5) B b p [] w:=by
  rcases h with h|h
  .exact⟨_,h⟩
  .exact⟨_,h⟩
 rcases hown.2 with ⟨rfl,_⟩|⟨g,cap,cur,rfl,hbg,hg,_,_,_,_⟩
 .exact nN L X B b p w hbk
 .by_cases hc0:cap=0
  .subst hc0;exact cW L X B b g p cur w hBw hbk hg
  .exact ja L X B b g cap p w hc0 hbk
theorem nM(L:Lays.n169 P ρ)(X:Builder.Extra P ρ)(B b:Nat)(l:List UInt8)(w:World)(h:Lib.IsBuilder (ρ.t 72) (ρ.t 5) B b (Lib.byteCells l) w)(hBw:B<=w.heap.size) :
  Calls P (ρ.f 169) #[.pointer (some ⟨b,0,none⟩)] w λe w'=>e=.returned (.string ⟨l.toArray⟩)/\Below B w w'/\w.drawn<=w'.drawn:=by
 cases l with
 |nil=>exact fe L X B b w h hBw
 |cons x r=>exact bldStr L X B b (x::r) w h (by simp)
end Go.Proofs
namespace Go.Proofs
open Go.Shelf Go.RowKit
def Tryz.bld_ren:Go.Shelf.Ren:=⟨fun|240=>300|276=>365|166=>216|167=>217|169=>127|n=>n,fun|0=>0|3=>3|4=>4|5=>5|9=>9|20=>20|37=>194|70=>193|72=>196|75=>278|80=>198|164=>397|127=>282|n=>n,fun|n=>n⟩
theorem Tryz.bldLays166:Go.Proofs.Lays.n166 Tryz.prog Tryz.bld_ren:={
 mixed:=by kernel_rfl
 f166:=Tryz.func216.trans (congrArg some (by kernel_rfl))
 f240:=Tryz.func300.trans (congrArg some (by kernel_rfl))
 f276:=Tryz.func365.trans (congrArg some (by kernel_rfl))
 t0:=Tryz.underlying0
 a0:=Tryz.isAgg0
 z0:=Tryz.sizeOf0
 v0:=Tryz.zeroValue0
 t3:=Tryz.underlying3
 a3:=Tryz.isAgg3
 z3:=Tryz.sizeOf3
 v3:=Tryz.zeroValue3
 t4:=Tryz.underlying4
 a4:=Tryz.isAgg4
 z4:=Tryz.sizeOf4
 v4:=Tryz.zeroValue4
 t9:=Tryz.underlying9
 a9:=Tryz.isAgg9
 z9:=Tryz.sizeOf9
 v9:=Tryz.zeroValue9
 t20:=Tryz.underlying20
 a20:=Tryz.isAgg20
 z20:=Tryz.sizeOf20
 v20:=Tryz.zeroValue20
 t37:=Tryz.underlying194
 a37:=Tryz.isAgg194
 z37:=Tryz.sizeOf194
 v37:=Tryz.zeroValue194
 t70:=Tryz.underlying193
 a70:=Tryz.isAgg193
 z70:=Tryz.sizeOf193
 v70:=Tryz.zeroValue193
 t72:=Tryz.underlying196
 a72:=Tryz.isAgg196
 z72:=Tryz.sizeOf196
 v72:=Tryz.zeroValue196
 t75:=Tryz.underlying278
 a75:=Tryz.isAgg278
 z75:=Tryz.sizeOf278
 v75:=Tryz.zeroValue278
 t164:=Tryz.underlying397
 a164:=Tryz.isAgg397
 z164:=Tryz.sizeOf397
 v164:=Tryz.zeroValue397}
theorem Tryz.bldLays167:Go.Proofs.Lays.n167 Tryz.prog Tryz.bld_ren:={
 mixed:=by kernel_rfl
 f167:=Tryz.func217.trans (congrArg some (by kernel_rfl))
 f240:=Tryz.func300.trans (congrArg some (by kernel_rfl))
 f276:=Tryz.func365.trans (congrArg some (by kernel_rfl))
 t0:=Tryz.underlying0
 a0:=Tryz.isAgg0
 z0:=Tryz.sizeOf0
 v0:=Tryz.zeroValue0
 t4:=Tryz.underlying4
 a4:=Tryz.isAgg4
 z4:=Tryz.sizeOf4
 v4:=Tryz.zeroValue4
 t5:=Tryz.underlying5
 a5:=Tryz.isAgg5
 z5:=Tryz.sizeOf5
 v5:=Tryz.zeroValue5
 t9:=Tryz.underlying9
 a9:=Tryz.isAgg9
 z9:=Tryz.sizeOf9
 v9:=Tryz.zeroValue9
 t20:=Tryz.underlying20
 a20:=Tryz.isAgg20
 z20:=Tryz.sizeOf20
 v20:=Tryz.zeroValue20
 t37:=Tryz.underlying194
 a37:=Tryz.isAgg194
 z37:=Tryz.sizeOf194
 v37:=Tryz.zeroValue194
 t70:=Tryz.underlying193
 a70:=Tryz.isAgg193
 z70:=Tryz.sizeOf193
 v70:=Tryz.zeroValue193
 t72:=Tryz.underlying196
 a72:=Tryz.isAgg196
 z72:=Tryz.sizeOf196
 v72:=Tryz.zeroValue196
 t75:=Tryz.underlying278
 a75:=Tryz.isAgg278
 z75:=Tryz.sizeOf278
 v75:=Tryz.zeroValue278
 t164:=Tryz.underlying397
 a164:=Tryz.isAgg397
 z164:=Tryz.sizeOf397
 v164:=Tryz.zeroValue397}
theorem Tryz.bldLays169:Go.Proofs.Lays.n169 Tryz.prog Tryz.bld_ren:={
 mixed:=by kernel_rfl
 f169:=Tryz.func127.trans (congrArg some (by kernel_rfl))
 t0:=Tryz.underlying0
 a0:=Tryz.isAgg0
 z0:=Tryz.sizeOf0
 v0:=Tryz.zeroValue0
 t3:=Tryz.underlying3
 a3:=Tryz.isAgg3
 z3:=Tryz.sizeOf3
 v3:=Tryz.zeroValue3
 t9:=Tryz.underlying9
 a9:=Tryz.isAgg9
 z9:=Tryz.sizeOf9
 v9:=Tryz.zeroValue9
 t37:=Tryz.underlying194
 a37:=Tryz.isAgg194
 z37:=Tryz.sizeOf194
 v37:=Tryz.zeroValue194
 t70:=Tryz.underlying193
 a70:=Tryz.isAgg193
 z70:=Tryz.sizeOf193
 v70:=Tryz.zeroValue193
 t72:=Tryz.underlying196
 a72:=Tryz.isAgg196
 z72:=Tryz.sizeOf196
 v72:=Tryz.zeroValue196
 t127:=Tryz.underlying282
 a127:=Tryz.isAgg282
 z127:=Tryz.sizeOf282
 v127:=Tryz.zeroValue282}
theorem Tryz.bldExtra:Builder.Extra Tryz.prog Tryz.bld_ren:={
 sizeBuilder:=by kernel_rfl
 liesBuilder:=by kernel_rfl
 t5:=Tryz.underlying5
 a5:=Tryz.isAgg5
 z5:=Tryz.sizeOf5
 v5:=Tryz.zeroValue5
 infoByte:=by kernel_rfl
 cellsByte:=by kernel_rfl
 sizeByte:=by kernel_rfl
 neB5:=by decide}
theorem Tryz.bldWriteString(B b:Nat)(bs:List Value)(s:ByteArray)(w:World)(h:Lib.IsBuilder 196 5 B b bs w)(D6:bs.length+s.size<=140737488355328)(hBw:B<=w.heap.size) :
  Calls Tryz.prog 216 #[.pointer (some ⟨b,0,none⟩),.string s] w λe w'=>e=.returned (.tuple #[.int .i64 s.size,.nilIface])/\(Lib.BuilderAt 196 5 B b (.pointer (some ⟨b,0,none⟩)) (bs++Lib.strCells s) w'/\Below B w w'/\Apart 5 b w w'):=bldWS Tryz.bldLays166 Tryz.bldExtra B b bs s w h D6 hBw
theorem Tryz.bldWriteByte(B b:Nat)(bs:List Value)(c:Int)(w:World)(h:Lib.IsBuilder 196 5 B b bs w)(D6:bs.length+1<=140737488355328)(hBw:B<=w.heap.size) :
  Calls Tryz.prog 217 #[.pointer (some ⟨b,0,none⟩),.int .u8 c] w λe w'=>e=.returned .nilIface/\(Lib.BuilderAt 196 5 B b (.pointer (some ⟨b,0,none⟩)) (bs++[.int .u8 c]) w'/\Below B w w'/\Apart 5 b w w'):=bldWB Tryz.bldLays167 Tryz.bldExtra B b bs c w h D6 hBw
theorem Tryz.bldString(B b:Nat)(l:List UInt8)(w:World)(h:Lib.IsBuilder 196 5 B b (Lib.byteCells l) w)(hBw:B<=w.heap.size) :
  Calls Tryz.prog 127 #[.pointer (some ⟨b,0,none⟩)] w λe w'=>e=.returned (.string ⟨l.toArray⟩)/\Below B w w'/\w.drawn<=w'.drawn:=nM Tryz.bldLays169 Tryz.bldExtra B b l w h hBw
end Go.Proofs
namespace Go.Proofs
open Go.RowKit
theorem Dn{T e:TypeId}{B b:Nat}{bs:List Value}{w:World}(h:Lib.IsBuilder T e B b bs w)(o:Obj):Lib.IsBuilder T e B b bs (w.alloc o):=by
 rcases h with h|h
 .have hl:=h.lt;obtain⟨h1,v,h2,h3,h4⟩:=h;exact .inl ⟨h1,v,by rw[Lib.alloc_old w o b hl];exact h2,h3.alloc _,h4⟩
 .have hl:=h.lt;obtain⟨h1,v,h2,h3,h4⟩:=h;exact .inr ⟨h1,v,by rw[Lib.alloc_old w o b hl];exact h2,h3.alloc _,h4⟩
theorem HO{T e:TypeId}{b:Nat}{w w1:World}{cs:Array Value}(hap:Apart e b (w.alloc (.cells cs T)) w1)(hb:b<w.heap.size)(hT:T≠e)(i:Nat):w1.cell? ⟨w.heap.size,i,none⟩=cs[i]?:=by
 have h2:(w.alloc (.cells cs T)).heap[w.heap.size]?=some (.cells cs T (0,0)):=by
  show (w.heap.push (.cells cs T (0,0)))[w.heap.size]?=_;exact Array.getElem?_push_size
 have h:=hap.at_ w.heap.size (by simp) (by omega) (by intro cs' fr h;rw[h2]at h;cases h;exact hT rfl);exact Lib.cell_of_heap (h.trans h2) i
set_option maxHeartbeats 2000000 in
set_option maxRecDepth 100000 in
theorem Tryz.write_var_any(B b:Nat)(bs:List Value)(tn:ByteArray)(sl:Value)(w:World)(h:Lib.IsBuilder 196 5 B b bs w)(D6:bs.length+tn.size+10<=140737488355328)(hBw:B<=w.heap.size) :
  Calls Tryz.prog 126 #[.pointer (some ⟨b,0,none⟩),.agg #[.int .i64 1,.string tn,.int .i64 0,sl]] w λe w'=>e=.returned (.tuple #[])/\(Lib.BuilderAt 196 5 B b (.pointer (some ⟨b,0,none⟩)) (bs++Lib.strCells (⟨#[63]⟩++tn)) w'/\Below B w w'/\Apart 5 b w w'):=by
 go_enter Tryz.func126,Tryz.ntmps126
 have ha:(⟨#[63]⟩++tn:ByteArray).size<=tn.size+1:=by simp[zf0z];show 1+tn.size<=tn.size+1;omega
 go_wp2_with (go_at_call 216;refine(Tryz.bldWriteString B b bs _ _ (Dn h _) (by omega) (by simp;omega)).mono ?_;rintro e w1 ⟨rfl,h1,hb1,hap⟩;have hc2:=HO hap (by rcases h with h|h<;>exact h.lt) (by decide) 2)
 refine bodyPost_ret (results_none rfl _ _ _) rfl ?_;exact⟨rfl,h1,(((Below.refl B w).alloc hBw _).trans hb1),λk hk hkb hT=>(hap.at_ k (by simp;omega) hkb (by rw[Lib.alloc_old w _ k hk];exact hT)).trans (Lib.alloc_old w _ k hk),hap.drawn⟩
end Go.Proofs
namespace Go.Abs
def Lq:List (List UInt8):=[[97,110,121],[97,103,101,110,116],[110,111,110,99,101],[107,101,121],[100,97,116,97],[116,97,103]]
def o9(s:Int):List UInt8:=Lq.getD s.toNat []
mutual
def RH:Tm->List UInt8
 | .mk k n s _ l=>if k=1 then 63::n.data.toList++(if s=0 then []else 58::o9 s)else if k=2 then n.data.toList++58::o9 s else n.data.toList++40::(Ch true l++[41])
def Ch:Bool->List Tm->List UInt8
 |_,[]=>[]
 |b,t::l=>(if b then []else [44,32])++RH t++Ch false l
end
mutual
def be:Tm->Bool
 | .mk k _ s _ l=>if k=1\/k=2 then decide (0<=s)&&decide (s<=5)else bi l
def bi:List Tm->Bool
 | []=>true
 |t::l=>be t&&bi l
end
end Go.Abs
namespace Go.Proofs
open Go.RowKit Go.Abs
def MT(B:Nat)(w:World):Prop:=∃wb wo cap,wb<B/\0<B/\w.cell? ⟨0,0,none⟩=some (.slice (some ⟨wb,wo,none⟩) 6 cap)/\∀j,j<6->w.cell? ⟨wb,wo+j,none⟩=some (.string ⟨(Lq.getD j []).toArray⟩)
theorem MT.below{B:Nat}{w w':World}(h:MT B w)(hb:Below B w w'):MT B w':=by
 obtain⟨wb,wo,cap,h1,h2,h3,h4⟩:=h;exact⟨wb,wo,cap,h1,h2,(hb.cell h2).trans h3,λj hj=>(hb.cell h1).trans (h4 j hj)⟩
theorem Apart.trans{T:TypeId}{b:Nat}{w w1 w2:World}(h:Apart T b w w1)(k:Apart T b w1 w2):Apart T b w w2:=by
 refine⟨?_,zf8z h.drawn k.drawn⟩;intro j hj hjb hT;have h1:=h.at_ j hj hjb hT;have hj1:j<w1.heap.size:=by
  rcases zf9z j w1.heap.size with h' | h'
  .exact h'
  .rw[zf2z h',Array.getElem?_eq_getElem hj]at h1;cases h1
 rw[←h1];exact k.at_ j hj1 hjb (by rw[h1];exact hT)
theorem Apart.alloc{T:TypeId}{b:Nat}(w:World)(o:Obj):Apart T b w (w.alloc o):=⟨λk hk _ _=>Lib.alloc_old w o k hk,zf4z _⟩
theorem Apart.drew{T:TypeId}{b:Nat}{w w1:World}(h:Apart T b w w1):Apart T b w w1.drew:=⟨h.at_,zf8z h.drawn (zf6z _)⟩
theorem Apart.refl(T:TypeId)(b:Nat)(w:World):Apart T b w w:=⟨λ_ _ _ _=>rfl,zf4z _⟩
theorem Ee(l l':List UInt8):Lib.byteCells (l++l')=Lib.byteCells l++Lib.byteCells l':=by simp[Lib.byteCells]
set_option maxHeartbeats 8000000 in
set_option maxRecDepth 100000 in
theorem Tryz.write_var(B b:Nat)(bs:List Value)(tn:ByteArray)(s:Int)(sl:Value)(w:World)(h:Lib.IsBuilder 196 5 B b bs w)(hs:s=1\/s=2\/s=3\/s=4\/s=5)(D6:bs.length+tn.size+10<=140737488355328)(hBw:B<=w.heap.size)(hW:MT B w) :
  Calls Tryz.prog 126 #[.pointer (some ⟨b,0,none⟩),.agg #[.int .i64 1,.string tn,.int .i64 s,sl]] w λe w'=>e=.returned (.tuple #[])/\(Lib.BuilderAt 196 5 B b (.pointer (some ⟨b,0,none⟩)) (bs++Lib.byteCells (63::tn.data.toList++58::o9 s)) w'/\Below B w w'/\Apart 5 b w w'):=by
 obtain⟨wb,wo,cap,hwb,hgb,hg,hwd⟩:=hW;have ha:(⟨#[63]⟩++tn:ByteArray).size<=tn.size+1:=by simp[zf0z];show 1+tn.size<=tn.size+1;omega
 have hbl:b<w.heap.size:=by rcases h with h|h<;>exact h.lt
 have e1:Lib.strCells (⟨#[63]⟩++tn)=Lib.byteCells (63::tn.data.toList):=by
  rw[Lib.strCells_eq];congr 1
 rcases hs with rfl|rfl|rfl|rfl|rfl
 .have hd0:=hwd 1 (by omega);obtain⟨u,hu⟩:∃u:ByteArray,u=⟨(Lq.getD 1 []).toArray⟩:=⟨_,rfl⟩;have hul:u.size<=5:=by rw[hu];decide
  have huw:u.data.toList=o9 1:=by rw[hu];rfl
  rw[←hu]at hd0;clear hu hwd;have hau:(⟨#[58]⟩++u:ByteArray).size<=u.size+1:=by simp[zf0z];show 1+u.size<=u.size+1;omega
  have e2:Lib.strCells (⟨#[58]⟩++u)=Lib.byteCells (58::o9 1):=by
   rw[Lib.strCells_eq,←huw];congr 1
  go_enter Tryz.func126,Tryz.ntmps126
  go_wp2_with (go_at_call 216;first
   |(refine(Tryz.bldWriteString B b _ _ _ (Or.inr h1) (by simp only[zf1z,Lib.strCells_length];omega) (by have:=hb1.size;simp at this ⊢;omega)).mono ?_;rintro e w2 ⟨rfl,h2,hb2,hap2⟩)
   |(refine(Tryz.bldWriteString B b bs _ _ (Dn h _) (by omega) (by simp;omega)).mono ?_;rintro e w1 ⟨rfl,h1,hb1,hap⟩;have hc2:=HO hap (by rcases h with h|h<;>exact h.lt) (by decide) 2;have hg1:=(hb1.cell hgb).trans ((((Below.refl B w).alloc hBw _).cell hgb).trans hg);have hd1:=(hb1.cell (p:=⟨wb,wo+1,none⟩) hwb).trans ((((Below.refl B w).alloc hBw _).cell (p:=⟨wb,wo+1,none⟩) hwb).trans hd0)))
  refine bodyPost_ret (results_none rfl _ _ _) rfl ?_;refine⟨rfl,?_,((((Below.refl B w).alloc hBw _).trans hb1).trans hb2),((Apart.alloc w _).trans hap).trans hap2⟩;rw[e1,e2,zf3z,←Ee]at h2;exact h2
 .have hd0:=hwd 2 (by omega);obtain⟨u,hu⟩:∃u:ByteArray,u=⟨(Lq.getD 2 []).toArray⟩:=⟨_,rfl⟩;have hul:u.size<=5:=by rw[hu];decide
  have huw:u.data.toList=o9 2:=by rw[hu];rfl
  rw[←hu]at hd0;clear hu hwd;have hau:(⟨#[58]⟩++u:ByteArray).size<=u.size+1:=by simp[zf0z];show 1+u.size<=u.size+1;omega
  have e2:Lib.strCells (⟨#[58]⟩++u)=Lib.byteCells (58::o9 2):=by
   rw[Lib.strCells_eq,←huw];congr 1
  go_enter Tryz.func126,Tryz.ntmps126
  go_wp2_with (go_at_call 216;first
   |(refine(Tryz.bldWriteString B b _ _ _ (Or.inr h1) (by simp only[zf1z,Lib.strCells_length];omega) (by have:=hb1.size;simp at this ⊢;omega)).mono ?_;rintro e w2 ⟨rfl,h2,hb2,hap2⟩)
   |(refine(Tryz.bldWriteString B b bs _ _ (Dn h _) (by omega) (by simp;omega)).mono ?_;rintro e w1 ⟨rfl,h1,hb1,hap⟩;have hc2:=HO hap (by rcases h with h|h<;>exact h.lt) (by decide) 2;have hg1:=(hb1.cell hgb).trans ((((Below.refl B w).alloc hBw _).cell hgb).trans hg);have hd1:=(hb1.cell (p:=⟨wb,wo+2,none⟩) hwb).trans ((((Below.refl B w).alloc hBw _).cell (p:=⟨wb,wo+2,none⟩) hwb).trans hd0)))
  refine bodyPost_ret (results_none rfl _ _ _) rfl ?_;refine⟨rfl,?_,((((Below.refl B w).alloc hBw _).trans hb1).trans hb2),((Apart.alloc w _).trans hap).trans hap2⟩;rw[e1,e2,zf3z,←Ee]at h2;exact h2
 .have hd0:=hwd 3 (by omega);obtain⟨u,hu⟩:∃u:ByteArray,u=⟨(Lq.getD 3 []).toArray⟩:=⟨_,rfl⟩;have hul:u.size<=5:=by rw[hu];decide
  have huw:u.data.toList=o9 3:=by rw[hu];rfl
  rw[←hu]at hd0;clear hu hwd;have hau:(⟨#[58]⟩++u:ByteArray).size<=u.size+1:=by simp[zf0z];show 1+u.size<=u.size+1;omega
  have e2:Lib.strCells (⟨#[58]⟩++u)=Lib.byteCells (58::o9 3):=by
   rw[Lib.strCells_eq,←huw];congr 1
  go_enter Tryz.func126,Tryz.ntmps126
  go_wp2_with (go_at_call 216;first
   |(refine(Tryz.bldWriteString B b _ _ _ (Or.inr h1) (by simp only[zf1z,Lib.strCells_length];omega) (by have:=hb1.size;simp at this ⊢;omega)).mono ?_;rintro e w2 ⟨rfl,h2,hb2,hap2⟩)
   |(refine(Tryz.bldWriteString B b bs _ _ (Dn h _) (by omega) (by simp;omega)).mono ?_;rintro e w1 ⟨rfl,h1,hb1,hap⟩;have hc2:=HO hap (by rcases h with h|h<;>exact h.lt) (by decide) 2;have hg1:=(hb1.cell hgb).trans ((((Below.refl B w).alloc hBw _).cell hgb).trans hg);have hd1:=(hb1.cell (p:=⟨wb,wo+3,none⟩) hwb).trans ((((Below.refl B w).alloc hBw _).cell (p:=⟨wb,wo+3,none⟩) hwb).trans hd0)))
  refine bodyPost_ret (results_none rfl _ _ _) rfl ?_;refine⟨rfl,?_,((((Below.refl B w).alloc hBw _).trans hb1).trans hb2),((Apart.alloc w _).trans hap).trans hap2⟩;rw[e1,e2,zf3z,←Ee]at h2;exact h2
 .have hd0:=hwd 4 (by omega);obtain⟨u,hu⟩:∃u:ByteArray,u=⟨(Lq.getD 4 []).toArray⟩:=⟨_,rfl⟩;have hul:u.size<=5:=by rw[hu];decide
  have huw:u.data.toList=o9 4:=by rw[hu];rfl
  rw[←hu]at hd0;clear hu hwd;have hau:(⟨#[58]⟩++u:ByteArray).size<=u.size+1:=by simp[zf0z];show 1+u.size<=u.size+1;omega
  have e2:Lib.strCells (⟨#[58]⟩++u)=Lib.byteCells (58::o9 4):=by
   rw[Lib.strCells_eq,←huw];congr 1
  go_enter Tryz.func126,Tryz.ntmps126
  go_wp2_with (go_at_call 216;first
   |(refine(Tryz.bldWriteString B b _ _ _ (Or.inr h1) (by simp only[zf1z,Lib.strCells_length];omega) (by have:=hb1.size;simp at this ⊢;omega)).mono ?_;rintro e w2 ⟨rfl,h2,hb2,hap2⟩)
   |(refine(Tryz.bldWriteString B b bs _ _ (Dn h _) (by omega) (by simp;omega)).mono ?_;rintro e w1 ⟨rfl,h1,hb1,hap⟩;have hc2:=HO hap (by rcases h with h|h<;>exact h.lt) (by decide) 2;have hg1:=(hb1.cell hgb).trans ((((Below.refl B w).alloc hBw _).cell hgb).trans hg);have hd1:=(hb1.cell (p:=⟨wb,wo+4,none⟩) hwb).trans ((((Below.refl B w).alloc hBw _).cell (p:=⟨wb,wo+4,none⟩) hwb).trans hd0)))
  refine bodyPost_ret (results_none rfl _ _ _) rfl ?_;refine⟨rfl,?_,((((Below.refl B w).alloc hBw _).trans hb1).trans hb2),((Apart.alloc w _).trans hap).trans hap2⟩;rw[e1,e2,zf3z,←Ee]at h2;exact h2
 .have hd0:=hwd 5 (by omega);obtain⟨u,hu⟩:∃u:ByteArray,u=⟨(Lq.getD 5 []).toArray⟩:=⟨_,rfl⟩;have hul:u.size<=5:=by rw[hu];decide
  have huw:u.data.toList=o9 5:=by rw[hu];rfl
  rw[←hu]at hd0;clear hu hwd;have hau:(⟨#[58]⟩++u:ByteArray).size<=u.size+1:=by simp[zf0z];show 1+u.size<=u.size+1;omega
  have e2:Lib.strCells (⟨#[58]⟩++u)=Lib.byteCells (58::o9 5):=by
   rw[Lib.strCells_eq,←huw];congr 1
  go_enter Tryz.func126,Tryz.ntmps126
  go_wp2_with (go_at_call 216;first
   |(refine(Tryz.bldWriteString B b _ _ _ (Or.inr h1) (by simp only[zf1z,Lib.strCells_length];omega) (by have:=hb1.size;simp at this ⊢;omega)).mono ?_;rintro e w2 ⟨rfl,h2,hb2,hap2⟩)
   |(refine(Tryz.bldWriteString B b bs _ _ (Dn h _) (by omega) (by simp;omega)).mono ?_;rintro e w1 ⟨rfl,h1,hb1,hap⟩;have hc2:=HO hap (by rcases h with h|h<;>exact h.lt) (by decide) 2;have hg1:=(hb1.cell hgb).trans ((((Below.refl B w).alloc hBw _).cell hgb).trans hg);have hd1:=(hb1.cell (p:=⟨wb,wo+5,none⟩) hwb).trans ((((Below.refl B w).alloc hBw _).cell (p:=⟨wb,wo+5,none⟩) hwb).trans hd0)))
  refine bodyPost_ret (results_none rfl _ _ _) rfl ?_;refine⟨rfl,?_,((((Below.refl B w).alloc hBw _).trans hb1).trans hb2),((Apart.alloc w _).trans hap).trans hap2⟩;rw[e1,e2,zf3z,←Ee]at h2;exact h2
end Go.Proofs
