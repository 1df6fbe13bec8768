/- A part of the proof. -/
import Derived.Test.YtnnjamknplefbaaGreatDoorTN19
set_option linter.all false
open List renaming getElem?_eq_some_iff->zf0z,getElem?_set_ne->zf1z,append_eq_nil_iff->zf2z,all_eq_true->zf3z,getElem?_eq_getElem->zf4z,length_append->zf5z,getElem?_set_self->zf6z,eq_nil_of_length_eq_zero->zg0z,mem_singleton->zg1z,drop_eq_getElem_cons->zg2z,getElem?_append_left->zg3z,getElem?_cons_zero->zg4z,drop_eq_nil_of_le->zg5z,contains_eq_mem->zg6z,getElem?_of_mem->zg7z,mem_of_getElem?->zg8z,mem_cons->zt0z,getElem?_set->zt2z,getElem_mem->zt3z,range->zt6z
open Bool renaming and_eq_true->zf7z,or_eq_true->zf8z,and_self->zg9z,not_eq_true'->zt1z,eq_iff_iff->zt4z,not_false->zt5z
open Option renaming map_some->zf9z
set_option linter.all false
namespace Go.Abs
def A0i:Foot:=⟨some [],[],some [],[]⟩
theorem Dm(w:List (Option Nat)):(w.all λx=>!([]:List (Option Nat)).contains x)=true:=by simp
inductive FK
 |nil
 |fl
 |pu
 |ro
 |rw
 |al (k:Nat)
 |sb (k:Nat)
 |rb (k:Nat)
 |cl (L:List Nat)
 |fw
 |bw
 |any
deriving DecidableEq
def FK.ap1:FK->FK->Bool
 | .nil,_=>true
 | .fl,_=>true
 | .pu,_=>true
 | .ro,.ro=>true
 | .ro,.rw=>true
 | .ro,.rb _=>true
 | .rw,.rw=>true
 | .rw,.rb _=>true
 | .rw,.al _=>true
 | .rw,.sb _=>true
 | .rb _,.rb _=>true
 | .rb i,.al j=>i != j
 | .rb i,.sb j=>i != j
 | .rb i,.cl L=>L.contains i
 | .al i,.al j=>i != j
 | .al i,.sb j=>i != j
 | .sb i,.sb j=>i != j
 | .fw,.bw=>true
 | .fw,.rb _=>true
 | .fw,.al _=>true
 | .fw,.sb _=>true
 |_,_=>false
def FK.apart(a b:FK):Bool:=a.ap1 b||b.ap1 a
def Uy(ix:Nat->Nat):FK->Foot->Prop
 | .nil,g=>g=A0i
 | .fl,g=>g=A0i
 | .pu,g=>g=A0i
 | .ro,g=>g.wb=[]/\g.wf=[]
 | .rw,g=>g.rb=some []/\g.wb=[]/\g.wf=[]
 | .al k,g=>(∃L,g.rb=some L/\∀x∈L,x=none\/x=some (ix k))/\(∀x∈g.wb,x=some (ix k))/\g.rf=some []/\g.wf=[]
 | .sb k,g=>(∃L,g.rb=some L/\∀x∈L,x=some (ix k))/\(∀x∈g.wb,x=some (ix k))/\g.rf=some []/\g.wf=[]
 | .rb k,g=>(∃L,g.rb=some L/\∀x∈L,x=some (ix k))/\g.wb=[]/\g.rf=some []/\g.wf=[]
 | .cl L,g=>∀k∈L,some (ix k)∉g.wb
 | .fw,g=>g.rb=some []/\g.wb=[]
 | .bw,g=>g.rf=some []/\g.wf=[]
 | .any,_=>True
theorem Pn{L w:List (Option Nat)}(h:∀x∈L,x∉w):Z0 (some L) w=true:=by
 simp only[Z0,zf3z,zt1z,zg6z,decide_eq_false_iff_not];exact λx hx hm=>h x hm hx
theorem Bg(r:Option (List (Option Nat))):Z0 r []=true:=by cases r<;>rfl
theorem GN{f g:Foot}(h1:Z0 f.rb g.wb=true)(h2:Z0 g.rb f.wb=true)(h3:Z0 (some f.wb) g.wb=true)(h4:Z0 f.rf g.wf=true)(h5:Z0 g.rf f.wf=true)(h6:Z0 (some f.wf) g.wf=true):P1 f g=true:=by
 simp only[P1,h1,h2,h3,h4,h5,h6,zg9z]
theorem Yb{f g:Foot}(h:P1 f g=true):P1 g f=true:=by
 simp only[P1,zf7z]at h;obtain⟨⟨⟨⟨⟨h1,h2⟩,h3⟩,h4⟩,h5⟩,h6⟩:=h;have sw:∀{a b:List (Option Nat)},Z0 (some a) b=true->Z0 (some b) a=true:=λ{a b} h=>by
  refine Pn λx hx hm=>?_;simp only[Z0,zf3z,zt1z,zg6z,decide_eq_false_iff_not]at h;exact h x hx hm
 exact GN h2 h1 (sw h3) h5 h4 (sw h6)
def Tou(b:Nat)(g:Foot):Prop:=(∃L,g.rb=some L/\∀x∈L,x=none\/x=some b)/\(∀x∈g.wb,x=some b)/\g.rf=some []/\g.wf=[]
theorem Tou.apart{a b:Nat}{f g:Foot}(ne:a≠b)(h:Tou a f)(h':Tou b g):P1 f g=true:=by
 obtain⟨⟨L,hL,k1⟩,k2,k3,k4⟩:=h;obtain⟨⟨L',hL',k5⟩,k6,k7,k8⟩:=h';refine GN ?_ ?_ ?_ (by rw[k3];exact Dm _) (by rw[k7];exact Dm _) (by rw[k4];exact Dm _)
 .rw[hL];refine Pn λx hx hm=>?_;have h1:=k6 x hm;subst h1;rcases k1 _ hx with h|h
  .cases h
  .exact ne (Option.some.inj h).symm
 .rw[hL'];refine Pn λx hx hm=>?_;have h1:=k2 x hm;subst h1;rcases k5 _ hx with h|h
  .cases h
  .exact ne (Option.some.inj h)
 .refine Pn λx hx hm=>?_;have h1:=k2 x hx;subst h1;exact ne (Option.some.inj (k6 _ hm))
section
variable {ix:Nat->Nat} (hix:∀a b,ix a=ix b->a=b)
include hix
theorem Uy.ap1{a a':FK}{f g:Foot}(h:Uy ix a f)(h':Uy ix a' g)(e:a.ap1 a'=true):P1 f g=true:=by
 have nl:∀{f g:Foot},f=A0i->P1 f g=true:=λ{f g} e=>by
  subst e;exact GN (Dm _) (Bg _) (Dm _) (Dm _) (Bg _) (Dm _)
 have ap:∀{f g:Foot},f.wb=[]->f.wf=[]->g.wf=[]->Z0 f.rb g.wb=true->P1 f g=true:=λ{f g} h1 h2 h3 h4 =>
  GN h4 (by rw[h1];exact Bg _) (by rw[h1];exact Dm _) (by rw[h3];exact Bg _) (by rw[h2];exact Bg _) (by rw[h2];exact Dm _)
 have fb:∀{f g:Foot},f.rb=some []->f.wb=[]->g.rf=some []->g.wf=[]->P1 f g=true:=λ{f g} h1 h2 h3 h4 =>
  GN (by rw[h1];exact Dm _) (by rw[h2];exact Bg _) (by rw[h2];exact Dm _) (by rw[h4];exact Bg _) (by rw[h3];exact Dm _) (by rw[h4];exact Bg _)
 have ne:∀{i j:Nat},(i != j)=true->ix i≠ix j:=λh hh=>by simp[hix _ _ hh]at h
 have ta:∀{k:Nat} {g:Foot},Uy ix (.al k) g->Tou (ix k) g:=λh=>h;have ts:∀{k:Nat} {g:Foot},Uy ix (.sb k) g->Tou (ix k) g:=λh=>⟨⟨_,h.1.choose_spec.1,λx hx=>.inr (h.1.choose_spec.2 x hx)⟩,h.2⟩;have tr:∀{k:Nat} {g:Foot},Uy ix (.rb k) g->Tou (ix k) g:=λh=>⟨⟨_,h.1.choose_spec.1,λx hx=>.inr (h.1.choose_spec.2 x hx)⟩,(λx hx=>by have e:_=[]:=h.2.1;rw[e]at hx;cases hx),h.2.2⟩;cases a<;>cases a'<;>first
  |(cases e;done)
  |exact nl h
  |exact nl h'
  |exact fb h.1 h.2 h'.1 h'.2
  |exact fb h.1 h.2 h'.2.2.1 h'.2.2.2
  |exact(ta h).apart (ne e) (ta h')
  |exact(ta h).apart (ne e) (ts h')
  |exact(ts h).apart (ne e) (ts h')
  |exact(tr h).apart (ne e) (ta h')
  |exact(tr h).apart (ne e) (ts h')
  |(
    simp only[Uy]at h h'
    first
    |exact ap (by simp[h]) (by simp[h]) (by simp[h']) (by rw[h.1];exact Dm _)
    |exact ap (by simp[h]) (by simp[h]) (by simp[h']) (by simp only[h',Bg])
    |(
      obtain⟨⟨L,hL,k1⟩,k2,k3,k4⟩:=h;refine GN ?_ (by rw[k2];exact Bg _) (by rw[k2];exact Dm _) (by rw[k3];exact Dm _) (by rw[k4];exact Bg _) (by rw[k4];exact Dm _);rw[hL];refine Pn λx hx hm=>?_;rw[k1 x hx]at hm;exact h' _ (by simpa[FK.ap1]using e) hm))
theorem Uy.apart{a a':FK}{f g:Foot}(h:Uy ix a f)(h':Uy ix a' g)(e:a.apart a'=true):P1 f g=true:=by
 simp only[FK.apart,zf8z]at e;rcases e with e|e
 .exact h.ap1 hix h' e
 .exact Yb (h'.ap1 hix h e)
end
def po(bs:List Nat)(C9:List RO)(ns:List FK):Bool :=
 (zt6z C9.length).all λj=>(zt6z j).all λi =>
  match C9[i]?,C9[j]?,ns[i]?,ns[j]? with
  |some oi,some oj,some a,some b=>((bs.getD j 0).testBit i ||
   (
    (match oi.dst with|some d=>!oj.slots.contains d&&oj.dst != some d|none=>true) &&
    (match oj.dst with|some d=>!oi.slots.contains d|none=>true)&&a.apart b))&&(match oi.dst,oj.dst with|some d,some e=>d != e|_,_=>true)
  |_,_,_,_=>false
def nD(ix:Nat->Nat):List FK->List Foot->Prop
 | [],[]=>True
 |c::ns,g::gs=>Uy ix c g/\nD ix ns gs
 |_,_=>False
theorem nD.get{ix:Nat->Nat}:∀{ns:List FK} {gs:List Foot},nD ix ns gs->∀{i:Nat} {c:FK},ns[i]?=some c->∃g,gs[i]?=some g/\Uy ix c g
 | [],[],_,i,c,h=>by simp at h
 |a::ns,g::gs,hn,0,c,h=>by
  simp only[zg4z,Option.some.injEq]at h;subst h;exact⟨g,rfl,hn.1⟩
 |a::ns,g::gs,hn,i+1,c,h=>by simpa using nD.get hn.2 (i:=i) oE
theorem wk{ix:Nat->Nat}(hix:∀a b,ix a=ix b->a=b){bs:List Nat}{C9:List RO}{ns:List FK}{gs:List Foot}(hn:nD ix ns gs)(h:po bs C9 ns=true):Es bs C9 gs=true:=by
 simp only[po,Es,zf3z]at h ⊢;intro j hj i hi;have:=h j hj i hi;split at this
 .rename_i oi oj a b e1 e2 e3 e4;obtain⟨fi,h3,n3⟩:=hn.get e3;obtain⟨fj,h4,n4⟩:=hn.get e4;rw[e1,e2,h3,h4];simp only[zf7z,zf8z,TB]at this ⊢;refine⟨?_,this.2⟩;rcases this.1 with h5|⟨h5,h6⟩
  .exact .inl h5
  .exact .inr ⟨h5,n3.apart hix n4 h6⟩
 .cases this
theorem vl{a a':List (List AV)}{b:Nat}(hb:b<a.length)(h:a'[b]?=a[b]?):some b∉Lv a a':=by
 intro hx;unfold Lv at hx;rcases List.mem_append.1 hx with hx|hx
 .split at hx
  .cases hx
  .rcases zg1z.1 hx with e
   cases e
 .obtain⟨i,hi,e⟩:=List.mem_map.1 hx;cases e;have:=(List.mem_filter.1 hi).2;rw[h,zf4z hb]at this;simp only[NS,T0]at this;cases this
def FrL(K:AH->Prop):List RO->List (Fr×AH)->List Foot->List Foot->Prop
 | [],_,[],[]=>True
 |o::os,s::ts,f::fs,g::gs =>
  (FLe f g\/∃d agg n x b off v,o=⟨d,.ld agg n x,none⟩/\get s.1 x=.ptr b off/\(∀h,K h->X3 h agg n (.ptr b off)=some v)/\K s.2/\FLe {f with rb:=some []} g)/\FrL K os ts fs gs
 |_,_,_,_=>False
theorem ch{f g:Foot}(k:P1 f g=true):P1 {f with rb:=some []} g=true/\P1 f {g with rb:=some []}=true/\P1 {f with rb:=some []} {g with rb:=some []}=true:=by
 have h1:∀w:List (Option Nat),Z0 (some []) w=true:=Dm;simp only[P1,zf7z,h1,true_and]at k ⊢;simp only[k.1.1.1.1.1,k.1.1.1.1.2,k.1.1.1.2,k.1.1.2,k.1.2,k.2,and_self]
theorem FrL.get{K:AH->Prop}:∀{os:List RO} {ts:List (Fr×AH)} {fs gs:List Foot},FrL K os ts fs gs->∀{i:Nat} {g:Foot},gs[i]?=some g->∃o s f,os[i]?=some o/\ts[i]?=some s/\fs[i]?=some f /\
  (FLe f g\/∃d agg n x b off v,o=⟨d,.ld agg n x,none⟩/\get s.1 x=.ptr b off/\(∀h,K h->X3 h agg n (.ptr b off)=some v)/\K s.2/\FLe {f with rb:=some []} g)
 | [],_,[],[],_,i,g,h=>by simp at h
 |o::os,s::ts,f::fs,g'::gs,hl,0,g,h=>by
  simp only[zg4z,Option.some.injEq]at h;subst h;exact⟨o,s,f,rfl,rfl,rfl,hl.1⟩
 |o::os,s::ts,f::fs,g'::gs,hl,i+1,g,h=>by
  simpa using FrL.get hl.2 (i:=i) oE
theorem zh(x:AV):eqO (some x) (some x)=true:=dh x
theorem lQ{K:AH->Prop}{O:Orc}{c:Ctx}{bs:List Nat}{C9:List RO}{fr:Fr}{h:AH}{fs gs:List Foot}{ts:List (Fr×AH)}(ht:Z2 O c C9 fr h=some ts)(hK:∀s∈ts,K s.2)(hl:FrL K C9 ts fs gs)(hp:Es bs C9 gs=true):Dx O c bs C9 fr h fs=true:=by
 have key:∀{i:Nat} {g:Foot},gs[i]?=some g->∃f f',(nH bs C9 ts fs)[i]?=some f/\FLe f' g/\(f=f'\/f={f' with rb:=some []}):=by
  intro i g hg;obtain⟨o,s,f,h1,h2,h3,h4⟩:=hl.get hg;have ha:(nH bs C9 ts fs)[i]?=some (if Rx bs C9 ts i then {f with rb:=some []} else f):=by
   unfold nH;rw[List.getElem?_mapIdx,h3,zf9z]
  rw[ha];rcases h4 with h4|⟨d,agg,n,x,b,off,v,rfl,h5,h6,h7,h8⟩
  .refine⟨_,f,rfl,h4,?_⟩;split
   .exact .inr rfl
   .exact .inl rfl
  .have hfr:Rx bs C9 ts i=true:=by
    unfold Rx;obtain⟨sf,sh⟩:=s;rw[h1,h2];simp only at h5 h7 ⊢;rw[h5];simp only[zf3z];rintro⟨q,w⟩ hq;rw[zf8z];right;rw[h6 _ (hK q (zg8z (List.mem_zipIdx_iff_getElem?.1 hq))),h6 _ h7];exact zh v
   rw[if_pos hfr];exact⟨_,_,rfl,h8,.inl rfl⟩
 unfold Dx;rw[ht];simp only[Es,zf3z]at hp ⊢;intro j hj i hi;have:=hp j hj i hi;split at this
 .rename_i oi oj gi gj e1 e2 e3 e4;obtain⟨fi,fi',h3,li,ci⟩:=key e3;obtain⟨fj,fj',h4,lj,cj⟩:=key e4;rw[e1,e2,h3,h4];simp only[TB,zf7z,zf8z]at this ⊢;refine⟨?_,this.2⟩;rcases this.1 with h5|⟨h5,h6⟩
  .exact .inl h5
  .have h7:=ch (Ta li lj h6);refine .inr ⟨h5,?_⟩;rcases ci with rfl|rfl<;>rcases cj with rfl|rfl
   .exact Ta li lj h6
   .exact h7.2.1
   .exact h7.1
   .exact h7.2.2
 .cases this
def ROp.blind:ROp->Bool
 | .mov _ | .pick .. | .nilck _ | .bin .. | .beq .. | .un .. | .faddr .. | .fld .. | .iaddr .. | .ext .. | .len .. | .build .. | .conv .. | .max .. | .min .. | .idx ..=>true
 |_=>false
def Fl(K:AH->Prop)(agg:Bool)(n:Nat)(p v:AV):Prop:=∀h,K h->X3 h agg n p=some v
def Lt(ix:Nat->Nat)(K:AH->Prop)(c:Ctx)(cl:FK)(op:ROp)(fr:Fr)(h:AH)(v:AV)(h1:AH):Prop :=
 match cl with
 | .nil=>op.blind=true
 | .fl=>(match op with | .ld agg n x=>(match get fr x with | .ptr b off=>Fl K agg n (.ptr b off) v|_=>False)|_=>False)
 | .pu=>(match op with | .call f args=>c.raw f=false/\(args.map (get fr)).all M9=true | .bslice _ _ ps=>ps.all (λp=>M9 (get fr p.2))=true|_=>False)
 | .fw=>(match op with | .app ..=>True|_=>False)
 | .bw=>(match op with | .alloc _=>True|_=>False)
 | .ro=>op.writesB c=false/\op.writesF c=false
 | .rw=>(match op with | .ld _ _ x=>(match get fr x with | .ep ..=>True | .pv _=>True|_=>False)|_=>False)
 | .al k=>(match op with | .allocAt r _=>h.boxes.length-r=ix k|_=>False)
 | .sb k=>(match op with | .st _ a _=>c.lay=false/\(match get fr a with | .ptr b _=>b=ix k|_=>False) | .stb _ a _=>(match get fr a with | .ptr b _=>b=ix k|_=>False)|_=>False)
 | .rb k=>(match op with | .ld _ _ x=>(match get fr x with | .ptr b _=>b=ix k|_=>False)|_=>False)
 | .cl L=>∀k∈L,ix k<h.boxes.length/\h1.boxes[ix k]?=h.boxes[ix k]?
 | .any=>True
section
variable (ix:Nat->Nat) (K:AH->Prop) (O:Orc) (c:Ctx)
mutual
def nG:List RO->List FK->Fr->AH->(Fr->AH->Prop)->Prop
 | [],[],fr,h,Φ=>K h/\Φ fr h
 |⟨d,op,none⟩::C9,cl::ns,fr,h,Φ=>K h/\(match A7 O c op fr h with|some (v,h1)=>Lt ix K c cl op fr h v h1/\nG C9 ns (put fr d v) h1 Φ|none=>False)
 |_,_,_,_,_=>False
end
end
def krd(ix:Nat->Nat)(K:AH->Prop)(O:Orc)(c:Ctx)(cl:FK)(d:Option Nat)(op:ROp)(C9:List RO)(ns:List FK)(fr:Fr)(h:AH)(Φ:Fr->AH->Prop)(r:Option (AV×AH)):Prop:=match r with|some (v,h1)=>Lt ix K c cl op fr h v h1/\nG ix K O c C9 ns (put fr d v) h1 Φ|none=>False
@[congr] theorem krd_congr{ix:Nat->Nat}{K:AH->Prop}{O:Orc}{c:Ctx}{cl:FK}{d:Option Nat}{op:ROp}{C9:List RO}{ns:List FK}{fr:Fr}{h:AH}{Φ:Fr->AH->Prop}{r r':Option (AV×AH)}(e:r=r'):krd ix K O c cl d op C9 ns fr h Φ r=krd ix K O c cl d op C9 ns fr h Φ r':=by rw[e]
section
variable (ix:Nat->Nat) (K:AH->Prop) (O:Orc) (c:Ctx) (cl:FK) (d:Option Nat) (op:ROp) (C9:List RO) (ns:List FK) (fr:Fr) (h:AH) (Φ:Fr->AH->Prop)
@[simp]theorem yX:nG ix K O c [] [] fr h Φ=(K h/\Φ fr h):=p_ rfl
@[simp]theorem vL:nG ix K O c (⟨d,op,none⟩::C9) (cl::ns) fr h Φ=(K h/\krd ix K O c cl d op C9 ns fr h Φ (A7 O c op fr h)):=p_ rfl
@[simp]theorem A0N(v:AV)(h1:AH):krd ix K O c cl d op C9 ns fr h Φ (some (v,h1))=(Lt ix K c cl op fr h v h1/\nG ix K O c C9 ns (put fr d v) h1 Φ):=p_ rfl
@[simp]theorem ClOk_nil(v:AV)(h1:AH):Lt ix K c .nil op fr h v h1=(op.blind=true):=p_ rfl
@[simp]theorem ClOk_fl(agg:Bool)(n:Nat)(x:Opd)(v:AV)(h1:AH):Lt ix K c .fl (.ld agg n x) fr h v h1=(match get fr x with | .ptr b off=>Fl K agg n (.ptr b off) v|_=>False):=p_ rfl
@[simp]theorem ClOk_pu(f:FuncId)(args:List Opd)(v:AV)(h1:AH):Lt ix K c .pu (.call f args) fr h v h1=(c.raw f=false/\(args.map (get fr)).all M9=true):=p_ rfl
@[simp]theorem ClOk_pub(n:Nat)(z:AV)(ps:List (Nat×Opd))(v:AV)(h1:AH):Lt ix K c .pu (.bslice n z ps) fr h v h1=(ps.all (λp=>M9 (get fr p.2))=true):=p_ rfl
@[simp]theorem ClOk_fw(n b:Nat)(s x:Opd)(v:AV)(h1:AH):Lt ix K c .fw (.app n b s x) fr h v h1=True:=p_ rfl
@[simp]theorem ClOk_bw(z v:AV)(h1:AH):Lt ix K c .bw (.alloc z) fr h v h1=True:=p_ rfl
@[simp]theorem ClOk_ro(v:AV)(h1:AH):Lt ix K c .ro op fr h v h1=(op.writesB c=false/\op.writesF c=false):=p_ rfl
@[simp]theorem ClOk_rw(agg:Bool)(n:Nat)(x:Opd)(v:AV)(h1:AH):Lt ix K c .rw (.ld agg n x) fr h v h1=(match get fr x with | .ep ..=>True | .pv _=>True|_=>False):=p_ rfl
@[simp]theorem ClOk_al(k r:Nat)(z v:AV)(h1:AH):Lt ix K c (.al k) (.allocAt r z) fr h v h1=(h.boxes.length-r=ix k):=p_ rfl
@[simp]theorem ClOk_sb(k n:Nat)(a x:Opd)(v:AV)(h1:AH):Lt ix K c (.sb k) (.st n a x) fr h v h1=(c.lay=false/\(match get fr a with | .ptr b _=>b=ix k|_=>False)):=p_ rfl
@[simp]theorem ClOk_sbb(k n:Nat)(a x:Opd)(v:AV)(h1:AH):Lt ix K c (.sb k) (.stb n a x) fr h v h1=(match get fr a with | .ptr b _=>b=ix k|_=>False):=p_ rfl
@[simp]theorem ClOk_rb(k n:Nat)(agg:Bool)(x:Opd)(v:AV)(h1:AH):Lt ix K c (.rb k) (.ld agg n x) fr h v h1=(match get fr x with | .ptr b _=>b=ix k|_=>False):=p_ rfl
@[simp]theorem ClOk_cl(L:List Nat)(v:AV)(h1:AH):Lt ix K c (.cl L) op fr h v h1=(∀k∈L,ix k<h.boxes.length/\h1.boxes[ix k]?=h.boxes[ix k]?):=p_ rfl
@[simp]theorem ClOk_any(v:AV)(h1:AH):Lt ix K c .any op fr h v h1=True:=p_ rfl
end
theorem nO{c:Ctx}{nb:Nat}{g:Opd->AV}{op:ROp}(h:op.blind=true):JR c nb g op=some []/\Gl c g op=some []/\op.writesB c=false/\op.writesF c=false:=by
 cases op<;>first|(simp only[ROp.blind,Bool.false_eq_true]at h;done)|exact⟨rfl,rfl,rfl,rfl⟩
theorem Qn{c:Ctx}{O:Orc}{d:Option Nat}{op:ROp}{fr:Fr}{h h1:AH}{v:AV}(he:A7 O c op fr h=some (v,h1))(k1:op.writesB c=false)(k2:op.writesF c=false):(At c ⟨d,op,none⟩ fr h h1).wb=[]/\(At c ⟨d,op,none⟩ fr h h1).wf=[]:=by
 have e1:=(JI he).1 k1;have e2:=(JI he).2 k2;constructor
 .show Lv h.boxes h1.boxes=[];rw[e1,Wz]
 .show PK h.fams h1.fams=[];rw[e2,ND]
theorem Foot.ext4{f:Foot}{a:Option (List (Option Nat))}{b:List (Option Nat)}{c:Option (List (Option Nat))}{d:List (Option Nat)}(h1:f.rb=a)(h2:f.wb=b)(h3:f.rf=c)(h4:f.wf=d):f=⟨a,b,c,d⟩:=by
 obtain⟨x,y,z,w⟩:=f;simp only at h1 h2 h3 h4;rw[h1,h2,h3,h4]
theorem jV{ix:Nat->Nat}{K:AH->Prop}{O:Orc}{c:Ctx}{Φ:Fr->AH->Prop}:∀{ops:List RO} {ns:List FK} {fr:Fr} {h:AH},nG ix K O c ops ns fr h Φ ->
  K h/\∃B8 h' fs ts gs,P0 O c ops fr h=some (fs,B8,h')/\Z2 O c ops fr h=some ts/\(∀s∈ts,K s.2)/\FrL K ops ts fs gs/\nD ix ns gs/\Φ B8 h'
 | [],[],fr,h,H=>by
  simp only[yX]at H;exact⟨H.1,fr,h,[],[(fr,h)],[],rfl,rfl,λs hs=>by rw[zg1z.1 hs];exact H.1,trivial,trivial,H.2⟩
 |⟨d,op,none⟩::C9,cl::ns,fr,h,H=>by
  simp only[vL]at H;obtain⟨hK,H⟩:=H;cases he:A7 O c op fr h with
  |none=>rw[he]at H;exact H.elim
  |some p =>
   obtain⟨v,h1⟩:=p;rw[he]at H;simp only[A0N]at H;obtain⟨hc,hr⟩:=H;obtain⟨_,B8,h',fs,ts,gs,k1,k2,k3,k4,k5,k6⟩:=jV hr;have go:∀g,Uy ix cl g->(FLe (At c ⟨d,op,none⟩ fr h h1) g\/∃d' agg n x b off v,(⟨d,op,none⟩:RO)=⟨d',.ld agg n x,none⟩/\get fr x=.ptr b off/\(∀h,K h->X3 h agg n (.ptr b off)=some v)/\K h/\FLe {At c ⟨d,op,none⟩ fr h h1 with rb:=some []} g) ->
     K h/\∃B8 h' fs ts gs,P0 O c (⟨d,op,none⟩::C9) fr h=some (fs,B8,h')/\Z2 O c (⟨d,op,none⟩::C9) fr h=some ts/\(∀s∈ts,K s.2)/\FrL K (⟨d,op,none⟩::C9) ts fs gs/\nD ix (cl::ns) gs/\Φ B8 h':=λg hg hl=>by
    refine⟨hK,B8,h',At c ⟨d,op,none⟩ fr h h1::fs,(fr,h)::ts,g::gs,?_,?_,λs hs=>?_,⟨hl,k4⟩,⟨hg,k5⟩,k6⟩
    .simp only[P0,O8,he,k1,zf9z]
    .simp only[Z2,O8,he,k2,zf9z]
    .rcases zt0z.1 hs with rfl|hs
     .exact hK
     .exact k3 s hs
   have self:FLe (At c ⟨d,op,none⟩ fr h h1) (At c ⟨d,op,none⟩ fr h h1):=⟨rfl,λ_ h=>h,rfl,λ_ h=>h⟩;cases cl with
   |nil =>
    obtain⟨b1,b2,b3,b4⟩:=nO (c:=c) (nb:=h.boxes.length) (g:=get fr) (show op.blind=true from hc);obtain⟨w1,w2⟩:=Qn (d:=d) he b3 b4;exact go _ (Foot.ext4 b1 w1 b2 w2) (.inl self)
   |fl =>
    cases op<;>simp only[Lt]at hc;rename_i agg n x;cases hx:get fr x<;>rw[hx]at hc<;>simp only at hc;rename_i b off;obtain⟨w1,w2⟩:=Qn (d:=d) he rfl rfl;refine go A0i rfl (.inr ⟨d,agg,n,x,b,off,v,rfl,hx,hc,hK,rfl,?_,?_,?_⟩)
    .rw[w1];exact λ_ h=>h
    .show Gl c (get fr) (.ld agg n x)=some [];simp only[Gl,hx]
    .rw[w2];exact λ_ h=>h
   |pu =>
    cases op<;>simp only[Lt]at hc<;>first
     |(
       obtain⟨hc1,hc2⟩:=hc;rename_i f args;obtain⟨w1,w2⟩:=Qn (d:=d) he (by simp only[ROp.writesB,hc1,Bool.false_and]) (by simp only[ROp.writesF,hc1]);have e1:JR c h.boxes.length (get fr) (.call f args)=some []:=by
        simp only[JR,hc1,hc2,zt5z,zg9z,if_true]
       have e2:Gl c (get fr) (.call f args)=some []:=by
        simp only[Gl,hc1,hc2,zt5z,zg9z,if_true]
       exact go _ (Foot.ext4 e1 w1 e2 w2) (.inl self))
     |(
       rename_i n z ps;obtain⟨w1,w2⟩:=Qn (d:=d) he rfl rfl;have e1:JR c h.boxes.length (get fr) (.bslice n z ps)=some []:=if_pos hc;have e2:Gl c (get fr) (.bslice n z ps)=some []:=if_pos hc;exact go _ (Foot.ext4 e1 w1 e2 w2) (.inl self))
   |fw =>
    cases op<;>simp only[Lt]at hc;have e1:=(JI he).1 rfl;exact go _ ⟨rfl,by show Lv h.boxes h1.boxes=[];rw[e1,Wz]⟩ (.inl self)
   |bw =>
    cases op<;>simp only[Lt]at hc;have e1:=(JI he).2 rfl;exact go _ ⟨rfl,by show PK h.fams h1.fams=[];rw[e1,ND]⟩ (.inl self)
   |ro=>exact go _ (Qn (d:=d) he hc.1 hc.2) (.inl self)
   |rw =>
    cases op<;>simp only[Lt]at hc;rename_i agg n x;obtain⟨w1,w2⟩:=Qn (d:=d) he rfl rfl;refine go _ ⟨?_,w1,w2⟩ (.inl self);show JR c h.boxes.length (get fr) (.ld agg n x)=some [];cases hx:get fr x<;>rw[hx]at hc<;>simp only at hc<;>simp only[JR,hx]
   |al k =>
    cases op<;>simp only[Lt]at hc;rename_i r z;have h4:h1.fams=h.fams/\∀x∈Lv h.boxes h1.boxes,x=some (h.boxes.length-r):=by
     simp only[A7,AW]at he;split at he
     .split at he
      .cases he;exact⟨rfl,λx hx=>by simpa using Ro _ _ _ x hx⟩
      .cases he
     .cases he
    refine go _ ⟨⟨_,rfl,λx hx=>?_⟩,λx hx=>?_,rfl,?_⟩ (.inl self)
    .rw[←hc];simpa using hx
    .rw[←hc];exact h4.2 x hx
    .show PK h.fams h1.fams=[];rw[h4.1,ND]
   |sb k =>
    have key:∀{b off:Nat},b=ix k->(JR c h.boxes.length (get fr) op=some [some b])->(Gl c (get fr) op=some [])->(h1.fams=h.fams/\∀x∈Lv h.boxes h1.boxes,x=some b)->_:=λ{b off} e1 e2 e3 e4=>go _ (show Uy ix (.sb k) _ from ⟨⟨_,e2,λx hx=>by rw[←e1];simpa using hx⟩,λx hx=>by rw[←e1];exact e4.2 x hx,e3,by show PK h.fams h1.fams=[];rw[e4.1,ND]⟩) (.inl self);have stT_ok:∀{b n off:Nat} {x:AV} {cs:List AV} {h2:AH},mz h b n off x cs=some h2->h2.fams=h.fams/\∀y∈Lv h.boxes h2.boxes,y=some b:=λ{b n off x cs h2} e=>by
     unfold mz at e;split at e
     .split at e
      .cases e;exact⟨rfl,λx hx=>by simpa using Ro _ _ _ x hx⟩
      .cases e
     .cases e
    cases op<;>simp only[Lt]at hc
    .rename_i n a x;obtain⟨hlay,hc⟩:=hc;have hl':∀{α:Type} (a b:α),(if c.lay=true then a else b)=b:=λa b=>by rw[hlay];rfl
     cases hx:get fr a<;>rw[hx]at hc<;>simp only at hc;rename_i b off;refine key (off:=off) hc (by simp only[JR,hl',hx]) (by simp only[Gl,hl',hx]) ?_;simp only[A7,XM,hl',hx,DX]at he;cases hbb:h.boxes[b]? with
     |none=>rw[hbb]at he;simp only at he;cases he
     |some cs =>
      rw[hbb]at he;simp only at he;split at he
      .rename_i h2 X8;cases he;split at X8
       .cases X8;exact⟨rfl,λx hx=>by simpa using Ro _ _ _ x hx⟩
       .exact stT_ok X8
      .cases he
    .rename_i n a x;cases hx:get fr a<;>rw[hx]at hc<;>simp only at hc;rename_i b off;refine key (off:=off) hc (by simp only[JR,hx]) (by simp only[Gl];rfl) ?_;simp only[A7,hx,TP]at he;cases hbb:h.boxes[b]? with
     |none=>rw[hbb]at he;simp only at he;cases he
     |some cs =>
      rw[hbb]at he;simp only at he;split at he
      .cases he;exact⟨rfl,λx hx=>by simpa using Ro _ _ _ x hx⟩
      .rw[Option.map_eq_some_iff]at he;obtain⟨h2,X8,e⟩:=he;cases e;exact stT_ok X8
   |rb k =>
    cases op<;>simp only[Lt]at hc;rename_i agg n x;cases hx:get fr x<;>rw[hx]at hc<;>simp only at hc;rename_i b off;obtain⟨w1,w2⟩:=Qn (d:=d) he rfl rfl;refine go _ ⟨⟨[some b],?_,λx hx=>?_⟩,w1,?_,w2⟩ (.inl self)
    .show JR c h.boxes.length (get fr) (.ld agg n x)=_;simp only[JR,hx]
    .rw[←hc];simpa using hx
    .show Gl c (get fr) (.ld agg n x)=some [];simp only[Gl,hx]
   |cl L=>exact go _ (λk hk=>vl (hc k hk).1 (hc k hk).2) (.inl self)
   |any=>exact go _ trivial (.inl self)
def NPK(Ψ:Ex->Fr->AH->Prop)(fr:Fr)(h:AH):Prop:=Ψ .normal fr h
@[simp]theorem NPK_eq(Ψ:Ex->Fr->AH->Prop)(fr:Fr)(h:AH):NPK Ψ fr h=Ψ .normal fr h:=p_ rfl
theorem E8{O:Orc}{c:Ctx}{bs:List Nat}{ops:List RO}{fr:Fr}{h:AH}{Ψ:Ex->Fr->AH->Prop}(ix:Nat->Nat)(K:AH->Prop)(ns:List FK)(n:Nat)(hix:∀a b,ix a=ix b->a=b)(hn:cN ops=n)(hp:po bs ops ns=true)
  (H:nG ix K O c ops ns fr (h.holes n) (NPK Ψ)):D7 (A8 O c (.regd bs ops) (fr,h)) Ψ:=by
 subst hn;obtain⟨_,B8,h',fs,ts,gs,k1,k2,k3,k4,k5,k6⟩:=jV H;exact vG k1 (lQ k2 k3 k4 (wk hix k5 hp)) k6
@[simp]theorem holes_zero(h:AH):h.holes 0=h:=by simp[AH.holes]
attribute [simp] ROp.blind ROp.writesB ROp.writesF
end Go.Abs
namespace Go.Abs.Q
open Go.Proofs
attribute [local simp] E5 E6 fin J4 H8
@[simp]theorem frz_fnp(h:AH)(am:Bool)(f:FuncId)(cs:b9):frz h am (.fn f [.pv cs])=some (.fn f [.pv cs]):=p_ rfl
@[simp]theorem tame_fnp(h:AH)(f:FuncId)(cs:b9):tame h (.fn f cs)=true:=p_ rfl
def ixB(sz:Nat):RCode:=(.seq (rG [E 9 8 7]) (.seq (.cond (.t 9) .skip (.exit 0)) (.seq (.block 1 (.seq (rG [V 10 8,V 5 10]) (.seq (rG [V 11 1,V 12 0,V 13 5,oI 14 sz 12 13,A 15 sz 14,O 16 (.callv (.t 11) [(.t 15)])]) (.cond (.t 16) (.seq (rG [V 17 5,V 4 17]) .ret) .skip)))) (rG [J 18 8,V 8 18]))))
def ixF(sz:Nat):RFunc:=⟨19,[(.tmp 4)],(.seq (rG [C 4 (pI 0)]) (.seq (.seq (rG [V 6 0,N 7 6,C 8 (pI 0)]) (.block 0 (.loop (ixB sz)))) (.seq (rG [C 4 (.int .i64 (-1))]) .ret)))⟩
def wL:RCode:=(.seq (rG [E 9 8 7]) (.seq (.cond (.t 9) .skip (.exit 0)) (.seq (.block 1 (.seq (rG [V 10 8,V 5 10]) (.seq (rG [V 11 1,V 12 0,V 13 5,oI 14 1 12 13,L 15 14,O 16 (.callv (.t 11) [(.t 15)])]) (.cond (.t 16) (.seq (rG [V 17 5,V 4 17]) .ret) .skip)))) (rG [J 18 8,V 8 18]))))
def ixF1:RFunc:=⟨19,[(.tmp 4)],(.seq (rG [C 4 (pI 0)]) (.seq (.seq (rG [V 6 0,N 7 6,C 8 (pI 0)]) (.block 0 (.loop wL))) (.seq (rG [C 4 (.int .i64 (-1))]) .ret)))⟩
def ctF(f:FuncId):RFunc:=⟨9,[(.tmp 4)],(.seq (rG [C 4 (.bool false)]) (.seq (rG [V 5 0,V 6 1,oK 7 f [(.t 5),(.t 6)],O 8 (.bin .geq (.t 7) (.c (pI 0))),V 4 8]) .ret))⟩
section
variable {α:Type} (V:α->AV) (sz:Nat) (p:α->Bool) (f g:FuncId) (caps:List AV) (hr:(B1 f).raw g=false) (m:Bool×Bool) (l:List α) (D6:l.length<=1099511627776) (H:∀a∈l,pc Q g (V a::caps)=some (.bool (p a)))
include hr D6 H
theorem kx(hV:∀a,∃cs,V a=.agg cs/\cs.length=sz/\cs.all AV.flat=true)(hcf:caps.all M9=true)(fr:Fr)(h:AH)(hl:fr.length=19)(h0:B2 fr 0=sl m sz (l.map V))(h1:B2 fr 1=.fn g caps)(h7:B2 fr 7=.int .i64 l.length)(h8:B2 fr 8=.int .i64 0) :
  D7 (lp (A8 (m6 Q) (B1 f) (ixB sz)) (fr,h)) λe B8 h'=>Kp (ixB sz).wr fr B8/\h'=h/\(e=.exit 0/\idx p l=-1\/e=.ret/\B2 B8 4=.int .i64 (idx p l)):=by
 refine E9 rfl fr (λn fr h'=>∃(i:Nat),i+n=l.length/\B2 fr 8=.int .i64 (i:Nat)/\h'=h/\EX p i (l.drop i)=idx p l) ?_ l.length h ⟨0,a_,h8,rfl,rfl⟩;rintro J Φ hJ hΦ n CT H1 K ⟨i,hi,k8,rfl,hr'⟩;have C6:=K.1.trans hl;have hwr:(ixB sz).wr=[9,10,5,11,12,13,14,15,16,17,4,18,8]:=rfl;rw[hwr]at K;have k0:=D4 K 0 h0;have k1:=D4 K 1 h1;have k7:=D4 K 7 h7;clear K hwr;by_cases C2:i<l.length
 .have L4:=J6 i a_;have hx:=J5 (f:=V) (zf4z C2);have hW:=H l[i] (zt3z C2);rw[zg2z C2]at hr';simp only[EX]at hr';obtain⟨cs,Au,IN,hcf'⟩:=hV l[i];generalize l[i]=a at *
  rw[Au]at hx hW;have hcc:M9 (.agg cs)=true:=hcf';have hz:AX H1 true (.agg cs::caps)=some (.agg cs::caps):=JW H1 true (by rw[List.all_cons,hcc,hcf];rfl);have htk:cs.take sz=cs:=List.take_of_length_le a_;have OK:sz<=cs.length:=by omega
  cases hb:p a with
  |true =>
   rw[hb]at hW;rw[if_pos hb]at hr';simp[ixB,C6,k0,k1,k7,k8,C2,L4,hx,hr,hz,hW,htk,OK,IN];exact hΦ _ _ _ ⟨rfl,.inr ⟨rfl,by simp[C6];exact hr'⟩⟩
  |false =>
   rw[hb]at hW;rw[if_neg (by rw[hb];simp)]at hr';simp[ixB,C6,k0,k1,k7,k8,C2,L4,hx,hr,hz,hW,htk,OK,IN];exact V6 hJ ⟨i+1,a_,d_,rfl,hr'⟩
 .rw[zg5z a_]at hr';simp[ixB,C6,k0,k1,k7,k8,C2];exact hΦ _ _ _ ⟨rfl,.inl ⟨rfl,hr'.symm⟩⟩
theorem aZ(hc:L3 f=some (ixF sz))(hs:Lo f=none)(hV:∀a,∃cs,V a=.agg cs/\cs.length=sz/\cs.all AV.flat=true)(hcf:caps.all M9=true):pc Q f [sl m sz (l.map V),.fn g caps]=some (.int .i64 (idx p l)):=by
 refine gu hc hs (by simp[ixF]) λfr hl ha=>?_;have h0:=ha 0;have h1:=ha 1;clear ha;simp[ixF]at hl h0 h1;simp[ixF,hl,h0,h1];refine D7.mono (kx V sz p f g caps hr m l D6 H hV hcf _ _ ?_ ?_ ?_ ?_ ?_) ?_<;>first|(simp[hl,h0,h1];done)|skip
 rintro e B8 h' ⟨K,-,⟨rfl,he⟩|⟨rfl,h4⟩⟩
 .have hl':B8.length=19:=K.1.trans c_;simp[hl',he]
 .simp[h4]
theorem rc_ixG(hc:L3 f=some (ixF sz))(hrst:(B1 f).rst=false)(hV:∀a,∃cs,V a=.agg cs/\cs.length=sz/\cs.all AV.flat=true)(hcf:caps.all M9=true)(h:AH):rc Q f [sl m sz (l.map V),.fn g caps] h=some (.int .i64 (idx p l),h):=by
 suffices hq:∃v h',rc Q f [sl m sz (l.map V),.fn g caps] h=some (v,h')/\(v=.int .i64 (idx p l)/\h'=h) by
  obtain⟨v,h',h1,rfl,rfl⟩:=hq;exact h1
 refine rcQ hc (by simp[ixF]) (λfr hl ha=>?_) hrst;have h0:=ha 0;have h1:=ha 1;clear ha;simp[ixF]at hl h0 h1;simp[ixF,hl,h0,h1];refine D7.mono (kx V sz p f g caps hr m l D6 H hV hcf _ _ ?_ ?_ ?_ ?_ ?_) ?_<;>first|(simp[hl,h0,h1];done)|skip
 rintro e B8 h' ⟨K,rfl,⟨rfl,he⟩|⟨rfl,h4⟩⟩
 .have hl':B8.length=19:=K.1.trans c_;simp[hl',he]
 .simp[h4]
theorem wS(hV:∀a,(V a).cells=[V a]/\(V a).flat=true/\∀h,frz h true (V a)=some (V a))(hcf:caps.all M9=true)(fr:Fr)(h:AH)(hl:fr.length=19)(h0:B2 fr 0=sl m 1 (l.map V))(h1:B2 fr 1=.fn g caps)(h7:B2 fr 7=.int .i64 l.length)(h8:B2 fr 8=.int .i64 0) :
  D7 (lp (A8 (m6 Q) (B1 f) wL) (fr,h)) λe B8 h'=>Kp wL.wr fr B8/\(e=.exit 0/\idx p l=-1\/e=.ret/\B2 B8 4=.int .i64 (idx p l)):=by
 refine E9 rfl fr (λn fr h'=>∃(i:Nat),i+n=l.length/\B2 fr 8=.int .i64 (i:Nat)/\EX p i (l.drop i)=idx p l) ?_ l.length h ⟨0,a_,h8,rfl⟩;rintro J Φ hJ hΦ n CT H1 K ⟨i,hi,k8,hr'⟩;have C6:=K.1.trans hl;have k0:=D4 K 0 h0;have k1:=D4 K 1 h1;have k7:=D4 K 7 h7;clear K;by_cases C2:i<l.length
 .have L4:=J6 i a_;have hx:=J5 (f:=V) (zf4z C2);have hW:=H l[i] (zt3z C2);rw[zg2z C2]at hr';simp only[EX]at hr';obtain⟨Au,hcf',hz1⟩:=hV l[i];generalize l[i]=a at *
  have hz:AX H1 true (V a::caps)=some (V a::caps):=by
   simp only[kQ,hz1,JW H1 true hcf,Option.bind_some,zf9z]
  cases hb:p a with
  |true =>
   rw[hb]at hW;rw[if_pos hb]at hr';simp[wL,C6,k0,k1,k7,k8,C2,L4,hx,hr,hz,hW,Au];exact hΦ _ _ _ (.inr ⟨rfl,by simp[C6];exact hr'⟩)
  |false =>
   rw[hb]at hW;rw[if_neg (by rw[hb];simp)]at hr';simp[wL,C6,k0,k1,k7,k8,C2,L4,hx,hr,hz,hW,Au];exact V6 hJ ⟨i+1,a_,d_,hr'⟩
 .rw[zg5z a_]at hr';simp[wL,C6,k0,k1,k7,k8,C2];exact hΦ _ _ _ (.inl ⟨rfl,hr'.symm⟩)
theorem pc_ixG1(hc:L3 f=some ixF1)(hs:Lo f=none)(hV:∀a,(V a).cells=[V a]/\(V a).flat=true/\∀h,frz h true (V a)=some (V a))(hcf:caps.all M9=true):pc Q f [sl m 1 (l.map V),.fn g caps]=some (.int .i64 (idx p l)):=by
 refine gu hc hs (by simp[ixF1]) λfr hl ha=>?_;have h0:=ha 0;have h1:=ha 1;clear ha;simp[ixF1]at hl h0 h1;simp[ixF1,hl,h0,h1];refine D7.mono (wS V p f g caps hr m l D6 H hV hcf _ _ ?_ ?_ ?_ ?_ ?_) ?_<;>first|(simp[hl,h0,h1];done)|skip
 rintro e B8 h' ⟨K,⟨rfl,he⟩|⟨rfl,h4⟩⟩
 .have hl':B8.length=19:=K.1.trans c_;simp[hl',he]
 .simp[h4]
end
theorem pz{α:Type}(p:α->Bool)(l:List α)(f f' g:FuncId)(caps:b9)(X:AV)(hX:∀h,frz h true X=some X)(hc:L3 f=some (ctF f'))(hs:Lo f=none)(hr:(B1 f).raw f'=false)(hcf:caps.all AV.flat=true)(HI:pc Q f' [X,.fn g caps]=some (.int .i64 (idx p l))) :
  pc Q f [X,.fn g caps]=some (.bool (l.any p)):=by
 have he:decide (0<=idx p l)=l.any p:=by
  rw[zt4z,decide_eq_true_iff,idx,Qp]
 have hz:∀h,frz h true (.fn g caps)=some (.fn g caps):=λh=>by
  show (if caps.all AV.flat then some (AV.fn g caps)else none)=_
  rw[if_pos hcf]
 refine gu hc hs (by simp[ctF]) λfr hl ha=>?_;have h0:=ha 0;have h1:=ha 1;clear ha;simp[ctF]at hl h0 h1;simp[ctF,hl,h0,h1,hr,hX,hz,HI];exact he
theorem rc_ctG{α:Type}(p:α->Bool)(l:List α)(f f' g:FuncId)(caps:b9)(X:AV)(hc:L3 f=some (ctF f'))(hrst:(B1 f).rst=false)(hr:(B1 f).raw f'=true)(hnb:K4 f'=false)(h:AH)(HI:rc Q f' [X,.fn g caps] h=some (.int .i64 (idx p l),h)) :
  rc Q f [X,.fn g caps] h=some (.bool (l.any p),h):=by
 have he:decide (0<=idx p l)=l.any p:=by
  rw[zt4z,decide_eq_true_iff,idx,Qp]
 suffices hq:∃v h',rc Q f [X,.fn g caps] h=some (v,h')/\(v=.bool (l.any p)/\h'=h) by
  obtain⟨v,h',h1,rfl,rfl⟩:=hq;exact h1
 refine rcQ hc (by simp[ctF]) (λfr hl ha=>?_) hrst;have h0:=ha 0;have h1:=ha 1;clear ha;simp[ctF]at hl h0 h1;simp[ctF,hl,h0,h1,hr,hnb,HI];exact he
end Go.Abs.Q
namespace Go.Abs
def IT(wr:Bool)(sz:Nat)(xs:List AV)(v:AV)(h:AH):Prop:=(∃b,v=sl (true,b) sz xs)\/(xs≠[]/\∃k,v=.sl k xs.length 0 xs.length/\h.fams[k]?=some ⟨xs,sz,wr⟩)
theorem Qd(wr:Bool)(sz:Nat)(h:AH):IT wr sz [] (.vs true 0 []) h:=.inl ⟨false,by simp[sl]⟩
theorem ZL(wr:Bool)(sz:Nat)(xs:b9)(b:Bool)(h:AH):IT wr sz xs (sl (true,b) sz xs) h:=.inl ⟨b,rfl⟩
theorem Fp{wr:Bool}{sz:Nat}{xs:b9}{v:AV}{h h':AH}(hg:IT wr sz xs v h)(e:h'.fams=h.fams):IT wr sz xs v h':=by
 rcases hg with hg|⟨h1,k,h2,h3⟩
 .exact .inl hg
 .exact .inr ⟨h1,k,h2,by rw[e];exact h3⟩
theorem OX{c:Ctx}{sz bytes:Nat}{xs ys:b9}{v x:AV}{h:AH}(hg:IT c.mutApp sz xs v h)(hx:elems h sz x=some ys)(hb:(xs.length+ys.length)*bytes<=K7/\xs.length+ys.length<=maxLen) :
  ∃v' F',N0 c h sz bytes v x=some (v',⟨h.boxes,F'⟩)/\IT c.mutApp sz (xs++ys) v' ⟨h.boxes,F'⟩/\∀j,j<h.fams.length->(∀n o l,v≠.sl j n o l)->F'[j]?=h.fams[j]?:=by
 rcases hg with ⟨b,rfl⟩|⟨AS,k,rfl,hk⟩
 .simp only[sl,N0,q9,hx];by_cases hy:ys.length=0
  .rw[if_pos hy];have:ys=[]:=zg0z hy;subst this;exact⟨_,h.fams,rfl,.inl ⟨b,by simp[sl]⟩,λ_ _ _=>rfl⟩
  .rw[if_neg hy];have hc:((if (xs.isEmpty&&!b)=true then 0 else sz)=sz\/xs.length=0)/\(xs.length+ys.length)*bytes<=K7/\xs.length+ys.length<=maxLen:=by
    refine⟨?_,hb⟩;cases xs with
    |nil=>exact .inr rfl
    |cons a l=>exact .inl rfl
   rw[if_pos hc];refine⟨_,_,rfl,.inr ⟨by intro e;rw[zf2z]at e;rw[e.2]at hy;exact hy rfl,h.fams.length,by rw[zf5z],e_⟩,λj hj _=>zg3z hj⟩
 .simp only[N0,q9,hx,hk];rw[if_pos ⟨trivial,trivial,a_,hb.1,hb.2⟩];have Qc:=(zf0z.1 hk).1;refine⟨_,_,rfl,.inr ⟨by intro e;rw[zf2z]at e;exact AS e.1,k,by rw[zf5z],by simp[Qc]⟩,λj hj hv=>?_⟩;have:k≠j:=λe=>hv _ _ _ (by rw[e]);exact zf1z this
theorem CS{wr:Bool}{sz:Nat}{xs:b9}{v:AV}{h:AH}(hg:IT wr sz xs v h):∃m:Bool×Bool,∀(B:List (List AV)) (am:Bool),(am||!wr)=true->frz ⟨B,h.fams⟩ am v=some (sl m sz xs)/\Cr ⟨B,h.fams⟩ am v=some (sl m sz xs):=by
 rcases hg with ⟨b,rfl⟩|⟨AS,k,rfl,hk⟩
 .exact⟨(true,b),λB am _=>⟨rfl,rfl⟩⟩
 .have he:xs.isEmpty=false:=by cases xs with
   |nil=>exact absurd rfl AS
   |cons a l=>rfl
  refine⟨(false,true),λB am ha=>?_⟩;have:Cr ⟨B,h.fams⟩ am (.sl k xs.length 0 xs.length)=some (sl (false,true) sz xs):=by
   simp only[Cr,hk];rw[if_pos ⟨trivial,a_,ha⟩];simp[sl,he]
  exact⟨this,this⟩
theorem VB{wr:Bool}{sz:Nat}{xs:b9}{v:AV}{h:AH}(hg:IT wr sz xs v h):∃m:Bool×Bool,∀B:List (List AV),Gj ⟨B,h.fams⟩ v=some (sl m sz xs):=by
 obtain⟨m,hm⟩:=CS hg;refine⟨m,λB=>?_⟩;have:=(hm B true rfl).1;rcases hg with ⟨b,rfl⟩|⟨_,k,rfl,_⟩<;>exact this
theorem Rh{sz:Nat}{xs:b9}{v:AV}{h:AH}(hg:IT false sz xs v h)(B:List (List AV)):tame ⟨B,h.fams⟩ v=true:=by
 rcases hg with ⟨b,rfl⟩|⟨AS,k,rfl,hk⟩
 .rfl
 .show (match h.fams[k]? with|some f=>!f.wr|none=>false)=true
  rw[hk];rfl
theorem L5{wr:Bool}{sz:Nat}{xs:b9}{v:AV}{h:AH}(hg:IT wr sz xs v h):v.isTup=false/\v.cells=[v]/\BE [v]=false/\Ox v=true:=by
 rcases hg with ⟨b,rfl⟩|⟨_,k,rfl,_⟩<;>exact⟨rfl,rfl,rfl,rfl⟩
theorem OY{wr:Bool}{sz:Nat}{xs:b9}{v:AV}{h:AH}(hg:IT wr sz xs v h)(h':AH):oh h' v=some (.int .i64 xs.length,h'):=by
 rcases hg with ⟨b,rfl⟩|⟨_,k,rfl,_⟩<;>rfl
theorem dN{wr:Bool}{sz:Nat}{xs:b9}{v:AV}{h:AH}(hg:IT wr sz xs v h)(B:List (List AV)):elems ⟨B,h.fams⟩ sz v=some xs:=by
 rcases hg with ⟨b,rfl⟩|⟨AS,k,rfl,hk⟩
 .exact W0 _ _ _ _
 .simp[elems,hk]
def BI(v w:AV):Prop:=∀j n o l n' o' l',v=.sl j n o l->w=.sl j n' o' l'->False
theorem BI.symm{v w:AV}(h:BI v w):BI w v:=λj n o l n' o' l' e e'=>h j n' o' l' n o l e' e
theorem Gt{c:Ctx}{sz bytes:Nat}{xs ys:b9}{v x:AV}{h:AH}(hg:IT c.mutApp sz xs v h)(hx:elems h sz x=some ys)(hb:(xs.length+ys.length)*bytes<=K7/\xs.length+ys.length<=maxLen) :
  ∃v' F',(∀BB,N0 c ⟨BB,h.fams⟩ sz bytes v x=some (v',⟨BB,F'⟩))/\(∀BB,IT c.mutApp sz (xs++ys) v' ⟨BB,F'⟩)/\∀(wr:Bool) (s:Nat) (ws:List AV) (w:AV),IT wr s ws w h->BI v w->(∀BB,IT wr s ws w ⟨BB,F'⟩)/\BI v' w:=by
 have hx':∀BB,elems ⟨BB,h.fams⟩ sz x=some ys:=λBB=>(Qi rfl sz x).trans hx;rcases hg with ⟨b,rfl⟩|⟨AS,k,rfl,hk⟩
 .by_cases hy:ys.length=0
  .have:ys=[]:=zg0z hy;subst this;refine⟨sl (true,b) sz xs,h.fams,λBB=>?_,λBB=>.inl ⟨b,e_⟩,λwr s ws w hw _=>⟨λBB=>Fp hw rfl,λj n o l n' o' l' e=>nomatch e⟩⟩;simp only[sl,N0,q9,hx' BB];rw[if_pos hy]
  .have hc:((if (xs.isEmpty&&!b)=true then 0 else sz)=sz\/xs.length=0)/\(xs.length+ys.length)*bytes<=K7/\xs.length+ys.length<=maxLen:=by
    refine⟨?_,hb⟩;cases xs with
    |nil=>exact .inr rfl
    |cons a l=>exact .inl rfl
   refine⟨.sl h.fams.length (xs.length+ys.length) 0 (xs.length+ys.length),h.fams++[⟨xs++ys,sz,c.mutApp⟩],λBB=>?_,λBB=>.inr ⟨by intro e;rw[zf2z]at e;rw[e.2]at hy;exact hy rfl,h.fams.length,by rw[zf5z],e_⟩,λwr s ws w hw _=>?_⟩
   .simp only[sl,N0,q9,hx' BB];rw[if_neg hy,if_pos hc]
   rcases hw with ⟨b',rfl⟩|⟨hne',k',rfl,Ef⟩
   .exact⟨λBB=>.inl ⟨b',rfl⟩,λj n o l n' o' l' _ e=>nomatch e⟩
   .have C2:=(zf0z.1 Ef).1;refine⟨λBB=>.inr ⟨hne',k',rfl,by simp only;rw[zg3z C2];exact Ef⟩,λj n o l n' o' l' e e'=>?_⟩;cases e;cases e';omega
 .have Qc:=(zf0z.1 hk).1;refine⟨.sl k (xs.length+ys.length) 0 (xs.length+ys.length),h.fams.set k ⟨xs++ys,sz,c.mutApp⟩,λBB=>?_,λBB=>.inr ⟨by intro e;rw[zf2z]at e;exact AS e.1,k,by rw[zf5z],by simp[Qc]⟩,λwr s ws w hw hap=>?_⟩
  .simp only[N0,q9,hx' BB,hk];rw[if_pos ⟨trivial,trivial,a_,hb.1,hb.2⟩]
  rcases hw with ⟨b',rfl⟩|⟨hne',k',rfl,Ef⟩
  .exact⟨λBB=>.inl ⟨b',rfl⟩,λj n o l n' o' l' _ e=>nomatch e⟩
  .have Qo:k≠k':=λe=>hap k _ _ _ _ _ _ rfl (by rw[e]);refine⟨λBB=>.inr ⟨hne',k',rfl,by simp only;rw[zf1z Qo];exact Ef⟩,λj n o l n' o' l' e e'=>?_⟩;cases e;cases e';exact Qo rfl
structure GE where
 gr:Bool
 sz:Nat
 xs:List AV
 v:AV
def GE.Ok(h:AH)(e:GE):Prop:=IT false e.sz e.xs e.v h\/(e.gr=false/\∃m,e.v=sl m e.sz e.xs)
theorem GE.Ok.lsa{h:AH}{e:GE}(k:e.Ok h)(hg:e.gr=true):IT false e.sz e.xs e.v h:=by
 rcases k with k|⟨k,_⟩
 .exact k
 .rw[hg]at k;cases k
structure GLs (h:AH) (l:List GE):Prop where
 ok:∀e∈l,e.Ok h
 ap:∀(i j:Nat) (a b:GE),i≠j->l[i]?=some a->l[j]?=some b->BI a.v b.v
theorem GE.Ok.fams{h h':AH}{e:GE}(k:e.Ok h)(he:h'.fams=h.fams):e.Ok h':=by
 rcases k with k|k
 .exact .inl (Fp k he)
 .exact .inr k
theorem GLs.fams{h h':AH}{l:List GE}(hg:GLs h l)(e:h'.fams=h.fams):GLs h' l:=⟨λx hx=>(hg.ok x hx).fams e,hg.ap⟩
theorem GLs.get{h:AH}{l:List GE}(hg:GLs h l){i:Nat}{e:GE}(hi:l[i]?=some e):e.Ok h:=hg.ok _ (zg8z hi)
theorem GLs.app{c:Ctx}(hc:c.mutApp=false){h:AH}{l:List GE}(hg:GLs h l){i sz bytes:Nat}{xs ys:b9}{v x:AV}(hi:l[i]?=some ⟨true,sz,xs,v⟩)(hx:elems h sz x=some ys)(hb:(xs.length+ys.length)*bytes<=K7/\xs.length+ys.length<=maxLen) :
  ∃v' F',(∀BB,N0 c ⟨BB,h.fams⟩ sz bytes v x=some (v',⟨BB,F'⟩))/\∀BB,GLs ⟨BB,F'⟩ (l.set i ⟨true,sz,xs++ys,v'⟩):=by
 have h1:IT c.mutApp sz xs v h:=by rw[hc];exact(hg.get hi).lsa rfl
 obtain⟨v',F',a1,a2,a3⟩:=Gt h1 hx hb;rw[hc]at a2;have hil:=(zf0z.1 hi).1;have other:∀(j:Nat) (b:GE),j≠i->l[j]?=some b->(∀BB,b.Ok ⟨BB,F'⟩)/\BI v' b.v:=λj b hj hb'=>by
  have hap:=hg.ap i j _ b (Ne.symm hj) hi hb';rcases hg.get hb' with k|⟨k1,m,k2⟩
  .obtain⟨q1,q2⟩:=a3 _ _ _ _ k hap;exact⟨λBB=>.inl (q1 BB),q2⟩
  .exact⟨λBB=>.inr ⟨k1,m,k2⟩,λ_ _ _ _ _ _ _ _ e=>by rw[k2]at e;cases e⟩
 refine⟨v',F',a1,λBB=>⟨λe he=>?_,λp q a b hpq hp hq=>?_⟩⟩
 .obtain⟨j,hj⟩:=zg7z he;by_cases hij:i=j
  .subst hij;rw[zf6z hil]at hj;cases hj;exact .inl (a2 BB)
  .rw[zf1z hij]at hj;exact(other j e (Ne.symm hij) hj).1 BB
 .by_cases hip:i=p
  .subst hip;rw[zf6z hil]at hp;cases hp;rw[zf1z hpq]at hq;exact(other q b (Ne.symm hpq) hq).2
  .rw[zf1z hip]at hp;by_cases hiq:i=q
   .subst hiq;rw[zf6z hil]at hq;cases hq;exact(other p a (Ne.symm hip) hp).2.symm
   .rw[zf1z hiq]at hq;exact hg.ap p q a b hpq hp hq
theorem Ed(v:AV)(m:Gg)(sz:Nat)(xs:b9):BI v (sl m sz xs):=λ_ _ _ _ _ _ _ _ e=>nomatch e
theorem GLs.lit{h:AH}{l:List GE}(hg:GLs h l)(i sz:Nat)(m:Gg)(xs:b9):GLs h (l.set i ⟨false,sz,xs,sl m sz xs⟩):=by
 refine⟨λe he=>?_,λp q a b hpq hp hq=>?_⟩
 .obtain⟨j,hj⟩:=zg7z he;rw[zt2z]at hj;split at hj
  .split at hj
   .cases hj;exact .inr ⟨rfl,m,rfl⟩
   .cases hj
  .exact hg.get hj
 .rw[zt2z]at hp hq;split at hp
  .split at hp
   .cases hp;exact(Ed _ _ _ _).symm
   .cases hp
  .split at hq
   .split at hq
    .cases hq;exact Ed _ _ _ _
    .cases hq
   .exact hg.ap p q a b hpq hp hq
theorem GLs.cons{h:AH}{l:List GE}(hg:GLs h l)(sz:Nat)(b:Bool)(xs:b9):GLs h (⟨true,sz,xs,sl (true,b) sz xs⟩::l):=by
 refine⟨λe he=>?_,λp q a b hpq hp hq=>?_⟩
 .rcases zt0z.1 he with rfl|he
  .exact .inl (.inl ⟨b,rfl⟩)
  .exact hg.ok e he
 .cases p with
  |zero=>cases hp;exact(Ed _ _ _ _).symm
  |succ p =>
   cases q with
   |zero=>cases hq;exact Ed _ _ _ _
   |succ q=>exact hg.ap p q a b a_ hp hq
theorem GLs.tail{h:AH}{e:GE}{l:List GE}(hg:GLs h (e::l)):GLs h l:=⟨λx hx=>hg.ok x (List.mem_cons_of_mem _ hx),λi j a b hij hi hj=>hg.ap (i+1) (j+1) a b a_ hi hj⟩
theorem GLs.nil(h:AH):GLs h []:=⟨(λ_ he=>nomatch he),λi j a b _ hi=>by simp at hi⟩
theorem GE.Ok.frz{h:AH}{e:GE}(k:e.Ok h):∃m:Bool×Bool,∀(B:List (List AV)) (am:Bool),Go.Abs.frz ⟨B,h.fams⟩ am e.v=some (sl m e.sz e.xs)/\Cr ⟨B,h.fams⟩ am e.v=some (sl m e.sz e.xs):=by
 rcases k with k|⟨_,m,k⟩
 .obtain⟨m,hm⟩:=CS k;exact⟨m,λB am=>hm B am (by cases am<;>rfl)⟩
 .exact⟨m,λB am=>by rw[k];exact⟨rfl,rfl⟩⟩
theorem GE.Ok.tame{h:AH}{e:GE}(k:e.Ok h)(B:List (List AV)):Go.Abs.tame ⟨B,h.fams⟩ e.v=true:=by
 rcases k with k|⟨_,m,k⟩
 .exact Rh k B
 .rw[k];rfl
theorem GE.Ok.cells{h:AH}{e:GE}(k:e.Ok h):e.v.isTup=false/\e.v.cells=[e.v]:=by
 rcases k with k|⟨_,m,k⟩
 .exact⟨(L5 k).1,(L5 k).2.1⟩
 .rw[k];exact⟨rfl,rfl⟩
theorem GE.Ok.len{h:AH}{e:GE}(k:e.Ok h)(h':AH):oh h' e.v=some (.int .i64 e.xs.length,h'):=by
 rcases k with k|⟨_,m,k⟩
 .exact OY k h'
 .rw[k];rfl
theorem GE.Ok.elems{h:AH}{e:GE}(k:e.Ok h)(B:List (List AV)):Go.Abs.elems ⟨B,h.fams⟩ e.sz e.v=some e.xs:=by
 rcases k with k|⟨_,m,k⟩
 .exact dN k B
 .rw[k];exact W0 _ _ _ _
theorem GLs.one{h:AH}{sz:Nat}{xs:b9}{v:AV}(hg:IT false sz xs v h):GLs h [⟨true,sz,xs,v⟩]:=by
 refine⟨λe he=>?_,λi j a b hij hi hj=>?_⟩
 .rw[zg1z]at he;subst he;exact .inl hg
 .exfalso
  have h1:=(zf0z.1 hi).1;have h2:=(zf0z.1 hj).1;simp at h1 h2;omega
theorem Ay{wr:Bool}{sz:Nat}{xs:b9}{v:AV}{h:AH}(hg:IT wr sz xs v h){i:Nat}{x:AV}(hx:xs[i]?=some x) :
  (∀BB,iaA ⟨BB,h.fams⟩ sz v (.int .i64 (i:Nat))=some (.pv x.cells,⟨BB,h.fams⟩))\/∃k,(∀BB,iaA ⟨BB,h.fams⟩ sz v (.int .i64 (i:Nat))=some (.ep k xs.length i 0 sz,⟨BB,h.fams⟩))/\h.fams[k]?=some ⟨xs,sz,wr⟩:=by
 have hi:=(zf0z.1 hx).1;rcases hg with ⟨b,rfl⟩|⟨AS,k,rfl,hk⟩
 .refine .inl λBB=>?_;have hn:KW xs i=some x:=by simp[KW,hx]
  have he:xs.isEmpty=false:=by cases xs with
   |nil=>simp at hi
   |cons a l=>rfl
  simp[hn,he]
 .exact .inr ⟨k,λBB=>by simp[hi],hk⟩
theorem jS{wr:Bool}{sz:Nat}{xs:b9}{v:AV}{B B':List (List AV)}{F F':List Fam}(h:IT wr sz xs v ⟨B,F⟩)(hF:∀j,j<F.length->F'[j]?=F[j]?):IT wr sz xs v ⟨B',F'⟩:=by
 rcases h with h|⟨h1,k,h2,h3⟩
 .exact .inl h
 .exact .inr ⟨h1,k,h2,(hF k (zf0z.1 h3).1).trans h3⟩
end Go.Abs
namespace Go.Abs.Q
open Go.Proofs
attribute [local simp] E5 E6 fin J4 H8
mutual
def rawE:Tm->Int
 | .mk k nm s _ l=>if k=1\/s≠0 then 10 else if lexN nm=false then 2 else rawEs l
def rawEs:List Tm->Int
 | []=>0
 |t::l=>if rawE t≠0 then rawE t else rawEs l
end
theorem Oy:∀{l:Be},W5 l=0->∀t∈l,Q7 t=0
 | [],_,t,ht=>by cases ht
 |b::l,h,t,ht=>by
  simp only[W5]at h;by_cases hb:Q7 b=0
  .rw[if_neg (by simp[hb])]at h;rcases zt0z.1 ht with rfl|ht
   .exact hb
   .exact Oy h t ht
  .rw[if_pos hb]at h;exact absurd h hb
structure Gol where
 kind:Int
 role:ByteArray
 wth:ByteArray
 dm:Bool×Bool
 data:List Tm
 line:Int
structure Fre where
 role:ByteArray
 name:ByteArray
 sort:Int
structure Ste where
 frm:ByteArray
 to:ByteArray
 msg:Tm
 line:Int
structure Nar where
 name:ByteArray
 rm:Bool×Bool
 roles:List ByteArray
 fm:Bool×Bool
 fresh:List Fre
 tm:Bool×Bool
 tags:List ByteArray
 sm:Bool×Bool
 steps:List Ste
 gm:Bool×Bool
 goals:List Gol
structure Fine (n:Nar):Prop where
 name:n.name.size<=1099511627776
 roles:∀s∈n.roles,s.size<=1099511627776
 rolesL:n.roles.length<=1099511627776
 fresh:∀f∈n.fresh,f.role.size<=1099511627776/\f.name.size<=1099511627776
 freshL:n.fresh.length<=1099511627776
 tags:∀s∈n.tags,s.size<=1099511627776
 tagsL:n.tags.length<=1099511627776
 steps:∀s∈n.steps,s.frm.size<=1099511627776/\s.to.size<=1099511627776/\s.msg.size<=1099511627776
 stepsL:n.steps.length<=1099511627776
 goals:∀g∈n.goals,g.role.size<=1099511627776/\g.wth.size<=1099511627776/\Tm.sizes g.data<=1099511627776
 goalsL:n.goals.length<=1099511627776
end Go.Abs.Q
namespace Go.Abs
section
variable {O:Orc} {c:Ctx} {d:Option Nat} {op:ROp} {C9:List RO} {fr:Fr} {h:AH} {Ψ:Ex->Fr->AH->Prop}
theorem Q3(b:Bool){x y:RCode}:D7 (brn (.bool b) O c x y fr h) Ψ=((b=true->D7 (A8 O c x (fr,h)) Ψ)/\(b=false->D7 (A8 O c y (fr,h)) Ψ)):=by
 cases b<;>simp
end
def Tm.kind:Tm->Int | .mk k _ _ _ _=>k
def Tm.name:Tm->ByteArray | .mk _ n _ _ _=>n
def Tm.sort:Tm->Int | .mk _ _ s _ _=>s
def Tm.cm:Tm->Bool×Bool | .mk _ _ _ m _=>m
def Tm.kids:Tm->List Tm | .mk _ _ _ _ l=>l
@[simp]theorem I7(t:Tm):(I8 t).cells=[.int .i64 t.kind,.str t.name,.int .i64 t.sort,sl t.cm 4 (C4 t.kids)]:=by cases t;rfl
@[simp]theorem G9(t:Tm):AV.agg [.int .i64 t.kind,.str t.name,.int .i64 t.sort,sl t.cm 4 (C4 t.kids)]=I8 t:=by cases t;rfl
@[simp]theorem tm_isTup(t:Tm):(I8 t).isTup=false:=by cases t;rfl
@[simp]theorem tm_frz(h:AH)(am:Bool)(t:Tm):frz h am (I8 t)=some (I8 t):=by cases t;rfl
@[simp]theorem tm_tame(h:AH)(t:Tm):tame h (I8 t)=true:=by cases t;rfl
@[simp]theorem tm_frzRes(h:AH)(t:Tm):Gj h (I8 t)=some (I8 t):=by cases t;rfl
theorem Tm.kids_size(t:Tm):t.size=1+Tm.sizes t.kids:=by cases t;rfl
@[simp]theorem lenA_vs(h:AH)(f:Bool)(sz:Nat)(xs:b9):oh h (.vs f sz xs)=some (.int .i64 xs.length,h):=rfl
@[simp]theorem boundA_n(fr:Fr):AA fr none=some none:=rfl
@[simp]theorem boundA_c(fr:Fr)(k:IntKind)(i:Int):AA fr (some (.c (.int k i)))=some (some i):=rfl
@[simp]theorem boundA_t(fr:Fr)(n:Nat):AA fr (some (.t n))=(match B2 fr n with | .int _ i=>some (some i)|_=>none):=rfl
namespace Q
end Q
end Go.Abs
