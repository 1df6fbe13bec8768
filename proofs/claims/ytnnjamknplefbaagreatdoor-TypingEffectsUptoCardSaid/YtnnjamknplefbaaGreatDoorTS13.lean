/- A part of the proof. -/
import Derived.Test.YtnnjamknplefbaaGreatDoorTS12
set_option linter.all false
open List renaming getElem?_eq_some_iff->zf0z,getElem?_eq_none->zf1z,getElem?_append_left->zf2z,all_cons->zf3z,replicate->zf5z,getElem?_set_ne->zf6z,ext_getElem?->zf8z
open Bool renaming and_eq_true->zf4z,false_eq_true->zf7z
open Nat renaming lt_trichotomy->zf9z
open Option renaming map_some->zg0z
set_option linter.all false
namespace Go.Abs
def cB(h:AH):Option Nat->Nat×Option (List AV)
 |none=>(h.boxes.length,none)
 |some i=>(0,h.boxes[i]?)
def cF(h:AH):Option Nat->Nat×Option Fam
 |none=>(h.fams.length,none)
 |some i=>(0,h.fams[i]?)
def AgL(r:Option (List (Option Nat)))(P:Option Nat->Prop):Prop:=match r with|none=>∀x,P x|some L=>∀x∈L,P x
theorem Up{h h':AH}(H:∀x,cB h' x=cB h x):h'.boxes=h.boxes:=zf8z λi=>by have:=H (some i);simpa[cB]using this
theorem Zv{h h':AH}(H:∀x,cF h' x=cF h x):h'.fams=h.fams:=zf8z λi=>by have:=H (some i);simpa[cF]using this
theorem Zd{h h':AH}(e:h'.boxes=h.boxes)(x:Option Nat):cB h' x=cB h x:=by cases x<;>simp[cB,e]
theorem Ze{h h':AH}(e:h'.fams=h.fams)(x:Option Nat):cF h' x=cF h x:=by cases x<;>simp[cF,e]
def jz(h h1 h' Da:AH):Prop:=∀x,(cB h1 x=cB h x->cB Da x=cB h' x)/\(cB h1 x≠cB h x->cB Da x=cB h1 x)
def kA(h h1 h' Da:AH):Prop:=∀x,(cF h1 x=cF h x->cF Da x=cF h' x)/\(cF h1 x≠cF h x->cF Da x=cF h1 x)
section
variable {h h1 h' Da:AH}
theorem nL(e1:h'.boxes=h.boxes)(e2:Da.boxes=h1.boxes):jz h h1 h' Da:=λx=>⟨λe=>by rw[Zd e2,e,Zd e1],λ_=>Zd e2 x⟩
theorem nM(e1:h'.fams=h.fams)(e2:Da.fams=h1.fams):kA h h1 h' Da:=λx=>⟨λe=>by rw[Ze e2,e,Ze e1],λ_=>Ze e2 x⟩
theorem BI(e1:h1.boxes=h.boxes)(e2:Da.boxes=h'.boxes):jz h h1 h' Da:=λx=>⟨λ_=>Zd e2 x,λe=>absurd (Zd e1 x) e⟩
theorem r8(e1:h1.fams=h.fams)(e2:Da.fams=h'.fams):kA h h1 h' Da:=λx=>⟨λ_=>Ze e2 x,λe=>absurd (Ze e1 x) e⟩
theorem Nf{b:Nat}{cs old:I7}(e1:h1.boxes=h.boxes.set b cs)(e2:Da.boxes=h'.boxes.set b cs)(hb:h.boxes[b]?=some old)(hb':h'.boxes[b]?=some old):jz h h1 h' Da:=by
 have l1:=(zf0z.1 hb).1;have l2:=(zf0z.1 hb').1;intro x;cases x with
 |none=>simp[cB,e1,e2]
 |some i =>
  by_cases hi:b=i
  .subst hi;have g1:=(zf0z.1 hb).2;have g2:=(zf0z.1 hb').2;simp[cB,e1,e2,l1,l2,g1,g2]
  .simp[cB,e1,e2,zf6z hi]
theorem Qx{b:Nat}{f old:Fam}(e1:h1.fams=h.fams.set b f)(e2:Da.fams=h'.fams.set b f)(hb:h.fams[b]?=some old)(hb':h'.fams[b]?=some old):kA h h1 h' Da:=by
 have l1:=(zf0z.1 hb).1;have l2:=(zf0z.1 hb').1;intro x;cases x with
 |none=>simp[cF,e1,e2]
 |some i =>
  by_cases hi:b=i
  .subst hi;have g1:=(zf0z.1 hb).2;have g2:=(zf0z.1 hb').2;simp[cF,e1,e2,l1,l2,g1,g2]
  .simp[cF,e1,e2,zf6z hi]
theorem Qw{cs:I7}(e1:h1.boxes=h.boxes++[cs])(e2:Da.boxes=h'.boxes++[cs])(hl:h'.boxes.length=h.boxes.length):jz h h1 h' Da:=by
 intro x;cases x with
 |none=>simp[cB,e1,e2,hl]
 |some i =>
  rcases zf9z i h.boxes.length with h3|h3|h3
  .have h4:i<h'.boxes.length:=by omega
   simp[cB,e1,e2,zf2z h3,zf2z h4]
  .subst h3;simp[cB,e1,e2,←hl]
  .simp[cB,e1,e2,zf1z (l:=h.boxes) (i:=i) (by omega),zf1z (l:=h'.boxes) (i:=i) (by omega),zf1z (l:=h.boxes++[cs]) (i:=i) (by simp;omega),zf1z (l:=h'.boxes++[cs]) (i:=i) (by simp;omega)]
theorem gK{f:Fam}(e1:h1.fams=h.fams++[f])(e2:Da.fams=h'.fams++[f])(hl:h'.fams.length=h.fams.length):kA h h1 h' Da:=by
 intro x;cases x with
 |none=>simp[cF,e1,e2,hl]
 |some i =>
  rcases zf9z i h.fams.length with h3|h3|h3
  .have h4:i<h'.fams.length:=by omega
   simp[cF,e1,e2,zf2z h3,zf2z h4]
  .subst h3;simp[cF,e1,e2,←hl]
  .simp[cF,e1,e2,zf1z (l:=h.fams) (i:=i) (by omega),zf1z (l:=h'.fams) (i:=i) (by omega),zf1z (l:=h.fams++[f]) (i:=i) (by simp;omega),zf1z (l:=h'.fams++[f]) (i:=i) (by simp;omega)]
end
section
variable {O:Orc} {c:Ctx} {fr G6:Fr} {h h' h1:AH} {v:AV}
theorem Xg{r:ROp}(hs:∀t∈r.slots,G6.getD t B4=fr.getD t B4)(hb:r.looksB=true->∀x,cB h' x=cB h x)(hf:r.looksF=true->∀x,cF h' x=cF h x)(he:A0 O c r fr h=some (v,h1)) :
  ∃Da,A0 O c r G6 h'=some (v,Da)/\jz h h1 h' Da/\kA h h1 h' Da:=by
 have hb':=λq=>Up (hb q);have hf':=λq=>Zv (hf q);obtain⟨Da,e1,e2,e3⟩:=aj hs hb' hf' he;refine⟨Da,e1,?_,?_⟩
 .by_cases hw:r.writesB c=true
  .exact nL (hb' (Gl _ hw)) (e2 hw)
  .have hw':r.writesB c=false:=by simpa using hw
   exact BI ((FA he).1 hw') ((FA e1).1 hw')
 .by_cases hw:r.writesF c=true
  .exact nM (hf' (Jf _ hw)) (e3 hw)
  .have hw':r.writesF c=false:=by simpa using hw
   exact r8 ((FA he).2 hw') ((FA e1).2 hw')
theorem SX{agg:Bool}{n:Nat}{p u:AV}(hb:∀b off,p=.ptr b off->h'.boxes[b]?=h.boxes[b]?)(hf:∀k m i q s,p=.ep k m i q s->h'.fams[k]?=h.fams[k]?)(he:U4 h agg n p=some u):U4 h' agg n p=some u:=by
 cases p<;>simp only[U4]at he⊢<;>try exact he
 .rename_i k m i q s;rw[hf k m i q s rfl];exact he
 .rename_i b off;rw[hb b off rfl];exact he
theorem Ww{b:Nat}(H:∀x∈[some b],cB h' x=cB h x):h'.boxes[b]?=h.boxes[b]?:=by have:=H (some b) (by simp);simpa[cB]using this
theorem PS{k:Nat}{L:List (Option Nat)}(H:∀x∈L,cF h' x=cF h x)(hk:some k∈L):h'.fams[k]?=h.fams[k]?:=by have:=H (some k) hk;simpa[cF]using this
theorem XZ(H:∀x∈[(none:Option Nat)],cB h' x=cB h x):h'.boxes.length=h.boxes.length:=by have:=H none (by simp);simpa[cB]using this
theorem iD{L:List (Option Nat)}(H:∀x∈L,cF h' x=cF h x)(hk:none∈L):h'.fams.length=h.fams.length:=by have:=H none hk;simpa[cF]using this
theorem dh{sz:Nat}{x:AV}(H:∀k n off len,x=.sl k n off len->h'.fams[k]?=h.fams[k]?):elems h' sz x=elems h sz x:=by
 cases x<;>try rfl
 rename_i k n off len;simp only[elems,H k n off len rfl]
theorem FM(h:AH)(am:Bool):∀{xs:I7},xs.all S0=true->j8 h am xs=some xs
 | [],_=>rfl
 |x::xs,hx=>by
  simp only[zf3z,zf4z]at hx;simp[j8,DH h am hx.1,FM h am hx.2]
theorem SI{x:AV}(hx:x.flat=true)(h h':AH):Dn h x=Dn h' x:=by
 cases x<;>first|rfl|(simp[AV.flat]at hx;done)
theorem aC{xs:I7}(hx:xs.all AV.flat=true)(h h':AH):xs.all (Dn h)=xs.all (Dn h'):=by
 induction xs with
 |nil=>rfl
 |cons x xs ih =>
  simp only[zf3z,zf4z]at hx;rw[zf3z,zf3z,SI hx.1 h h',ih hx.2]
theorem kw{x:AV}(hx:S0 x=true)(h h':AH):tame h x=tame h' x:=by
 cases x
 case agg cs =>
  simp only[S0]at hx;simp only[tame];exact aC hx h h'
 case tup=>simp[S0]at hx
 all_goals exact SI (by simpa[S0]using hx) h h'
theorem dn{xs:I7}(hx:xs.all S0=true)(h h':AH):xs.all (tame h)=xs.all (tame h'):=by
 induction xs with
 |nil=>rfl
 |cons x xs ih =>
  simp only[zf3z,zf4z]at hx;rw[zf3z,zf3z,kw hx.1 h h',ih hx.2]
theorem wl{r:ROp}(hs:∀t∈r.slots,G6.getD t B4=fr.getD t B4)(hb:AgL (FG c h.boxes.length (get fr) r) λx=>cB h' x=cB h x)(hf:AgL (Db c (get fr) r) λx=>cF h' x=cF h x)(he:A0 O c r fr h=some (v,h1)) :
  ∃Da,A0 O c r G6 h'=some (v,Da)/\jz h h1 h' Da/\kA h h1 h' Da:=by
 have kind:(r.looksB=true->FG c h.boxes.length (get fr) r=none)->(r.looksF=true->Db c (get fr) r=none)->_:=λk1 k2=>Xg (O:=O) (c:=c) (v:=v) (h1:=h1) hs (λq=>by have:=hb;rw[k1 q]at this;exact this) (λq=>by have:=hf;rw[k2 q]at this;exact this) he;cases r
 case ld b n x =>
  have gx:=B1 (x:=x) λt ht=>hs t (by simp[ROp.slots,ht]);simp only[A0]at he;split at he
  .rename_i u hu;cases he;have:U4 h' b n (get fr x)=some v:=SX (λb o e=>by simp only[FG,e]at hb;exact Ww hb) (λk m i q s e=>by simp only[Db,e]at hf;exact PS hf (by simp)) hu;exact⟨h',by simp only[A0,gx,this],BI rfl rfl,r8 rfl rfl⟩
  .cases he
 case ldb b n x =>
  have gx:=B1 (x:=x) λt ht=>hs t (by simp[ROp.slots,ht]);cases hx:get fr x
  case ep=>simp only[A0,hx]at he;cases he
  all_goals
   simp only[A0,hx]at he;split at he
   .rename_i u hu;cases he;have:=SX (h':=h') (λb o e=>by simp only[FG,hx,e]at hb;exact Ww hb) (λk m i q s e=>by cases e) hu;exact⟨h',by simp only[A0,gx,hx,this],BI rfl rfl,r8 rfl rfl⟩
   .cases he
 case st n a x =>
  have ga:=B1 (x:=a) λt ht=>hs t (by simp[ROp.slots,ht]);have gx:=B1 (x:=x) λt ht=>hs t (by simp[ROp.slots,ht]);by_cases Ev:c.lay=true
  .exact kind (λ_=>by simp only[FG,Ev,if_true]) (λ_=>by simp only[Db,Ev,if_true])
  have Ev:c.lay=false:=by simpa using Ev
  have hcl':∀{α:Type} (a b:α),(if c.lay=true then a else b)=b:=λa b=>by rw[Ev];rfl
  cases ha:get fr a
  case ptr b off =>
   simp only[FG,hcl',ha]at hb;have hbb:=Ww hb;simp only[A0,Pd,hcl',ha,Ba]at he;cases hc:h.boxes[b]? with
   |none=>simp only[hc]at he;cases he
   |some cs =>
    rw[hc]at hbb;simp only[hc]at he;by_cases hq:u6 cs=false/\(get fr x).isTup=false/\(get fr x).cells.length=n/\off+n<=cs.length
    .rw[if_pos hq]at he;cases he;exact⟨{h' with boxes:=h'.boxes.set b (Y0 cs off (get fr x).cells)},by simp only[A0,Pd,hcl',ga,gx,ha,Ba,hbb,if_pos hq],Nf rfl rfl hc hbb,r8 rfl rfl⟩
    .rw[if_neg hq]at he;cases V8:dC h b n off (get fr x) cs with
     |none=>rw[V8]at he;cases he
     |some h2 =>
      rw[V8]at he;cases he;unfold dC at V8;split at V8
      .rename_i t ys;split at V8
       .rename_i hq2;cases V8;exact⟨{h' with boxes:=h'.boxes.set b [.tbox t (Y0 ys off (get fr x).cells)]},by simp only[A0,Pd,hcl',ga,gx,ha,Ba,hbb,if_neg hq,dC,if_pos hq2],Nf rfl rfl hc hbb,r8 rfl rfl⟩
       .cases V8
      .cases V8
  all_goals exact kind (λ_=>by simp only[FG,hcl',ha]) (λ_=>by simp only[Db,hcl',ha])
 case stb n a x =>
  have ga:=B1 (x:=a) λt ht=>hs t (by simp[ROp.slots,ht]);have gx:=B1 (x:=x) λt ht=>hs t (by simp[ROp.slots,ht]);cases ha:get fr a
  case ptr b off =>
   simp only[FG,ha]at hb;have hbb:=Ww hb;simp only[A0,ha,MP]at he;cases hc:h.boxes[b]? with
   |none=>simp only[hc]at he;cases he
   |some cs =>
    rw[hc]at hbb;simp only[hc]at he;by_cases hq:u6 cs=false/\(get fr x).isTup=false/\(get fr x).cells.length=n/\off+n<=cs.length
    .rw[if_pos hq]at he;cases he;exact⟨{h' with boxes:=h'.boxes.set b (Y0 cs off (get fr x).cells)},by simp only[A0,ga,gx,ha,MP,hbb,if_pos hq],Nf rfl rfl hc hbb,r8 rfl rfl⟩
    .rw[if_neg hq]at he;cases V8:dC h b n off (get fr x) cs with
     |none=>rw[V8]at he;cases he
     |some h2 =>
      rw[V8]at he;cases he;unfold dC at V8;split at V8
      .rename_i t ys;split at V8
       .rename_i hq2;cases V8;exact⟨{h' with boxes:=h'.boxes.set b [.tbox t (Y0 ys off (get fr x).cells)]},by simp only[A0,ga,gx,ha,MP,hbb,if_neg hq,dC,if_pos hq2,zg0z],Nf rfl rfl hc hbb,r8 rfl rfl⟩
       .cases V8
      .cases V8
  all_goals exact kind (λ_=>by simp only[FG,ha]) (λq=>by simp[ROp.looksF]at q)
 case ste n a x =>
  have ga:=B1 (x:=a) λt ht=>hs t (by simp[ROp.slots,ht]);have gx:=B1 (x:=x) λt ht=>hs t (by simp[ROp.slots,ht]);cases ha:get fr a
  case ep k m i q sz =>
   simp only[Db,ha]at hf;have hff:=PS (k:=k) hf (by simp);simp only[A0,ha,Og]at he;split at he
   .rename_i hx;split at he
    .rename_i h2 V8;cases he;unfold Ej at V8;cases hc:h.fams[k]? with
     |none=>simp only[hc]at V8;cases V8
     |some f =>
      rw[hc]at hff;simp only[hc,DH h false hx]at V8;split at V8
      .rename_i hq;split at V8
       .rename_i y u hy hu;obtain rfl:get fr x=u:=by simpa using hu
        split at V8
        .rename_i hl;rw[Option.map_eq_some_iff]at V8;obtain⟨z,hz,rfl⟩:=V8;refine⟨{h' with fams:=h'.fams.set k {f with xs:=f.xs.set i z}},?_,BI rfl rfl,Qx rfl rfl hc hff⟩
         simp only[A0,ga,gx,ha,Og,if_pos hx,Ej,hff,if_pos hq,hy,DH h' false hx,if_pos hl,hz,zg0z]
        .cases V8
       .cases V8
      .cases V8
    .cases he
   .cases he
  all_goals exact kind (λq=>by simp[ROp.looksB]at q) (λ_=>by simp only[Db,ha])
 case box x =>
  have gx:=B1 (x:=x) λt ht=>hs t (by simp[ROp.slots,ht]);have hl:=XZ hb;simp only[A0]at he;split at he
  .cases he
  .rename_i hq;cases he;exact⟨{h' with boxes:=h'.boxes++[(get fr x).cells]},by simp only[A0,gx,if_neg hq,hl],Qw rfl rfl hl,r8 rfl rfl⟩
 case alloc z =>
  have hl:=XZ hb;simp only[A0]at he;cases he;exact⟨{h' with boxes:=h'.boxes++[z.cells]},by simp only[A0,hl],Qw rfl rfl hl,r8 rfl rfl⟩
 case allocAt n z =>
  have hl:h'.boxes.length=h.boxes.length:=by have:=hb none (by simp[FG]);simpa[cB]using this
  have hbb:h'.boxes[h.boxes.length-n]?=h.boxes[h.boxes.length-n]?:=by have:=hb (some (h.boxes.length-n)) (by simp[FG]);simpa[cB]using this
  simp only[A0,AF]at he;split at he
  .rename_i cs o9;split at he
   .rename_i hc;cases he;rw[o9]at hbb;exact⟨{h' with boxes:=h'.boxes.set (h.boxes.length-n) z.cells},by simp only[A0,AF,hl,hbb,if_pos hc],Nf rfl rfl o9 hbb,r8 rfl rfl⟩
   .cases he
  .cases he
 case mkmap =>
  have hl:=XZ hb;simp only[A0]at he;cases he;exact⟨{h' with boxes:=h'.boxes++[[.mbox [] []]]},by simp only[A0,hl],Qw rfl rfl hl,r8 rfl rfl⟩
 case mkb z b l q =>
  have gl:=B1 (x:=l) λt ht=>hs t (by simp[ROp.slots,ht]);have gq:=B1 (x:=q) λt ht=>hs t (by simp[ROp.slots,ht]);have hl:=XZ hb;simp only[A0,Sa]at he;split at he
  .rename_i _ _ k1 a1 k2 b1 e1 e2;split at he
   .rename_i hq;cases he;exact⟨{h' with boxes:=h'.boxes++[(zf5z a1.toNat z.cells).flatten]},by simp only[A0,Sa,gl,gq,e1,e2,if_pos hq,hl],Qw rfl rfl hl,r8 rfl rfl⟩
   .cases he
  .cases he
 case call f aas =>
  by_cases hq:(!c.raw f&&(aas.map (get fr)).all S0)=true
  .simp only[zf4z,Bool.not_eq_true']at hq;have ea:aas.map (get G6)=aas.map (get fr):=GI (xs:=aas) λt ht=>hs t (by simpa[ROp.slots]using ht);simp only[A0,Di,hq.1,zf7z,if_false]at he;rw[FM h true hq.2]at he;simp only at he;split at he
   .cases he
   .rename_i r hr;split at he
    .rename_i hc;cases he;refine⟨h',?_,BI rfl rfl,r8 rfl rfl⟩;rw[dn hq.2 h h']at hc;simp only[A0,Di,hq.1,zf7z,if_false,ea];rw[FM h' true hq.2];simp only[hr,if_pos hc]
    .cases he
  .exact kind (λ_=>by simp only[FG,if_neg hq]) (λ_=>by simp only[Db,if_neg hq])
 case bslice n z ps =>
  by_cases hq:ps.all (λp=>S0 (get fr p.2))=true
  .simp only[A0]at he;have e2:=CZ (h:=h') (xs:=zf5z n z) (ps:=ps) λt ht=>hs t (by simpa[ROp.slots]using ht);rw[HX h h' hq]at e2;split at he
   .rename_i xs hx;cases he;exact⟨h',by simp only[A0,e2,hx],BI rfl rfl,r8 rfl rfl⟩
   .cases he
  .exact kind (λ_=>by simp only[FG,if_neg hq]) (λ_=>by simp only[Db,if_neg hq])
 case app sz b s x =>
  have gs:=B1 (x:=s) λt ht=>hs t (by simp[ROp.slots,ht]);have gx:=B1 (x:=x) λt ht=>hs t (by simp[ROp.slots,ht]);have el:∀L:List (Option Nat),(∀y∈L,cF h' y=cF h y)->(∀k n off len,get fr x=.sl k n off len->some k∈L)->elems h' sz (get fr x)=elems h sz (get fr x):=λL HL hk=>dh λk n off len e=>PS HL (hk k n off len e);have fin1:∀L:List (Option Nat),(∀y∈L,cF h' y=cF h y)->none∈L->(∀k n off len,get fr x=.sl k n off len->some k∈L)->∀full z xs,get fr s=.vs full z xs->∃Da,A0 O c (.app sz b s x) G6 h'=some (v,Da)/\jz h h1 h' Da/\kA h h1 h' Da:=by
   intro L HL hn hk full z xs e;have hl:=iD HL hn;simp only[A0,e,R7,Z2]at he;simp only[A0,gs,gx,e,R7,Z2,el L HL hk];cases LN:elems h sz (get fr x)with
   |none=>simp only[LN]at he;cases he
   |some ys =>
    simp only[LN]at he ⊢;cases full with
    |false=>cases he
    |true =>
     simp only at he ⊢;split at he
     .rename_i hq;cases he;exact⟨h',by rw[if_pos hq],BI rfl rfl,r8 rfl rfl⟩
     .rename_i hq;split at he
      .rename_i hq2;cases he;exact⟨{h' with fams:=h'.fams++[⟨xs++ys,sz,c.mutApp⟩]},by rw[if_neg hq,if_pos hq2,hl],BI rfl rfl,gK rfl rfl hl⟩
      .cases he
  have fin2:∀L:List (Option Nat),(∀y∈L,cF h' y=cF h y)->(∀k n off len,get fr x=.sl k n off len->some k∈L)->∀k n off len,get fr s=.sl k n off len->some k∈L->∃Da,A0 O c (.app sz b s x) G6 h'=some (v,Da)/\jz h h1 h' Da/\kA h h1 h' Da:=by
   intro L HL hk k n off len e hkL;have hff:=PS HL hkL;simp only[A0,e,R7,Z2]at he;simp only[A0,gs,gx,e,R7,Z2,el L HL hk];cases LN:elems h sz (get fr x)with
   |none=>simp only[LN]at he;cases he
   |some ys =>
    simp only[LN]at he ⊢;cases hc:h.fams[k]? with
    |none=>simp only[hc]at he;cases he
    |some f =>
     rw[hc]at hff;simp only[hc,hff]at he ⊢;split at he
     .rename_i hq;cases he;exact⟨{h' with fams:=h'.fams.set k {f with xs:=f.xs++ys}},by rw[if_pos hq],BI rfl rfl,Qx rfl rfl hc hff⟩
     .rename_i hq;split at he
      .rename_i hq2;cases he;exact⟨{h' with fams:=h'.fams.set k {f with xs:=f.xs.take (off+len)++ys++f.xs.drop (off+len+ys.length)}},by rw[if_neg hq,if_pos hq2],BI rfl rfl,Qx rfl rfl hc hff⟩
      .cases he
  cases h1s:get fr s
  case vs full z xs =>
   cases h1x:get fr x
   case vs=>simp only[Db,h1s,h1x]at hf;exact fin1 _ hf (by simp) (λk n off len e=>by rw[h1x]at e;cases e) _ _ _ h1s
   case sl k n off len=>simp only[Db,h1s,h1x]at hf;exact fin1 _ hf (by simp) (λk n off len e=>by rw[h1x]at e;cases e;simp) _ _ _ h1s
   all_goals exact kind (λq=>by simp[ROp.looksB]at q) (λ_=>by simp only[Db,h1s,h1x])
  case sl k0 n0 off0 len0 =>
   cases h1x:get fr x
   case vs=>simp only[Db,h1s,h1x]at hf;exact fin2 _ hf (λk n off len e=>by rw[h1x]at e;cases e) _ _ _ _ h1s (by simp)
   case sl k n off len=>simp only[Db,h1s,h1x]at hf;exact fin2 _ hf (λk n off len e=>by rw[h1x]at e;cases e;simp) _ _ _ _ h1s (by simp)
   all_goals exact kind (λq=>by simp[ROp.looksB]at q) (λ_=>by simp only[Db,h1s,h1x])
  all_goals exact kind (λq=>by simp[ROp.looksB]at q) (λ_=>by simp only[Db,h1s])
 case slc sz x lo hi mx =>
  have gx:=B1 (x:=x) λt ht=>hs t (by simp[ROp.slots,ht]);have g1:=FL (x:=lo) λt ht=>hs t (by simp[ROp.slots,ht]);have g2:=FL (x:=hi) λt ht=>hs t (by simp[ROp.slots,ht]);have g3:=FL (x:=mx) λt ht=>hs t (by simp[ROp.slots,ht]);have key:(∀k n off len,get fr x=.sl k n off len->h'.fams[k]?=h.fams[k]?)->∀l u m,Fq h' sz (get fr x) l u m=Fq h sz (get fr x) l u m:=λhk l u m=>by
   cases hx:get fr x<;>try rfl
   rename_i k n off len;simp only[Fq,hk k n off len hx]
  have fin:(∀k n off len,get fr x=.sl k n off len->h'.fams[k]?=h.fams[k]?)->∃Da,A0 O c (.slc sz x lo hi mx) G6 h'=some (v,Da)/\jz h h1 h' Da/\kA h h1 h' Da:=λhk=>by
   simp only[A0]at he;split at he
   .rename_i l u m e1 e2 e3;split at he
    .rename_i w hw;cases he;exact⟨h',by simp only[A0,gx,g1,g2,g3,e1,e2,e3,key hk,hw],BI rfl rfl,r8 rfl rfl⟩
    .cases he
   .cases he
  cases hx:get fr x
  case sl k n off len =>
   refine fin λk' n' off' len' e=>?_;rw[hx]at e;cases e;simp only[Db,hx]at hf;exact PS hf (by simp)
  all_goals exact fin λk' n' off' len' e=>by rw[hx]at e;cases e
 case mkslice z b l q =>
  have gl:=B1 (x:=l) λt ht=>hs t (by simp[ROp.slots,ht]);have gq:=B1 (x:=q) λt ht=>hs t (by simp[ROp.slots,ht]);have hl:=iD (h:=h) (h':=h') (L:=[none]) hf (by simp);simp only[A0]at he;split at he
  .rename_i _ _ k1 a1 k2 b1 e1 e2;split at he
   .rename_i hq;cases he;exact⟨{h' with fams:=h'.fams++[⟨zf5z a1.toNat z,z.cells.length,true⟩]},by simp only[A0,gl,gq,e1,e2,if_pos hq,hl],BI rfl rfl,gK rfl rfl hl⟩
   .cases he
  .cases he
 case clr z x =>
  have gx:=B1 (x:=x) λt ht=>hs t (by simp[ROp.slots,ht]);cases hx:get fr x
  case sl k n off len =>
   simp only[Db,hx]at hf;have hff:=PS (k:=k) hf (by simp);simp only[A0,hx,Ns]at he;cases hc:h.fams[k]? with
   |none=>simp only[hc]at he;cases he
   |some f =>
    rw[hc]at hff;simp only[hc]at he;split at he
    .rename_i hq;cases he;exact⟨{h' with fams:=h'.fams.set k {f with xs:=f.xs.take off++zf5z len z++f.xs.drop (off+len)}},by simp only[A0,gx,hx,Ns,hff,if_pos hq],BI rfl rfl,Qx rfl rfl hc hff⟩
    .cases he
  all_goals exact kind (λq=>by simp[ROp.looksB]at q) (λ_=>by simp only[Db,hx])
 all_goals exact kind (λq=>by first|rfl|(simp[ROp.looksB]at q;done)) (λq=>by first|rfl|(simp[ROp.looksF]at q;done))
end
end Go.Abs
