/- A part of the proof. -/
import Derived.Test.YtnnjamknplefbaaGreatDoorTN8
set_option linter.all false
open List renaming getElem?_eq_some_iff->zf0z,getElem?_eq_none->zf1z,getElem?_append_left->zf2z,all_cons->zf3z,replicate->zf5z,getElem?_set_ne->zf6z,ext_getElem?->zf8z
open Bool renaming and_eq_true->zf4z,false_eq_true->zf7z
open Nat renaming lt_trichotomy->zf9z
open Option renaming map_some->zg0z
set_option linter.all false
namespace Go.Abs
def cB(h:AH):Option Nat->Nat×Option (List AV)
 |none=>(h.boxes.length,none)
 |some i=>(0,h.boxes[i]?)
def cF(h:AH):Option Nat->Nat×Option Fam
 |none=>(h.fams.length,none)
 |some i=>(0,h.fams[i]?)
def AgL(r:Option (List (Option Nat)))(P:Option Nat->Prop):Prop:=match r with|none=>∀x,P x|some L=>∀x∈L,P x
theorem dR{h h'}(H:∀x,cB h' x=cB h x):h'.boxes=h.boxes:=zf8z λi=>by have:=H (some i);simpa[cB]using this
theorem kB{h h'}(H:∀x,cF h' x=cF h x):h'.fams=h.fams:=zf8z λi=>by have:=H (some i);simpa[cF]using this
theorem jc{h h'}(e:h'.boxes=h.boxes)(x):cB h' x=cB h x:=by cases x<;>simp[cB,e]
theorem jd{h h'}(e:h'.fams=h.fams)(x):cF h' x=cF h x:=by cases x<;>simp[cF,e]
def vC(h h1 h' AQ:AH):Prop:=∀x,(cB h1 x=cB h x->cB AQ x=cB h' x)/\(cB h1 x≠cB h x->cB AQ x=cB h1 x)
def vD(h h1 h' AQ:AH):Prop:=∀x,(cF h1 x=cF h x->cF AQ x=cF h' x)/\(cF h1 x≠cF h x->cF AQ x=cF h1 x)
section
variable {h h1 h' AQ:AH}
theorem yK(e1:h'.boxes=h.boxes)(e2:AQ.boxes=h1.boxes):vC h h1 h' AQ:=λx=>⟨λe=>by rw[jc e2,e,jc e1],λ_=>jc e2 x⟩
theorem yL(e1:h'.fams=h.fams)(e2:AQ.fams=h1.fams):vD h h1 h' AQ:=λx=>⟨λe=>by rw[jd e2,e,jd e1],λ_=>jd e2 x⟩
theorem Cz(e1:h1.boxes=h.boxes)(e2:AQ.boxes=h'.boxes):vC h h1 h' AQ:=λx=>⟨λ_=>jc e2 x,λe=>absurd (jc e1 x) e⟩
theorem BC(e1:h1.fams=h.fams)(e2:AQ.fams=h'.fams):vD h h1 h' AQ:=λx=>⟨λ_=>jd e2 x,λe=>absurd (jd e1 x) e⟩
theorem Ux{b cs old}(e1:h1.boxes=h.boxes.set b cs)(e2:AQ.boxes=h'.boxes.set b cs)(hb:h.boxes[b]?=some old)(hb':h'.boxes[b]?=some old):vC h h1 h' AQ:=by
 have l1:=(zf0z.1 hb).1;have l2:=(zf0z.1 hb').1;intro x;cases x with
 |none=>simp[cB,e1,e2]
 |some i =>
  by_cases hi:b=i
  .subst hi;have g1:=(zf0z.1 hb).2;have g2:=(zf0z.1 hb').2;simp[cB,e1,e2,l1,l2,g1,g2]
  .simp[cB,e1,e2,zf6z hi]
theorem Yq{b f old}(e1:h1.fams=h.fams.set b f)(e2:AQ.fams=h'.fams.set b f)(hb:h.fams[b]?=some old)(hb':h'.fams[b]?=some old):vD h h1 h' AQ:=by
 have l1:=(zf0z.1 hb).1;have l2:=(zf0z.1 hb').1;intro x;cases x with
 |none=>simp[cF,e1,e2]
 |some i =>
  by_cases hi:b=i
  .subst hi;have g1:=(zf0z.1 hb).2;have g2:=(zf0z.1 hb').2;simp[cF,e1,e2,l1,l2,g1,g2]
  .simp[cF,e1,e2,zf6z hi]
theorem Yp{cs}(e1:h1.boxes=h.boxes++[cs])(e2:AQ.boxes=h'.boxes++[cs])(hl:h'.boxes.length=h.boxes.length):vC h h1 h' AQ:=by
 intro x;cases x with
 |none=>simp[cB,e1,e2,hl]
 |some i =>
  rcases zf9z i h.boxes.length with h3|h3|h3
  .have h4:i<h'.boxes.length:=by omega
   simp[cB,e1,e2,zf2z h3,zf2z h4]
  .subst h3;simp[cB,e1,e2,←hl]
  .simp[cB,e1,e2,zf1z (l:=h.boxes) (i:=i) a_,zf1z (l:=h'.boxes) (i:=i) a_,zf1z (l:=h.boxes++[cs]) (i:=i) f8,zf1z (l:=h'.boxes++[cs]) (i:=i) f8]
theorem rY{f}(e1:h1.fams=h.fams++[f])(e2:AQ.fams=h'.fams++[f])(hl:h'.fams.length=h.fams.length):vD h h1 h' AQ:=by
 intro x;cases x with
 |none=>simp[cF,e1,e2,hl]
 |some i =>
  rcases zf9z i h.fams.length with h3|h3|h3
  .have h4:i<h'.fams.length:=by omega
   simp[cF,e1,e2,zf2z h3,zf2z h4]
  .subst h3;simp[cF,e1,e2,←hl]
  .simp[cF,e1,e2,zf1z (l:=h.fams) (i:=i) a_,zf1z (l:=h'.fams) (i:=i) a_,zf1z (l:=h.fams++[f]) (i:=i) f8,zf1z (l:=h'.fams++[f]) (i:=i) f8]
end
section
variable {O:Orc} {c:Ctx} {fr B8:Fr} {h h' h1:AH} {v:AV}
theorem ge{r}(hs:∀t∈r.slots,B8.getD t B9=fr.getD t B9)(hb:r.looksB=true->∀x,cB h' x=cB h x)(hf:r.looksF=true->∀x,cF h' x=cF h x)(he:A7 O c r fr h=some (v,h1)) :
  ∃AQ,A7 O c r B8 h'=some (v,AQ)/\vC h h1 h' AQ/\vD h h1 h' AQ:=by
 have hb':=λq=>dR (hb q);have hf':=λq=>kB (hf q);obtain⟨AQ,e1,e2,e3⟩:=lM hs hb' hf' he;refine⟨AQ,e1,?_,?_⟩
 .by_cases hw:r.writesB c=true
  .exact yK (hb' (LP _ hw)) (e2 hw)
  .have hw':r.writesB c=false:=by simpa using hw
   exact Cz ((JI he).1 hw') ((JI e1).1 hw')
 .by_cases hw:r.writesF c=true
  .exact yL (hf' (PZ _ hw)) (e3 hw)
  .have hw':r.writesF c=false:=by simpa using hw
   exact BC ((JI he).2 hw') ((JI e1).2 hw')
theorem aG{agg n p u}(hb:∀b off,p=.ptr b off->h'.boxes[b]?=h.boxes[b]?)(hf:∀k m i q s,p=.ep k m i q s->h'.fams[k]?=h.fams[k]?)(he:X3 h agg n p=some u):X3 h' agg n p=some u:=by
 cases p<;>simp only[X3]at he⊢<;>try exact he
 .rename_i k m i q s;rw[hf k m i q s rfl];exact he
 .rename_i b off;rw[hb b off rfl];exact he
theorem fk{b}(H:∀x∈[some b],cB h' x=cB h x):h'.boxes[b]?=h.boxes[b]?:=by have:=H (some b) e_;simpa[cB]using this
theorem XD{k}{L:List (Option Nat)}(H:∀x∈L,cF h' x=cF h x)(hk:some k∈L):h'.fams[k]?=h.fams[k]?:=by have:=H (some k) hk;simpa[cF]using this
theorem gV(H:∀x∈[(none:Option Nat)],cB h' x=cB h x):h'.boxes.length=h.boxes.length:=by have:=H none e_;simpa[cB]using this
theorem sg{L:List (Option Nat)}(H:∀x∈L,cF h' x=cF h x)(hk:none∈L):h'.fams.length=h.fams.length:=by have:=H none hk;simpa[cF]using this
theorem nd{sz x}(H:∀k n off len,x=.sl k n off len->h'.fams[k]?=h.fams[k]?):elems h' sz x=elems h sz x:=by
 cases x<;>try rfl
 rename_i k n off len;simp only[elems,H k n off len rfl]
theorem JW(h am):∀{xs:b9},xs.all M9=true->AX h am xs=some xs
 | [],_=>rfl
 |x::xs,hx=>by
  simp only[zf3z,zf4z]at hx;simp[AX,DB h am hx.1,JW h am hx.2]
theorem Zq{x}(hx:x.flat=true)(h h'):Hl h x=Hl h' x:=by
 cases x<;>first|rfl|(simp[AV.flat]at hx;done)
theorem kI{xs:b9}(hx:xs.all AV.flat=true)(h h'):xs.all (Hl h)=xs.all (Hl h'):=by
 induction xs with
 |nil=>rfl
 |cons x xs ih =>
  simp only[zf3z,zf4z]at hx;rw[zf3z,zf3z,Zq hx.1 h h',ih hx.2]
theorem vz{x}(hx:M9 x=true)(h h'):tame h x=tame h' x:=by
 cases x
 case agg cs =>
  simp only[M9]at hx;simp only[tame];exact kI hx h h'
 case tup=>simp[M9]at hx
 all_goals exact Zq (by simpa[M9]using hx) h h'
theorem nq{xs:b9}(hx:xs.all M9=true)(h h'):xs.all (tame h)=xs.all (tame h'):=by
 induction xs with
 |nil=>rfl
 |cons x xs ih =>
  simp only[zf3z,zf4z]at hx;rw[zf3z,zf3z,vz hx.1 h h',ih hx.2]
theorem op_foot{r}(hs:∀t∈r.slots,B8.getD t B9=fr.getD t B9)(hb:AgL (JR c h.boxes.length (get fr) r) λx=>cB h' x=cB h x)(hf:AgL (Gl c (get fr) r) λx=>cF h' x=cF h x)(he:A7 O c r fr h=some (v,h1)) :
  ∃AQ,A7 O c r B8 h'=some (v,AQ)/\vC h h1 h' AQ/\vD h h1 h' AQ:=by
 have kind:(r.looksB=true->JR c h.boxes.length (get fr) r=none)->(r.looksF=true->Gl c (get fr) r=none)->_:=λk1 k2=>ge (O:=O) (c:=c) (v:=v) (h1:=h1) hs (λq=>by have:=hb;rw[k1 q]at this;exact this) (λq=>by have:=hf;rw[k2 q]at this;exact this) he;cases r
 case ld b n x =>
  have gx:=B6 (x:=x) λt ht=>hs t b_;simp only[A7]at he;split at he
  .rename_i u hu;cases he;have:=aG (λb o e=>by simp only[JR,e]at hb;exact fk hb) (λk m i q s e=>by simp only[Gl,e]at hf;exact XD hf e_) hu;exact⟨h',by simp only[A7,gx,this],Cz rfl rfl,BC rfl rfl⟩
  .cases he
 case ldb b n x =>
  have gx:=B6 (x:=x) λt ht=>hs t b_;cases hx:get fr x
  case ep=>simp only[A7,hx]at he;cases he
  all_goals
   simp only[A7,hx]at he;split at he
   .rename_i u hu;cases he;have:=aG (h':=h') (λb o e=>by simp only[JR,hx,e]at hb;exact fk hb) (λk m i q s e=>by cases e) hu;exact⟨h',by simp only[A7,gx,hx,this],Cz rfl rfl,BC rfl rfl⟩
   .cases he
 case st n a x =>
  have ga:=B6 (x:=a) λt ht=>hs t b_;have gx:=B6 (x:=x) λt ht=>hs t b_;by_cases IN:c.lay=true
  .exact kind (λ_=>by simp only[JR,IN,if_true]) (λ_=>by simp only[Gl,IN,if_true])
  have IN:c.lay=false:=by simpa using IN
  have hcl':∀{α:Type} (a b:α),(if c.lay=true then a else b)=b:=λa b=>by rw[IN];rfl
  cases ha:get fr a
  case ptr b off =>
   simp only[JR,hcl',ha]at hb;have hbb:=fk hb;simp only[A7,XM,hcl',ha,DX]at he;cases hc:h.boxes[b]? with
   |none=>simp only[hc]at he;cases he
   |some cs =>
    rw[hc]at hbb;simp only[hc]at he;by_cases hq:BE cs=false/\(get fr x).isTup=false/\(get fr x).cells.length=n/\off+n<=cs.length
    .rw[if_pos hq]at he;cases he;exact⟨{h' with boxes:=h'.boxes.set b (j8 cs off (get fr x).cells)},by simp only[A7,XM,hcl',ga,gx,ha,DX,hbb,if_pos hq],Ux rfl rfl hc hbb,BC rfl rfl⟩
    .rw[if_neg hq]at he;cases X8:mz h b n off (get fr x) cs with
     |none=>rw[X8]at he;cases he
     |some h2 =>
      rw[X8]at he;cases he;unfold mz at X8;split at X8
      .rename_i t ys;split at X8
       .rename_i hq2;cases X8;exact⟨{h' with boxes:=h'.boxes.set b [.tbox t (j8 ys off (get fr x).cells)]},by simp only[A7,XM,hcl',ga,gx,ha,DX,hbb,if_neg hq,mz,if_pos hq2],Ux rfl rfl hc hbb,BC rfl rfl⟩
       .cases X8
      .cases X8
  all_goals exact kind (λ_=>by simp only[JR,hcl',ha]) (λ_=>by simp only[Gl,hcl',ha])
 case stb n a x =>
  have ga:=B6 (x:=a) λt ht=>hs t b_;have gx:=B6 (x:=x) λt ht=>hs t b_;cases ha:get fr a
  case ptr b off =>
   simp only[JR,ha]at hb;have hbb:=fk hb;simp only[A7,ha,TP]at he;cases hc:h.boxes[b]? with
   |none=>simp only[hc]at he;cases he
   |some cs =>
    rw[hc]at hbb;simp only[hc]at he;by_cases hq:BE cs=false/\(get fr x).isTup=false/\(get fr x).cells.length=n/\off+n<=cs.length
    .rw[if_pos hq]at he;cases he;exact⟨{h' with boxes:=h'.boxes.set b (j8 cs off (get fr x).cells)},by simp only[A7,ga,gx,ha,TP,hbb,if_pos hq],Ux rfl rfl hc hbb,BC rfl rfl⟩
    .rw[if_neg hq]at he;cases X8:mz h b n off (get fr x) cs with
     |none=>rw[X8]at he;cases he
     |some h2 =>
      rw[X8]at he;cases he;unfold mz at X8;split at X8
      .rename_i t ys;split at X8
       .rename_i hq2;cases X8;exact⟨{h' with boxes:=h'.boxes.set b [.tbox t (j8 ys off (get fr x).cells)]},by simp only[A7,ga,gx,ha,TP,hbb,if_neg hq,mz,if_pos hq2,zg0z],Ux rfl rfl hc hbb,BC rfl rfl⟩
       .cases X8
      .cases X8
  all_goals exact kind (λ_=>by simp only[JR,ha]) (λq=>by simp[ROp.looksF]at q)
 case ste n a x =>
  have ga:=B6 (x:=a) λt ht=>hs t b_;have gx:=B6 (x:=x) λt ht=>hs t b_;cases ha:get fr a
  case ep k m i q sz =>
   simp only[Gl,ha]at hf;have hff:=XD (k:=k) hf e_;simp only[A7,ha,WW]at he;split at he
   .rename_i hx;split at he
    .rename_i h2 X8;cases he;unfold Ic at X8;cases hc:h.fams[k]? with
     |none=>simp only[hc]at X8;cases X8
     |some f =>
      rw[hc]at hff;simp only[hc,DB h false hx]at X8;split at X8
      .rename_i hq;split at X8
       .rename_i y u hy hu;obtain rfl:get fr x=u:=by simpa using hu
        split at X8
        .rename_i hl;rw[Option.map_eq_some_iff]at X8;obtain⟨z,hz,rfl⟩:=X8;refine⟨{h' with fams:=h'.fams.set k {f with xs:=f.xs.set i z}},?_,Cz rfl rfl,Yq rfl rfl hc hff⟩
         simp only[A7,ga,gx,ha,WW,if_pos hx,Ic,hff,if_pos hq,hy,DB h' false hx,if_pos hl,hz,zg0z]
        .cases X8
       .cases X8
      .cases X8
    .cases he
   .cases he
  all_goals exact kind (λq=>by simp[ROp.looksB]at q) (λ_=>by simp only[Gl,ha])
 case box x =>
  have gx:=B6 (x:=x) λt ht=>hs t b_;have hl:=gV hb;simp only[A7]at he;split at he
  .cases he
  .rename_i hq;cases he;exact⟨{h' with boxes:=h'.boxes++[(get fr x).cells]},by simp only[A7,gx,if_neg hq,hl],Yp rfl rfl hl,BC rfl rfl⟩
 case alloc z =>
  have hl:=gV hb;simp only[A7]at he;cases he;exact⟨{h' with boxes:=h'.boxes++[z.cells]},by simp only[A7,hl],Yp rfl rfl hl,BC rfl rfl⟩
 case allocAt n z =>
  have hl:h'.boxes.length=h.boxes.length:=by have:=hb none (by simp[JR]);simpa[cB]using this
  have hbb:h'.boxes[h.boxes.length-n]?=h.boxes[h.boxes.length-n]?:=by have:=hb (some (h.boxes.length-n)) (by simp[JR]);simpa[cB]using this
  simp only[A7,AW]at he;split at he
  .rename_i cs Au;split at he
   .rename_i hc;cases he;rw[Au]at hbb;exact⟨{h' with boxes:=h'.boxes.set (h.boxes.length-n) z.cells},by simp only[A7,AW,hl,hbb,if_pos hc],Ux rfl rfl Au hbb,BC rfl rfl⟩
   .cases he
  .cases he
 case mkmap =>
  have hl:=gV hb;simp only[A7]at he;cases he;exact⟨{h' with boxes:=h'.boxes++[[.mbox [] []]]},by simp only[A7,hl],Yp rfl rfl hl,BC rfl rfl⟩
 case mkb z b l q =>
  have gl:=B6 (x:=l) λt ht=>hs t b_;have gq:=B6 (x:=q) λt ht=>hs t b_;have hl:=gV hb;simp only[A7,aI]at he;split at he
  .rename_i _ _ k1 a1 k2 b1 e1 e2;split at he
   .rename_i hq;cases he;exact⟨{h' with boxes:=h'.boxes++[(zf5z a1.toNat z.cells).flatten]},by simp only[A7,aI,gl,gq,e1,e2,if_pos hq,hl],Yp rfl rfl hl,BC rfl rfl⟩
   .cases he
  .cases he
 case call f aas =>
  by_cases hq:(!c.raw f&&(aas.map (get fr)).all M9)=true
  .simp only[zf4z,Bool.not_eq_true']at hq;have ea:=Kh (xs:=aas) λt ht=>hs t j_;simp only[A7,Gu,hq.1,zf7z,if_false]at he;rw[JW h true hq.2]at he;simp only at he;split at he
   .cases he
   .rename_i r hr;split at he
    .rename_i hc;cases he;refine⟨h',?_,Cz rfl rfl,BC rfl rfl⟩;rw[nq hq.2 h h']at hc;simp only[A7,Gu,hq.1,zf7z,if_false,ea];rw[JW h' true hq.2];simp only[hr,if_pos hc]
    .cases he
  .exact kind (λ_=>by simp only[JR,if_neg hq]) (λ_=>by simp only[Gl,if_neg hq])
 case bslice n z ps =>
  by_cases hq:ps.all (λp=>M9 (get fr p.2))=true
  .simp only[A7]at he;have e2:=Eu (h:=h') (xs:=zf5z n z) (ps:=ps) λt ht=>hs t j_;rw[MI h h' hq]at e2;split at he
   .rename_i xs hx;cases he;exact⟨h',by simp only[A7,e2,hx],Cz rfl rfl,BC rfl rfl⟩
   .cases he
  .exact kind (λ_=>by simp only[JR,if_neg hq]) (λ_=>by simp only[Gl,if_neg hq])
 case app sz b s x =>
  have gs:=B6 (x:=s) λt ht=>hs t b_;have gx:=B6 (x:=x) λt ht=>hs t b_;have el:∀L:List (Option Nat),(∀y∈L,cF h' y=cF h y)->(∀k n off len,get fr x=.sl k n off len->some k∈L)->elems h' sz (get fr x)=elems h sz (get fr x):=λL HL hk=>nd λk n off len e=>XD HL (hk k n off len e);have fin1:∀L:List (Option Nat),(∀y∈L,cF h' y=cF h y)->none∈L->(∀k n off len,get fr x=.sl k n off len->some k∈L)->∀full z xs,get fr s=.vs full z xs->∃AQ,A7 O c (.app sz b s x) B8 h'=some (v,AQ)/\vC h h1 h' AQ/\vD h h1 h' AQ:=by
   intro L HL hn hk full z xs e;have hl:=sg HL hn;simp only[A7,e,N0,q9]at he;simp only[A7,gs,gx,e,N0,q9,el L HL hk];cases Ry:elems h sz (get fr x)with
   |none=>simp only[Ry]at he;cases he
   |some ys =>
    simp only[Ry]at he ⊢;cases full with
    |false=>cases he
    |true =>
     simp only at he ⊢;split at he
     .rename_i hq;cases he;exact⟨h',by rw[if_pos hq],Cz rfl rfl,BC rfl rfl⟩
     .rename_i hq;split at he
      .rename_i hq2;cases he;exact⟨{h' with fams:=h'.fams++[⟨xs++ys,sz,c.mutApp⟩]},by rw[if_neg hq,if_pos hq2,hl],Cz rfl rfl,rY rfl rfl hl⟩
      .cases he
  have fin2:∀L:List (Option Nat),(∀y∈L,cF h' y=cF h y)->(∀k n off len,get fr x=.sl k n off len->some k∈L)->∀k n off len,get fr s=.sl k n off len->some k∈L->∃AQ,A7 O c (.app sz b s x) B8 h'=some (v,AQ)/\vC h h1 h' AQ/\vD h h1 h' AQ:=by
   intro L HL hk k n off len e hkL;have hff:=XD HL hkL;simp only[A7,e,N0,q9]at he;simp only[A7,gs,gx,e,N0,q9,el L HL hk];cases Ry:elems h sz (get fr x)with
   |none=>simp only[Ry]at he;cases he
   |some ys =>
    simp only[Ry]at he ⊢;cases hc:h.fams[k]? with
    |none=>simp only[hc]at he;cases he
    |some f =>
     rw[hc]at hff;simp only[hc,hff]at he ⊢;split at he
     .rename_i hq;cases he;exact⟨{h' with fams:=h'.fams.set k {f with xs:=f.xs++ys}},by rw[if_pos hq],Cz rfl rfl,Yq rfl rfl hc hff⟩
     .rename_i hq;split at he
      .rename_i hq2;cases he;exact⟨{h' with fams:=h'.fams.set k {f with xs:=f.xs.take (off+len)++ys++f.xs.drop (off+len+ys.length)}},by rw[if_neg hq,if_pos hq2],Cz rfl rfl,Yq rfl rfl hc hff⟩
      .cases he
  cases h1s:get fr s
  case vs full z xs =>
   cases h1x:get fr x
   case vs=>simp only[Gl,h1s,h1x]at hf;exact fin1 _ hf e_ (λk n off len e=>by rw[h1x]at e;cases e) _ _ _ h1s
   case sl k n off len=>simp only[Gl,h1s,h1x]at hf;exact fin1 _ hf e_ (λk n off len e=>by rw[h1x]at e;cases e;simp) _ _ _ h1s
   all_goals exact kind (λq=>by simp[ROp.looksB]at q) (λ_=>by simp only[Gl,h1s,h1x])
  case sl k0 n0 off0 len0 =>
   cases h1x:get fr x
   case vs=>simp only[Gl,h1s,h1x]at hf;exact fin2 _ hf (λk n off len e=>by rw[h1x]at e;cases e) _ _ _ _ h1s e_
   case sl k n off len=>simp only[Gl,h1s,h1x]at hf;exact fin2 _ hf (λk n off len e=>by rw[h1x]at e;cases e;simp) _ _ _ _ h1s e_
   all_goals exact kind (λq=>by simp[ROp.looksB]at q) (λ_=>by simp only[Gl,h1s,h1x])
  all_goals exact kind (λq=>by simp[ROp.looksB]at q) (λ_=>by simp only[Gl,h1s])
 case slc sz x lo hi mx =>
  have gx:=B6 (x:=x) λt ht=>hs t b_;have g1:=JV (x:=lo) λt ht=>hs t b_;have g2:=JV (x:=hi) λt ht=>hs t b_;have g3:=JV (x:=mx) λt ht=>hs t b_;have key:(∀k n off len,get fr x=.sl k n off len->h'.fams[k]?=h.fams[k]?)->∀l u m,KM h' sz (get fr x) l u m=KM h sz (get fr x) l u m:=λhk l u m=>by
   cases hx:get fr x<;>try rfl
   rename_i k n off len;simp only[KM,hk k n off len hx]
  have fin:(∀k n off len,get fr x=.sl k n off len->h'.fams[k]?=h.fams[k]?)->∃AQ,A7 O c (.slc sz x lo hi mx) B8 h'=some (v,AQ)/\vC h h1 h' AQ/\vD h h1 h' AQ:=λhk=>by
   simp only[A7]at he;split at he
   .rename_i l u m e1 e2 e3;split at he
    .rename_i w hw;cases he;exact⟨h',by simp only[A7,gx,g1,g2,g3,e1,e2,e3,key hk,hw],Cz rfl rfl,BC rfl rfl⟩
    .cases he
   .cases he
  cases hx:get fr x
  case sl k n off len =>
   refine fin λk' n' off' len' e=>?_;rw[hx]at e;cases e;simp only[Gl,hx]at hf;exact XD hf e_
  all_goals exact fin λk' n' off' len' e=>by rw[hx]at e;cases e
 case mkslice z b l q =>
  have gl:=B6 (x:=l) λt ht=>hs t b_;have gq:=B6 (x:=q) λt ht=>hs t b_;have hl:=sg (h:=h) (h':=h') (L:=[none]) hf e_;simp only[A7]at he;split at he
  .rename_i _ _ k1 a1 k2 b1 e1 e2;split at he
   .rename_i hq;cases he;exact⟨{h' with fams:=h'.fams++[⟨zf5z a1.toNat z,z.cells.length,true⟩]},by simp only[A7,gl,gq,e1,e2,if_pos hq,hl],Cz rfl rfl,rY rfl rfl hl⟩
   .cases he
  .cases he
 case clr z x =>
  have gx:=B6 (x:=x) λt ht=>hs t b_;cases hx:get fr x
  case sl k n off len =>
   simp only[Gl,hx]at hf;have hff:=XD (k:=k) hf e_;simp only[A7,hx,VN]at he;cases hc:h.fams[k]? with
   |none=>simp only[hc]at he;cases he
   |some f =>
    rw[hc]at hff;simp only[hc]at he;split at he
    .rename_i hq;cases he;exact⟨{h' with fams:=h'.fams.set k {f with xs:=f.xs.take off++zf5z len z++f.xs.drop (off+len)}},by simp only[A7,gx,hx,VN,hff,if_pos hq],Cz rfl rfl,Yq rfl rfl hc hff⟩
    .cases he
  all_goals exact kind (λq=>by simp[ROp.looksB]at q) (λ_=>by simp only[Gl,hx])
 all_goals exact kind (λq=>by first|rfl|(simp[ROp.looksB]at q;done)) (λq=>by first|rfl|(simp[ROp.looksF]at q;done))
end
end Go.Abs
