/- A part of the proof. -/
import Derived.Test.YtjhgilockkmniaaGreatDoorSJ12
set_option linter.all false
open List renaming getElem?_eq_some_iff->zf0z,getElem?_eq_none->zf1z,getElem?_append_left->zf2z,all_cons->zf3z,replicate->zf5z,getElem?_set_ne->zf6z,ext_getElem?->zf8z
open Bool renaming and_eq_true->zf4z,false_eq_true->zf7z
open Nat renaming lt_trichotomy->zf9z
open Option renaming map_some->zg0z
namespace Go.Abs
def cB (h:AH):Option Nat->Nat×Option (List AV)
 |none=>(h.boxes.length,none)
 |some i=>(0,h.boxes[i]?)
def cF (h:AH):Option Nat->Nat×Option Fam
 |none=>(h.fams.length,none)
 |some i=>(0,h.fams[i]?)
def uH (r:Option (List (Option Nat))) (P:Option Nat->Prop):Prop:=match r with|none=>∀x,P x|some L=>∀x∈L,P x
theorem QK {h h':AH} (H:∀x,cB h' x=cB h x):h'.boxes=h.boxes:=zf8z λi=>by have:=H (some i);simpa[cB]using this
theorem Ta {h h':AH} (H:∀x,cF h' x=cF h x):h'.fams=h.fams:=zf8z λi=>by have:=H (some i);simpa[cF]using this
theorem TK {h h':AH} (e:h'.boxes=h.boxes) (x:Option Nat):cB h' x=cB h x:=by cases x<;>simp[cB,e]
theorem TL {h h':AH} (e:h'.fams=h.fams) (x:Option Nat):cF h' x=cF h x:=by cases x<;>simp[cF,e]
def ar (h h1 h' X7:AH):Prop:=∀x,(cB h1 x=cB h x->cB X7 x=cB h' x)/\(cB h1 x≠cB h x->cB X7 x=cB h1 x)
def aw (h h1 h' X7:AH):Prop:=∀x,(cF h1 x=cF h x->cF X7 x=cF h' x)/\(cF h1 x≠cF h x->cF X7 x=cF h1 x)
section
variable {h h1 h' X7:AH}
theorem au (e1:h'.boxes=h.boxes) (e2:X7.boxes=h1.boxes):ar h h1 h' X7:=λx=>⟨λe=>by rw[TK e2,e,TK e1],λ_=>TK e2 x⟩
theorem ax (e1:h'.fams=h.fams) (e2:X7.fams=h1.fams):aw h h1 h' X7:=λx=>⟨λe=>by rw[TL e2,e,TL e1],λ_=>TL e2 x⟩
theorem AO (e1:h1.boxes=h.boxes) (e2:X7.boxes=h'.boxes):ar h h1 h' X7:=λx=>⟨λ_=>TK e2 x,λe=>absurd (TK e1 x) e⟩
theorem X8 (e1:h1.fams=h.fams) (e2:X7.fams=h'.fams):aw h h1 h' X7:=λx=>⟨λ_=>TL e2 x,λe=>absurd (TL e1 x) e⟩
theorem LI {b:Nat} {cs old:C6} (e1:h1.boxes=h.boxes.set b cs) (e2:X7.boxes=h'.boxes.set b cs) (hb:h.boxes[b]?=some old) (hb':h'.boxes[b]?=some old):ar h h1 h' X7:=by
 have l1:=(zf0z.1 hb).1;have l2:=(zf0z.1 hb').1;intro x;cases x with
 |none=>simp[cB,e1,e2]
 |some i =>
  by_cases hi:b=i
  .subst hi;have g1:=(zf0z.1 hb).2;have g2:=(zf0z.1 hb').2;simp[cB,e1,e2,l1,l2,g1,g2]
  .simp[cB,e1,e2,zf6z hi]
theorem Na {b:Nat} {f old:Fam} (e1:h1.fams=h.fams.set b f) (e2:X7.fams=h'.fams.set b f) (hb:h.fams[b]?=some old) (hb':h'.fams[b]?=some old):aw h h1 h' X7:=by
 have l1:=(zf0z.1 hb).1;have l2:=(zf0z.1 hb').1;intro x;cases x with
 |none=>simp[cF,e1,e2]
 |some i =>
  by_cases hi:b=i
  .subst hi;have g1:=(zf0z.1 hb).2;have g2:=(zf0z.1 hb').2;simp[cF,e1,e2,l1,l2,g1,g2]
  .simp[cF,e1,e2,zf6z hi]
theorem NZ {cs:C6} (e1:h1.boxes=h.boxes++[cs]) (e2:X7.boxes=h'.boxes++[cs]) (hl:h'.boxes.length=h.boxes.length):ar h h1 h' X7:=by
 intro x;cases x with
 |none=>simp[cB,e1,e2,hl]
 |some i =>
  rcases zf9z i h.boxes.length with h3|h3|h3
  .have h4:i<h'.boxes.length:=by omega
   simp[cB,e1,e2,zf2z h3,zf2z h4]
  .subst h3;simp[cB,e1,e2,←hl]
  .simp[cB,e1,e2,zf1z (l:=h.boxes) (i:=i) (by omega),zf1z (l:=h'.boxes) (i:=i) (by omega),zf1z (l:=h.boxes++[cs]) (i:=i) (by simp;omega),zf1z (l:=h'.boxes++[cs]) (i:=i) (by simp;omega)]
theorem XM {f:Fam} (e1:h1.fams=h.fams++[f]) (e2:X7.fams=h'.fams++[f]) (hl:h'.fams.length=h.fams.length):aw h h1 h' X7:=by
 intro x;cases x with
 |none=>simp[cF,e1,e2,hl]
 |some i =>
  rcases zf9z i h.fams.length with h3|h3|h3
  .have h4:i<h'.fams.length:=by omega
   simp[cF,e1,e2,zf2z h3,zf2z h4]
  .subst h3;simp[cF,e1,e2,←hl]
  .simp[cF,e1,e2,zf1z (l:=h.fams) (i:=i) (by omega),zf1z (l:=h'.fams) (i:=i) (by omega),zf1z (l:=h.fams++[f]) (i:=i) (by simp;omega),zf1z (l:=h'.fams++[f]) (i:=i) (by simp;omega)]
end
section
variable {O:Orc} {c:Ctx} {fr fr':Fr} {h h' h1:AH} {v:AV}
theorem SG {r:ROp} (hs:∀t∈r.slots,fr'.getD t B3=fr.getD t B3) (hb:r.looksB=true->∀x,cB h' x=cB h x) (hf:r.looksF=true->∀x,cF h' x=cF h x) (he:A3 O c r fr h=some (v,h1)) :
  ∃X7,A3 O c r fr' h'=some (v,X7)/\ar h h1 h' X7/\aw h h1 h' X7:=by
 have hb':=λq=>QK (hb q);have hf':=λq=>Ta (hf q);obtain⟨X7,e1,e2,e3⟩:=UP hs hb' hf' he;refine⟨X7,e1,?_,?_⟩
 .by_cases hw:r.writesB c=true
  .exact au (hb' (Fx _ hw)) (e2 hw)
  .have hw':r.writesB c=false:=by simpa using hw
   exact AO ((Hp he).1 hw') ((Hp e1).1 hw')
 .by_cases hw:r.writesF c=true
  .exact ax (hf' (IG _ hw)) (e3 hw)
  .have hw':r.writesF c=false:=by simpa using hw
   exact X8 ((Hp he).2 hw') ((Hp e1).2 hw')
theorem Oe {agg:Bool} {n:Nat} {p u:AV} (hb:∀b off,p=.ptr b off->h'.boxes[b]?=h.boxes[b]?) (hf:∀k m i q s,p=.ep k m i q s->h'.fams[k]?=h.fams[k]?) (he:x7 h agg n p=some u):x7 h' agg n p=some u:=by
 cases p<;>simp only[x7]at he⊢<;>try exact he
 .rename_i k m i q s;rw[hf k m i q s rfl];exact he
 .rename_i b off;rw[hb b off rfl];exact he
theorem RU {b:Nat} (H:∀x∈[some b],cB h' x=cB h x):h'.boxes[b]?=h.boxes[b]?:=by have:=H (some b) (by simp);simpa[cB]using this
theorem MK {k:Nat} {L:List (Option Nat)} (H:∀x∈L,cF h' x=cF h x) (hk:some k∈L):h'.fams[k]?=h.fams[k]?:=by have:=H (some k) hk;simpa[cF]using this
theorem Rt (H:∀x∈[(none:Option Nat)],cB h' x=cB h x):h'.boxes.length=h.boxes.length:=by have:=H none (by simp);simpa[cB]using this
theorem Xf {L:List (Option Nat)} (H:∀x∈L,cF h' x=cF h x) (hk:none∈L):h'.fams.length=h.fams.length:=by have:=H none hk;simpa[cF]using this
theorem Vs {sz:Nat} {x:AV} (H:∀k n off len,x=.sl k n off len->h'.fams[k]?=h.fams[k]?):elems h' sz x=elems h sz x:=by
 cases x<;>try rfl
 rename_i k n off len;simp only[elems,H k n off len rfl]
theorem Jn (h:AH) (am:Bool):∀{xs:C6},xs.all BJ=true->j7 h am xs=some xs
 | [],_=>rfl
 |x::xs,hx=>by
  simp only[zf3z,zf4z]at hx;simp[j7,GG h am hx.1,Jn h am hx.2]
theorem OP {x:AV} (hx:x.flat=true) (h h':AH):DQ h x=DQ h' x:=by
 cases x<;>first|rfl|(simp[AV.flat]at hx;done)
theorem Tf {xs:C6} (hx:xs.all AV.flat=true) (h h':AH):xs.all (DQ h)=xs.all (DQ h'):=by
 induction xs with
 |nil=>rfl
 |cons x xs ih =>
  simp only[zf3z,zf4z]at hx;rw[zf3z,zf3z,OP hx.1 h h',ih hx.2]
theorem Ys {x:AV} (hx:BJ x=true) (h h':AH):tame h x=tame h' x:=by
 cases x
 case agg cs =>
  simp only[BJ]at hx;simp only[tame];exact Tf hx h h'
 case tup=>simp[BJ]at hx
 all_goals exact OP (by simpa[BJ]using hx) h h'
theorem Vw {xs:C6} (hx:xs.all BJ=true) (h h':AH):xs.all (tame h)=xs.all (tame h'):=by
 induction xs with
 |nil=>rfl
 |cons x xs ih =>
  simp only[zf3z,zf4z]at hx;rw[zf3z,zf3z,Ys hx.1 h h',ih hx.2]
theorem gH {r:ROp} (hs:∀t∈r.slots,fr'.getD t B3=fr.getD t B3) (hb:uH (FL c h.boxes.length (get fr) r) λx=>cB h' x=cB h x) (hf:uH (DY c (get fr) r) λx=>cF h' x=cF h x) (he:A3 O c r fr h=some (v,h1)) :
  ∃X7,A3 O c r fr' h'=some (v,X7)/\ar h h1 h' X7/\aw h h1 h' X7:=by
 have kind:(r.looksB=true->FL c h.boxes.length (get fr) r=none)->(r.looksF=true->DY c (get fr) r=none)->_:=λk1 k2=>SG (O:=O) (c:=c) (v:=v) (h1:=h1) hs (λq=>by have:=hb;rw[k1 q]at this;exact this) (λq=>by have:=hf;rw[k2 q]at this;exact this) he;cases r
 case ld b n x =>
  have gx:=A5 (x:=x) λt ht=>hs t (by simp[ROp.slots,ht]);simp only[A3]at he;split at he
  .rename_i u hu;cases he;have:x7 h' b n (get fr x)=some v:=Oe (λb o e=>by simp only[FL,e]at hb;exact RU hb) (λk m i q s e=>by simp only[DY,e]at hf;exact MK hf (by simp)) hu;exact⟨h',by simp only[A3,gx,this],AO rfl rfl,X8 rfl rfl⟩
  .cases he
 case ldb b n x =>
  have gx:=A5 (x:=x) λt ht=>hs t (by simp[ROp.slots,ht]);cases hx:get fr x
  case ep=>simp only[A3,hx]at he;cases he
  all_goals
   simp only[A3,hx]at he;split at he
   .rename_i u hu;cases he;have:=Oe (h':=h') (λb o e=>by simp only[FL,hx,e]at hb;exact RU hb) (λk m i q s e=>by cases e) hu;exact⟨h',by simp only[A3,gx,hx,this],AO rfl rfl,X8 rfl rfl⟩
   .cases he
 case st n a x =>
  have ga:=A5 (x:=a) λt ht=>hs t (by simp[ROp.slots,ht]);have gx:=A5 (x:=x) λt ht=>hs t (by simp[ROp.slots,ht]);cases ha:get fr a
  case ptr b off =>
   simp only[FL,ha]at hb;have hbb:=RU hb;simp only[A3,ha,x9]at he;cases hc:h.boxes[b]? with
   |none=>simp only[hc]at he;cases he
   |some cs =>
    rw[hc]at hbb;simp only[hc]at he;by_cases hq:BA cs=false/\(get fr x).isTup=false/\(get fr x).cells.length=n/\off+n<=cs.length
    .rw[if_pos hq]at he;cases he;exact⟨{h' with boxes:=h'.boxes.set b (S5 cs off (get fr x).cells)},by simp only[A3,ga,gx,ha,x9,hbb,if_pos hq],LI rfl rfl hc hbb,X8 rfl rfl⟩
    .rw[if_neg hq]at he;cases S6:al h b n off (get fr x) cs with
     |none=>rw[S6]at he;cases he
     |some h2 =>
      rw[S6]at he;cases he;unfold al at S6;split at S6
      .rename_i t ys;split at S6
       .rename_i hq2;cases S6;exact⟨{h' with boxes:=h'.boxes.set b [.tbox t (S5 ys off (get fr x).cells)]},by simp only[A3,ga,gx,ha,x9,hbb,if_neg hq,al,if_pos hq2],LI rfl rfl hc hbb,X8 rfl rfl⟩
       .cases S6
      .cases S6
  all_goals exact kind (λ_=>by simp only[FL,ha]) (λ_=>by simp only[DY,ha])
 case stb n a x =>
  have ga:=A5 (x:=a) λt ht=>hs t (by simp[ROp.slots,ht]);have gx:=A5 (x:=x) λt ht=>hs t (by simp[ROp.slots,ht]);cases ha:get fr a
  case ptr b off =>
   simp only[FL,ha]at hb;have hbb:=RU hb;simp only[A3,ha,Me]at he;cases hc:h.boxes[b]? with
   |none=>simp only[hc]at he;cases he
   |some cs =>
    rw[hc]at hbb;simp only[hc]at he;by_cases hq:BA cs=false/\(get fr x).isTup=false/\(get fr x).cells.length=n/\off+n<=cs.length
    .rw[if_pos hq]at he;cases he;exact⟨{h' with boxes:=h'.boxes.set b (S5 cs off (get fr x).cells)},by simp only[A3,ga,gx,ha,Me,hbb,if_pos hq],LI rfl rfl hc hbb,X8 rfl rfl⟩
    .rw[if_neg hq]at he;cases S6:al h b n off (get fr x) cs with
     |none=>rw[S6]at he;cases he
     |some h2 =>
      rw[S6]at he;cases he;unfold al at S6;split at S6
      .rename_i t ys;split at S6
       .rename_i hq2;cases S6;exact⟨{h' with boxes:=h'.boxes.set b [.tbox t (S5 ys off (get fr x).cells)]},by simp only[A3,ga,gx,ha,Me,hbb,if_neg hq,al,if_pos hq2,zg0z],LI rfl rfl hc hbb,X8 rfl rfl⟩
       .cases S6
      .cases S6
  all_goals exact kind (λ_=>by simp only[FL,ha]) (λq=>by simp[ROp.looksF]at q)
 case ste n a x =>
  have ga:=A5 (x:=a) λt ht=>hs t (by simp[ROp.slots,ht]);have gx:=A5 (x:=x) λt ht=>hs t (by simp[ROp.slots,ht]);cases ha:get fr a
  case ep k m i q sz =>
   simp only[DY,ha]at hf;have hff:=MK (k:=k) hf (by simp);simp only[A3,ha,NY]at he;split at he
   .rename_i hx;split at he
    .rename_i h2 S6;cases he;unfold FB at S6;cases hc:h.fams[k]? with
     |none=>simp only[hc]at S6;cases S6
     |some f =>
      rw[hc]at hff;simp only[hc,GG h false hx]at S6;split at S6
      .rename_i hq;split at S6
       .rename_i y u hy hu;obtain rfl:get fr x=u:=by simpa using hu
        split at S6
        .rename_i hl;rw[Option.map_eq_some_iff]at S6;obtain⟨z,hz,rfl⟩:=S6;refine⟨{h' with fams:=h'.fams.set k {f with xs:=f.xs.set i z}},?_,AO rfl rfl,Na rfl rfl hc hff⟩
         simp only[A3,ga,gx,ha,NY,if_pos hx,FB,hff,if_pos hq,hy,GG h' false hx,if_pos hl,hz,zg0z]
        .cases S6
       .cases S6
      .cases S6
    .cases he
   .cases he
  all_goals exact kind (λq=>by simp[ROp.looksB]at q) (λ_=>by simp only[DY,ha])
 case box x =>
  have gx:=A5 (x:=x) λt ht=>hs t (by simp[ROp.slots,ht]);have hl:=Rt hb;simp only[A3]at he;split at he
  .cases he
  .rename_i hq;cases he;exact⟨{h' with boxes:=h'.boxes++[(get fr x).cells]},by simp only[A3,gx,if_neg hq,hl],NZ rfl rfl hl,X8 rfl rfl⟩
 case alloc z =>
  have hl:=Rt hb;simp only[A3]at he;cases he;exact⟨{h' with boxes:=h'.boxes++[z.cells]},by simp only[A3,hl],NZ rfl rfl hl,X8 rfl rfl⟩
 case allocAt n z =>
  have hl:h'.boxes.length=h.boxes.length:=by have:=hb none (by simp[FL]);simpa[cB]using this
  have hbb:h'.boxes[h.boxes.length-n]?=h.boxes[h.boxes.length-n]?:=by have:=hb (some (h.boxes.length-n)) (by simp[FL]);simpa[cB]using this
  simp only[A3,BH]at he;split at he
  .rename_i cs w8;split at he
   .rename_i hc;cases he;rw[w8]at hbb;exact⟨{h' with boxes:=h'.boxes.set (h.boxes.length-n) z.cells},by simp only[A3,BH,hl,hbb,if_pos hc],LI rfl rfl w8 hbb,X8 rfl rfl⟩
   .cases he
  .cases he
 case mkmap =>
  have hl:=Rt hb;simp only[A3]at he;cases he;exact⟨{h' with boxes:=h'.boxes++[[.mbox [] []]]},by simp only[A3,hl],NZ rfl rfl hl,X8 rfl rfl⟩
 case mkb z b l q =>
  have gl:=A5 (x:=l) λt ht=>hs t (by simp[ROp.slots,ht]);have gq:=A5 (x:=q) λt ht=>hs t (by simp[ROp.slots,ht]);have hl:=Rt hb;simp only[A3,Og]at he;split at he
  .rename_i _ _ k1 a1 k2 b1 e1 e2;split at he
   .rename_i hq;cases he;exact⟨{h' with boxes:=h'.boxes++[(zf5z a1.toNat z.cells).flatten]},by simp only[A3,Og,gl,gq,e1,e2,if_pos hq,hl],NZ rfl rfl hl,X8 rfl rfl⟩
   .cases he
  .cases he
 case call f aas =>
  by_cases hq:(!c.raw f&&(aas.map (get fr)).all BJ)=true
  .simp only[zf4z,Bool.not_eq_true']at hq;have ea:aas.map (get fr')=aas.map (get fr):=FQ (xs:=aas) λt ht=>hs t (by simpa[ROp.slots]using ht);simp only[A3,DO,hq.1,zf7z,if_false]at he;rw[Jn h true hq.2]at he;simp only at he;split at he
   .cases he
   .rename_i r hr;split at he
    .rename_i hc;cases he;refine⟨h',?_,AO rfl rfl,X8 rfl rfl⟩;rw[Vw hq.2 h h']at hc;simp only[A3,DO,hq.1,zf7z,if_false,ea];rw[Jn h' true hq.2];simp only[hr,if_pos hc]
    .cases he
  .exact kind (λ_=>by simp only[FL,if_neg hq]) (λ_=>by simp only[DY,if_neg hq])
 case bslice n z ps =>
  by_cases hq:ps.all (λp=>BJ (get fr p.2))=true
  .simp only[A3]at he;have e2:=BR (h:=h') (xs:=zf5z n z) (ps:=ps) λt ht=>hs t (by simpa[ROp.slots]using ht);rw[GS h h' hq]at e2;split at he
   .rename_i xs hx;cases he;exact⟨h',by simp only[A3,e2,hx],AO rfl rfl,X8 rfl rfl⟩
   .cases he
  .exact kind (λ_=>by simp only[FL,if_neg hq]) (λ_=>by simp only[DY,if_neg hq])
 case app sz b s x =>
  have gs:=A5 (x:=s) λt ht=>hs t (by simp[ROp.slots,ht]);have gx:=A5 (x:=x) λt ht=>hs t (by simp[ROp.slots,ht]);have el:∀L:List (Option Nat),(∀y∈L,cF h' y=cF h y)->(∀k n off len,get fr x=.sl k n off len->some k∈L)->elems h' sz (get fr x)=elems h sz (get fr x):=λL HL hk=>Vs λk n off len e=>MK HL (hk k n off len e);have fin1:∀L:List (Option Nat),(∀y∈L,cF h' y=cF h y)->none∈L->(∀k n off len,get fr x=.sl k n off len->some k∈L)->∀full z xs,get fr s=.vs full z xs->∃X7,A3 O c (.app sz b s x) fr' h'=some (v,X7)/\ar h h1 h' X7/\aw h h1 h' X7:=by
   intro L HL hn hk full z xs e;have hl:=Xf HL hn;simp only[A3,e,N7,U4]at he;simp only[A3,gs,gx,e,N7,U4,el L HL hk];cases Jp:elems h sz (get fr x)with
   |none=>simp only[Jp]at he;cases he
   |some ys =>
    simp only[Jp]at he ⊢;cases full with
    |false=>cases he
    |true =>
     simp only at he ⊢;split at he
     .rename_i hq;cases he;exact⟨h',by rw[if_pos hq],AO rfl rfl,X8 rfl rfl⟩
     .rename_i hq;split at he
      .rename_i hq2;cases he;exact⟨{h' with fams:=h'.fams++[⟨xs++ys,sz,c.mutApp⟩]},by rw[if_neg hq,if_pos hq2,hl],AO rfl rfl,XM rfl rfl hl⟩
      .cases he
  have fin2:∀L:List (Option Nat),(∀y∈L,cF h' y=cF h y)->(∀k n off len,get fr x=.sl k n off len->some k∈L)->∀k n off len,get fr s=.sl k n off len->some k∈L->∃X7,A3 O c (.app sz b s x) fr' h'=some (v,X7)/\ar h h1 h' X7/\aw h h1 h' X7:=by
   intro L HL hk k n off len e hkL;have hff:=MK HL hkL;simp only[A3,e,N7,U4]at he;simp only[A3,gs,gx,e,N7,U4,el L HL hk];cases Jp:elems h sz (get fr x)with
   |none=>simp only[Jp]at he;cases he
   |some ys =>
    simp only[Jp]at he ⊢;cases hc:h.fams[k]? with
    |none=>simp only[hc]at he;cases he
    |some f =>
     rw[hc]at hff;simp only[hc,hff]at he ⊢;split at he
     .rename_i hq;cases he;exact⟨{h' with fams:=h'.fams.set k {f with xs:=f.xs++ys}},by rw[if_pos hq],AO rfl rfl,Na rfl rfl hc hff⟩
     .rename_i hq;split at he
      .rename_i hq2;cases he;exact⟨{h' with fams:=h'.fams.set k {f with xs:=f.xs.take (off+len)++ys++f.xs.drop (off+len+ys.length)}},by rw[if_neg hq,if_pos hq2],AO rfl rfl,Na rfl rfl hc hff⟩
      .cases he
  cases h1s:get fr s
  case vs full z xs =>
   cases h1x:get fr x
   case vs=>simp only[DY,h1s,h1x]at hf;exact fin1 _ hf (by simp) (λk n off len e=>by rw[h1x]at e;cases e) _ _ _ h1s
   case sl k n off len=>simp only[DY,h1s,h1x]at hf;exact fin1 _ hf (by simp) (λk n off len e=>by rw[h1x]at e;cases e;simp) _ _ _ h1s
   all_goals exact kind (λq=>by simp[ROp.looksB]at q) (λ_=>by simp only[DY,h1s,h1x])
  case sl k0 n0 off0 len0 =>
   cases h1x:get fr x
   case vs=>simp only[DY,h1s,h1x]at hf;exact fin2 _ hf (λk n off len e=>by rw[h1x]at e;cases e) _ _ _ _ h1s (by simp)
   case sl k n off len=>simp only[DY,h1s,h1x]at hf;exact fin2 _ hf (λk n off len e=>by rw[h1x]at e;cases e;simp) _ _ _ _ h1s (by simp)
   all_goals exact kind (λq=>by simp[ROp.looksB]at q) (λ_=>by simp only[DY,h1s,h1x])
  all_goals exact kind (λq=>by simp[ROp.looksB]at q) (λ_=>by simp only[DY,h1s])
 case slc sz x lo hi mx =>
  have gx:=A5 (x:=x) λt ht=>hs t (by simp[ROp.slots,ht]);have g1:=EJ (x:=lo) λt ht=>hs t (by simp[ROp.slots,ht]);have g2:=EJ (x:=hi) λt ht=>hs t (by simp[ROp.slots,ht]);have g3:=EJ (x:=mx) λt ht=>hs t (by simp[ROp.slots,ht]);have key:(∀k n off len,get fr x=.sl k n off len->h'.fams[k]?=h.fams[k]?)->∀l u m,Ez h' sz (get fr x) l u m=Ez h sz (get fr x) l u m:=λhk l u m=>by
   cases hx:get fr x<;>try rfl
   rename_i k n off len;simp only[Ez,hk k n off len hx]
  have fin:(∀k n off len,get fr x=.sl k n off len->h'.fams[k]?=h.fams[k]?)->∃X7,A3 O c (.slc sz x lo hi mx) fr' h'=some (v,X7)/\ar h h1 h' X7/\aw h h1 h' X7:=λhk=>by
   simp only[A3]at he;split at he
   .rename_i l u m e1 e2 e3;split at he
    .rename_i w hw;cases he;exact⟨h',by simp only[A3,gx,g1,g2,g3,e1,e2,e3,key hk,hw],AO rfl rfl,X8 rfl rfl⟩
    .cases he
   .cases he
  cases hx:get fr x
  case sl k n off len =>
   refine fin λk' n' off' len' e=>?_;rw[hx]at e;cases e;simp only[DY,hx]at hf;exact MK hf (by simp)
  all_goals exact fin λk' n' off' len' e=>by rw[hx]at e;cases e
 case mkslice z b l q =>
  have gl:=A5 (x:=l) λt ht=>hs t (by simp[ROp.slots,ht]);have gq:=A5 (x:=q) λt ht=>hs t (by simp[ROp.slots,ht]);have hl:=Xf (h:=h) (h':=h') (L:=[none]) hf (by simp);simp only[A3]at he;split at he
  .rename_i _ _ k1 a1 k2 b1 e1 e2;split at he
   .rename_i hq;cases he;exact⟨{h' with fams:=h'.fams++[⟨zf5z a1.toNat z,z.cells.length,true⟩]},by simp only[A3,gl,gq,e1,e2,if_pos hq,hl],AO rfl rfl,XM rfl rfl hl⟩
   .cases he
  .cases he
 case clr z x =>
  have gx:=A5 (x:=x) λt ht=>hs t (by simp[ROp.slots,ht]);cases hx:get fr x
  case sl k n off len =>
   simp only[DY,hx]at hf;have hff:=MK (k:=k) hf (by simp);simp only[A3,hx,LS]at he;cases hc:h.fams[k]? with
   |none=>simp only[hc]at he;cases he
   |some f =>
    rw[hc]at hff;simp only[hc]at he;split at he
    .rename_i hq;cases he;exact⟨{h' with fams:=h'.fams.set k {f with xs:=f.xs.take off++zf5z len z++f.xs.drop (off+len)}},by simp only[A3,gx,hx,LS,hff,if_pos hq],AO rfl rfl,Na rfl rfl hc hff⟩
    .cases he
  all_goals exact kind (λq=>by simp[ROp.looksB]at q) (λ_=>by simp only[DY,hx])
 all_goals exact kind (λq=>by first|rfl|(simp[ROp.looksB]at q;done)) (λq=>by first|rfl|(simp[ROp.looksF]at q;done))
end
end Go.Abs
