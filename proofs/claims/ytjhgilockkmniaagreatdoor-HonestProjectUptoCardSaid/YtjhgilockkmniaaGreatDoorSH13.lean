/- A part of the proof. -/
import Derived.Test.YtjhgilockkmniaaGreatDoorSH12
set_option linter.all false
open List renaming getElem?_eq_some_iff->zf0z,getElem?_eq_none->zf1z,getElem?_append_left->zf2z,all_cons->zf3z,replicate->zf5z,getElem?_set_ne->zf6z,ext_getElem?->zf8z
open Bool renaming and_eq_true->zf4z,false_eq_true->zf7z
open Nat renaming lt_trichotomy->zf9z
open Option renaming map_some->zg0z
namespace Go.Abs
def cB (h:AH):Option Nat->Nat×Option (List AV)
 |none=>(h.boxes.length,none)
 |some i=>(0,h.boxes[i]?)
def cF (h:AH):Option Nat->Nat×Option Fam
 |none=>(h.fams.length,none)
 |some i=>(0,h.fams[i]?)
def tB (r:Option (List (Option Nat))) (P:Option Nat->Prop):Prop:=match r with|none=>∀x,P x|some L=>∀x∈L,P x
theorem Pw {h h':AH} (H:∀x,cB h' x=cB h x):h'.boxes=h.boxes:=zf8z λi=>by have:=H (some i);simpa[cB]using this
theorem TE {h h':AH} (H:∀x,cF h' x=cF h x):h'.fams=h.fams:=zf8z λi=>by have:=H (some i);simpa[cF]using this
theorem Sn {h h':AH} (e:h'.boxes=h.boxes) (x:Option Nat):cB h' x=cB h x:=by cases x<;>simp[cB,e]
theorem So {h h':AH} (e:h'.fams=h.fams) (x:Option Nat):cF h' x=cF h x:=by cases x<;>simp[cF,e]
def aL (h h1 h' U1:AH):Prop:=∀x,(cB h1 x=cB h x->cB U1 x=cB h' x)/\(cB h1 x≠cB h x->cB U1 x=cB h1 x)
def aN (h h1 h' U1:AH):Prop:=∀x,(cF h1 x=cF h x->cF U1 x=cF h' x)/\(cF h1 x≠cF h x->cF U1 x=cF h1 x)
section
variable {h h1 h' U1:AH}
theorem aM (e1:h'.boxes=h.boxes) (e2:U1.boxes=h1.boxes):aL h h1 h' U1:=λx=>⟨λe=>by rw[Sn e2,e,Sn e1],λ_=>Sn e2 x⟩
theorem aO (e1:h'.fams=h.fams) (e2:U1.fams=h1.fams):aN h h1 h' U1:=λx=>⟨λe=>by rw[So e2,e,So e1],λ_=>So e2 x⟩
theorem AC (e1:h1.boxes=h.boxes) (e2:U1.boxes=h'.boxes):aL h h1 h' U1:=λx=>⟨λ_=>Sn e2 x,λe=>absurd (Sn e1 x) e⟩
theorem W9 (e1:h1.fams=h.fams) (e2:U1.fams=h'.fams):aN h h1 h' U1:=λx=>⟨λ_=>So e2 x,λe=>absurd (So e1 x) e⟩
theorem LA {b:Nat} {cs old:C6} (e1:h1.boxes=h.boxes.set b cs) (e2:U1.boxes=h'.boxes.set b cs) (hb:h.boxes[b]?=some old) (hb':h'.boxes[b]?=some old):aL h h1 h' U1:=by
 have l1:=(zf0z.1 hb).1;have l2:=(zf0z.1 hb').1;intro x;cases x with
 |none=>simp[cB,e1,e2]
 |some i =>
  by_cases hi:b=i
  .subst hi;have g1:=(zf0z.1 hb).2;have g2:=(zf0z.1 hb').2;simp[cB,e1,e2,l1,l2,g1,g2]
  .simp[cB,e1,e2,zf6z hi]
theorem NR {b:Nat} {f old:Fam} (e1:h1.fams=h.fams.set b f) (e2:U1.fams=h'.fams.set b f) (hb:h.fams[b]?=some old) (hb':h'.fams[b]?=some old):aN h h1 h' U1:=by
 have l1:=(zf0z.1 hb).1;have l2:=(zf0z.1 hb').1;intro x;cases x with
 |none=>simp[cF,e1,e2]
 |some i =>
  by_cases hi:b=i
  .subst hi;have g1:=(zf0z.1 hb).2;have g2:=(zf0z.1 hb').2;simp[cF,e1,e2,l1,l2,g1,g2]
  .simp[cF,e1,e2,zf6z hi]
theorem NQ {cs:C6} (e1:h1.boxes=h.boxes++[cs]) (e2:U1.boxes=h'.boxes++[cs]) (hl:h'.boxes.length=h.boxes.length):aL h h1 h' U1:=by
 intro x;cases x with
 |none=>simp[cB,e1,e2,hl]
 |some i =>
  rcases zf9z i h.boxes.length with h3|h3|h3
  .have h4:i<h'.boxes.length:=by omega
   simp[cB,e1,e2,zf2z h3,zf2z h4]
  .subst h3;simp[cB,e1,e2,←hl]
  .simp[cB,e1,e2,zf1z (l:=h.boxes) (i:=i) (by omega),zf1z (l:=h'.boxes) (i:=i) (by omega),zf1z (l:=h.boxes++[cs]) (i:=i) (by simp;omega),zf1z (l:=h'.boxes++[cs]) (i:=i) (by simp;omega)]
theorem Wh {f:Fam} (e1:h1.fams=h.fams++[f]) (e2:U1.fams=h'.fams++[f]) (hl:h'.fams.length=h.fams.length):aN h h1 h' U1:=by
 intro x;cases x with
 |none=>simp[cF,e1,e2,hl]
 |some i =>
  rcases zf9z i h.fams.length with h3|h3|h3
  .have h4:i<h'.fams.length:=by omega
   simp[cF,e1,e2,zf2z h3,zf2z h4]
  .subst h3;simp[cF,e1,e2,←hl]
  .simp[cF,e1,e2,zf1z (l:=h.fams) (i:=i) (by omega),zf1z (l:=h'.fams) (i:=i) (by omega),zf1z (l:=h.fams++[f]) (i:=i) (by simp;omega),zf1z (l:=h'.fams++[f]) (i:=i) (by simp;omega)]
end
section
variable {O:Orc} {c:Ctx} {fr fr':Fr} {h h' h1:AH} {v:AV}
theorem Rn {r:ROp} (hs:∀t∈r.slots,fr'.getD t B3=fr.getD t B3) (hb:r.looksB=true->∀x,cB h' x=cB h x) (hf:r.looksF=true->∀x,cF h' x=cF h x) (he:A3 O c r fr h=some (v,h1)) :
  ∃U1,A3 O c r fr' h'=some (v,U1)/\aL h h1 h' U1/\aN h h1 h' U1:=by
 have hb':=λq=>Pw (hb q);have hf':=λq=>TE (hf q);obtain⟨U1,e1,e2,e3⟩:=Tt hs hb' hf' he;refine⟨U1,e1,?_,?_⟩
 .by_cases hw:r.writesB c=true
  .exact aM (hb' (Fl _ hw)) (e2 hw)
  .have hw':r.writesB c=false:=by simpa using hw
   exact AC ((Hg he).1 hw') ((Hg e1).1 hw')
 .by_cases hw:r.writesF c=true
  .exact aO (hf' (IA _ hw)) (e3 hw)
  .have hw':r.writesF c=false:=by simpa using hw
   exact W9 ((Hg he).2 hw') ((Hg e1).2 hw')
theorem OV {agg:Bool} {n:Nat} {p u:AV} (hb:∀b off,p=.ptr b off->h'.boxes[b]?=h.boxes[b]?) (hf:∀k m i q s,p=.ep k m i q s->h'.fams[k]?=h.fams[k]?) (he:uF h agg n p=some u):uF h' agg n p=some u:=by
 cases p<;>simp only[uF]at he⊢<;>try exact he
 .rename_i k m i q s;rw[hf k m i q s rfl];exact he
 .rename_i b off;rw[hb b off rfl];exact he
theorem RA {b:Nat} (H:∀x∈[some b],cB h' x=cB h x):h'.boxes[b]?=h.boxes[b]?:=by have:=H (some b) (by simp);simpa[cB]using this
theorem MD {k:Nat} {L:List (Option Nat)} (H:∀x∈L,cF h' x=cF h x) (hk:some k∈L):h'.fams[k]?=h.fams[k]?:=by have:=H (some k) hk;simpa[cF]using this
theorem RZ (H:∀x∈[(none:Option Nat)],cB h' x=cB h x):h'.boxes.length=h.boxes.length:=by have:=H none (by simp);simpa[cB]using this
theorem Wy {L:List (Option Nat)} (H:∀x∈L,cF h' x=cF h x) (hk:none∈L):h'.fams.length=h.fams.length:=by have:=H none hk;simpa[cF]using this
theorem VU {sz:Nat} {x:AV} (H:∀k n off len,x=.sl k n off len->h'.fams[k]?=h.fams[k]?):elems h' sz x=elems h sz x:=by
 cases x<;>try rfl
 rename_i k n off len;simp only[elems,H k n off len rfl]
theorem Jc (h:AH) (am:Bool):∀{xs:C6},xs.all Bh=true->i4 h am xs=some xs
 | [],_=>rfl
 |x::xs,hx=>by
  simp only[zf3z,zf4z]at hx;simp[i4,Fw h am hx.1,Jc h am hx.2]
theorem OG {x:AV} (hx:x.flat=true) (h h':AH):DY h x=DY h' x:=by
 cases x<;>first|rfl|(simp[AV.flat]at hx;done)
theorem TI {xs:C6} (hx:xs.all AV.flat=true) (h h':AH):xs.all (DY h)=xs.all (DY h'):=by
 induction xs with
 |nil=>rfl
 |cons x xs ih =>
  simp only[zf3z,zf4z]at hx;rw[zf3z,zf3z,OG hx.1 h h',ih hx.2]
theorem YP {x:AV} (hx:Bh x=true) (h h':AH):tame h x=tame h' x:=by
 cases x
 case agg cs =>
  simp only[Bh]at hx;simp only[tame];exact TI hx h h'
 case tup=>simp[Bh]at hx
 all_goals exact OG (by simpa[Bh]using hx) h h'
theorem VY {xs:C6} (hx:xs.all Bh=true) (h h':AH):xs.all (tame h)=xs.all (tame h'):=by
 induction xs with
 |nil=>rfl
 |cons x xs ih =>
  simp only[zf3z,zf4z]at hx;rw[zf3z,zf3z,YP hx.1 h h',ih hx.2]
theorem fQ {r:ROp} (hs:∀t∈r.slots,fr'.getD t B3=fr.getD t B3) (hb:tB (GJ c h.boxes.length (get fr) r) λx=>cB h' x=cB h x) (hf:tB (Ej c (get fr) r) λx=>cF h' x=cF h x) (he:A3 O c r fr h=some (v,h1)) :
  ∃U1,A3 O c r fr' h'=some (v,U1)/\aL h h1 h' U1/\aN h h1 h' U1:=by
 have kind:(r.looksB=true->GJ c h.boxes.length (get fr) r=none)->(r.looksF=true->Ej c (get fr) r=none)->_:=λk1 k2=>Rn (O:=O) (c:=c) (v:=v) (h1:=h1) hs (λq=>by have:=hb;rw[k1 q]at this;exact this) (λq=>by have:=hf;rw[k2 q]at this;exact this) he;cases r
 case ld b n x =>
  have gx:=A5 (x:=x) λt ht=>hs t (by simp[ROp.slots,ht]);simp only[A3]at he;split at he
  .rename_i u hu;cases he;have:uF h' b n (get fr x)=some v:=OV (λb o e=>by simp only[GJ,e]at hb;exact RA hb) (λk m i q s e=>by simp only[Ej,e]at hf;exact MD hf (by simp)) hu;exact⟨h',by simp only[A3,gx,this],AC rfl rfl,W9 rfl rfl⟩
  .cases he
 case ldb b n x =>
  have gx:=A5 (x:=x) λt ht=>hs t (by simp[ROp.slots,ht]);cases hx:get fr x
  case ep=>simp only[A3,hx]at he;cases he
  all_goals
   simp only[A3,hx]at he;split at he
   .rename_i u hu;cases he;have:=OV (h':=h') (λb o e=>by simp only[GJ,hx,e]at hb;exact RA hb) (λk m i q s e=>by cases e) hu;exact⟨h',by simp only[A3,gx,hx,this],AC rfl rfl,W9 rfl rfl⟩
   .cases he
 case st n a x =>
  have ga:=A5 (x:=a) λt ht=>hs t (by simp[ROp.slots,ht]);have gx:=A5 (x:=x) λt ht=>hs t (by simp[ROp.slots,ht]);cases ha:get fr a
  case ptr b off =>
   simp only[GJ,ha]at hb;have hbb:=RA hb;simp only[A3,ha,uG]at he;cases hc:h.boxes[b]? with
   |none=>simp only[hc]at he;cases he
   |some cs =>
    rw[hc]at hbb;simp only[hc]at he;by_cases hq:AZ cs=false/\(get fr x).isTup=false/\(get fr x).cells.length=n/\off+n<=cs.length
    .rw[if_pos hq]at he;cases he;exact⟨{h' with boxes:=h'.boxes.set b (S2 cs off (get fr x).cells)},by simp only[A3,ga,gx,ha,uG,hbb,if_pos hq],LA rfl rfl hc hbb,W9 rfl rfl⟩
    .rw[if_neg hq]at he;cases R7:aI h b n off (get fr x) cs with
     |none=>rw[R7]at he;cases he
     |some h2 =>
      rw[R7]at he;cases he;unfold aI at R7;split at R7
      .rename_i t ys;split at R7
       .rename_i hq2;cases R7;exact⟨{h' with boxes:=h'.boxes.set b [.tbox t (S2 ys off (get fr x).cells)]},by simp only[A3,ga,gx,ha,uG,hbb,if_neg hq,aI,if_pos hq2],LA rfl rfl hc hbb,W9 rfl rfl⟩
       .cases R7
      .cases R7
  all_goals exact kind (λ_=>by simp only[GJ,ha]) (λ_=>by simp only[Ej,ha])
 case stb n a x =>
  have ga:=A5 (x:=a) λt ht=>hs t (by simp[ROp.slots,ht]);have gx:=A5 (x:=x) λt ht=>hs t (by simp[ROp.slots,ht]);cases ha:get fr a
  case ptr b off =>
   simp only[GJ,ha]at hb;have hbb:=RA hb;simp only[A3,ha,MX]at he;cases hc:h.boxes[b]? with
   |none=>simp only[hc]at he;cases he
   |some cs =>
    rw[hc]at hbb;simp only[hc]at he;by_cases hq:AZ cs=false/\(get fr x).isTup=false/\(get fr x).cells.length=n/\off+n<=cs.length
    .rw[if_pos hq]at he;cases he;exact⟨{h' with boxes:=h'.boxes.set b (S2 cs off (get fr x).cells)},by simp only[A3,ga,gx,ha,MX,hbb,if_pos hq],LA rfl rfl hc hbb,W9 rfl rfl⟩
    .rw[if_neg hq]at he;cases R7:aI h b n off (get fr x) cs with
     |none=>rw[R7]at he;cases he
     |some h2 =>
      rw[R7]at he;cases he;unfold aI at R7;split at R7
      .rename_i t ys;split at R7
       .rename_i hq2;cases R7;exact⟨{h' with boxes:=h'.boxes.set b [.tbox t (S2 ys off (get fr x).cells)]},by simp only[A3,ga,gx,ha,MX,hbb,if_neg hq,aI,if_pos hq2,zg0z],LA rfl rfl hc hbb,W9 rfl rfl⟩
       .cases R7
      .cases R7
  all_goals exact kind (λ_=>by simp only[GJ,ha]) (λq=>by simp[ROp.looksF]at q)
 case ste n a x =>
  have ga:=A5 (x:=a) λt ht=>hs t (by simp[ROp.slots,ht]);have gx:=A5 (x:=x) λt ht=>hs t (by simp[ROp.slots,ht]);cases ha:get fr a
  case ep k m i q sz =>
   simp only[Ej,ha]at hf;have hff:=MD (k:=k) hf (by simp);simp only[A3,ha,NO]at he;split at he
   .rename_i hx;split at he
    .rename_i h2 R7;cases he;unfold En at R7;cases hc:h.fams[k]? with
     |none=>simp only[hc]at R7;cases R7
     |some f =>
      rw[hc]at hff;simp only[hc,Fw h false hx]at R7;split at R7
      .rename_i hq;split at R7
       .rename_i y u hy hu;obtain rfl:get fr x=u:=by simpa using hu
        split at R7
        .rename_i hl;rw[Option.map_eq_some_iff]at R7;obtain⟨z,hz,rfl⟩:=R7;refine⟨{h' with fams:=h'.fams.set k {f with xs:=f.xs.set i z}},?_,AC rfl rfl,NR rfl rfl hc hff⟩
         simp only[A3,ga,gx,ha,NO,if_pos hx,En,hff,if_pos hq,hy,Fw h' false hx,if_pos hl,hz,zg0z]
        .cases R7
       .cases R7
      .cases R7
    .cases he
   .cases he
  all_goals exact kind (λq=>by simp[ROp.looksB]at q) (λ_=>by simp only[Ej,ha])
 case box x =>
  have gx:=A5 (x:=x) λt ht=>hs t (by simp[ROp.slots,ht]);have hl:=RZ hb;simp only[A3]at he;split at he
  .cases he
  .rename_i hq;cases he;exact⟨{h' with boxes:=h'.boxes++[(get fr x).cells]},by simp only[A3,gx,if_neg hq,hl],NQ rfl rfl hl,W9 rfl rfl⟩
 case alloc z =>
  have hl:=RZ hb;simp only[A3]at he;cases he;exact⟨{h' with boxes:=h'.boxes++[z.cells]},by simp only[A3,hl],NQ rfl rfl hl,W9 rfl rfl⟩
 case allocAt n z =>
  have hl:h'.boxes.length=h.boxes.length:=by have:=hb none (by simp[GJ]);simpa[cB]using this
  have hbb:h'.boxes[h.boxes.length-n]?=h.boxes[h.boxes.length-n]?:=by have:=hb (some (h.boxes.length-n)) (by simp[GJ]);simpa[cB]using this
  simp only[A3,Ap]at he;split at he
  .rename_i cs s5;split at he
   .rename_i hc;cases he;rw[s5]at hbb;exact⟨{h' with boxes:=h'.boxes.set (h.boxes.length-n) z.cells},by simp only[A3,Ap,hl,hbb,if_pos hc],LA rfl rfl s5 hbb,W9 rfl rfl⟩
   .cases he
  .cases he
 case mkmap =>
  have hl:=RZ hb;simp only[A3]at he;cases he;exact⟨{h' with boxes:=h'.boxes++[[.mbox [] []]]},by simp only[A3,hl],NQ rfl rfl hl,W9 rfl rfl⟩
 case mkb z b l q =>
  have gl:=A5 (x:=l) λt ht=>hs t (by simp[ROp.slots,ht]);have gq:=A5 (x:=q) λt ht=>hs t (by simp[ROp.slots,ht]);have hl:=RZ hb;simp only[A3,NG]at he;split at he
  .rename_i _ _ k1 a1 k2 b1 e1 e2;split at he
   .rename_i hq;cases he;exact⟨{h' with boxes:=h'.boxes++[(zf5z a1.toNat z.cells).flatten]},by simp only[A3,NG,gl,gq,e1,e2,if_pos hq,hl],NQ rfl rfl hl,W9 rfl rfl⟩
   .cases he
  .cases he
 case call f aas =>
  by_cases hq:(!c.raw f&&(aas.map (get fr)).all Bh)=true
  .simp only[zf4z,Bool.not_eq_true']at hq;have ea:aas.map (get fr')=aas.map (get fr):=FE (xs:=aas) λt ht=>hs t (by simpa[ROp.slots]using ht);simp only[A3,DE,hq.1,zf7z,if_false]at he;rw[Jc h true hq.2]at he;simp only at he;split at he
   .cases he
   .rename_i r hr;split at he
    .rename_i hc;cases he;refine⟨h',?_,AC rfl rfl,W9 rfl rfl⟩;rw[VY hq.2 h h']at hc;simp only[A3,DE,hq.1,zf7z,if_false,ea];rw[Jc h' true hq.2];simp only[hr,if_pos hc]
    .cases he
  .exact kind (λ_=>by simp only[GJ,if_neg hq]) (λ_=>by simp only[Ej,if_neg hq])
 case bslice n z ps =>
  by_cases hq:ps.all (λp=>Bh (get fr p.2))=true
  .simp only[A3]at he;have e2:=Ay (h:=h') (xs:=zf5z n z) (ps:=ps) λt ht=>hs t (by simpa[ROp.slots]using ht);rw[GK h h' hq]at e2;split at he
   .rename_i xs hx;cases he;exact⟨h',by simp only[A3,e2,hx],AC rfl rfl,W9 rfl rfl⟩
   .cases he
  .exact kind (λ_=>by simp only[GJ,if_neg hq]) (λ_=>by simp only[Ej,if_neg hq])
 case app sz b s x =>
  have gs:=A5 (x:=s) λt ht=>hs t (by simp[ROp.slots,ht]);have gx:=A5 (x:=x) λt ht=>hs t (by simp[ROp.slots,ht]);have el:∀L:List (Option Nat),(∀y∈L,cF h' y=cF h y)->(∀k n off len,get fr x=.sl k n off len->some k∈L)->elems h' sz (get fr x)=elems h sz (get fr x):=λL HL hk=>VU λk n off len e=>MD HL (hk k n off len e);have fin1:∀L:List (Option Nat),(∀y∈L,cF h' y=cF h y)->none∈L->(∀k n off len,get fr x=.sl k n off len->some k∈L)->∀full z xs,get fr s=.vs full z xs->∃U1,A3 O c (.app sz b s x) fr' h'=some (v,U1)/\aL h h1 h' U1/\aN h h1 h' U1:=by
   intro L HL hn hk full z xs e;have hl:=Wy HL hn;simp only[A3,e,J7,R4]at he;simp only[A3,gs,gx,e,J7,R4,el L HL hk];cases Je:elems h sz (get fr x)with
   |none=>simp only[Je]at he;cases he
   |some ys =>
    simp only[Je]at he ⊢;cases full with
    |false=>cases he
    |true =>
     simp only at he ⊢;split at he
     .rename_i hq;cases he;exact⟨h',by rw[if_pos hq],AC rfl rfl,W9 rfl rfl⟩
     .rename_i hq;split at he
      .rename_i hq2;cases he;exact⟨{h' with fams:=h'.fams++[⟨xs++ys,sz,c.mutApp⟩]},by rw[if_neg hq,if_pos hq2,hl],AC rfl rfl,Wh rfl rfl hl⟩
      .cases he
  have fin2:∀L:List (Option Nat),(∀y∈L,cF h' y=cF h y)->(∀k n off len,get fr x=.sl k n off len->some k∈L)->∀k n off len,get fr s=.sl k n off len->some k∈L->∃U1,A3 O c (.app sz b s x) fr' h'=some (v,U1)/\aL h h1 h' U1/\aN h h1 h' U1:=by
   intro L HL hk k n off len e hkL;have hff:=MD HL hkL;simp only[A3,e,J7,R4]at he;simp only[A3,gs,gx,e,J7,R4,el L HL hk];cases Je:elems h sz (get fr x)with
   |none=>simp only[Je]at he;cases he
   |some ys =>
    simp only[Je]at he ⊢;cases hc:h.fams[k]? with
    |none=>simp only[hc]at he;cases he
    |some f =>
     rw[hc]at hff;simp only[hc,hff]at he ⊢;split at he
     .rename_i hq;cases he;exact⟨{h' with fams:=h'.fams.set k {f with xs:=f.xs++ys}},by rw[if_pos hq],AC rfl rfl,NR rfl rfl hc hff⟩
     .rename_i hq;split at he
      .rename_i hq2;cases he;exact⟨{h' with fams:=h'.fams.set k {f with xs:=f.xs.take (off+len)++ys++f.xs.drop (off+len+ys.length)}},by rw[if_neg hq,if_pos hq2],AC rfl rfl,NR rfl rfl hc hff⟩
      .cases he
  cases h1s:get fr s
  case vs full z xs =>
   cases h1x:get fr x
   case vs=>simp only[Ej,h1s,h1x]at hf;exact fin1 _ hf (by simp) (λk n off len e=>by rw[h1x]at e;cases e) _ _ _ h1s
   case sl k n off len=>simp only[Ej,h1s,h1x]at hf;exact fin1 _ hf (by simp) (λk n off len e=>by rw[h1x]at e;cases e;simp) _ _ _ h1s
   all_goals exact kind (λq=>by simp[ROp.looksB]at q) (λ_=>by simp only[Ej,h1s,h1x])
  case sl k0 n0 off0 len0 =>
   cases h1x:get fr x
   case vs=>simp only[Ej,h1s,h1x]at hf;exact fin2 _ hf (λk n off len e=>by rw[h1x]at e;cases e) _ _ _ _ h1s (by simp)
   case sl k n off len=>simp only[Ej,h1s,h1x]at hf;exact fin2 _ hf (λk n off len e=>by rw[h1x]at e;cases e;simp) _ _ _ _ h1s (by simp)
   all_goals exact kind (λq=>by simp[ROp.looksB]at q) (λ_=>by simp only[Ej,h1s,h1x])
  all_goals exact kind (λq=>by simp[ROp.looksB]at q) (λ_=>by simp only[Ej,h1s])
 case slc sz x lo hi mx =>
  have gx:=A5 (x:=x) λt ht=>hs t (by simp[ROp.slots,ht]);have g1:=Dx (x:=lo) λt ht=>hs t (by simp[ROp.slots,ht]);have g2:=Dx (x:=hi) λt ht=>hs t (by simp[ROp.slots,ht]);have g3:=Dx (x:=mx) λt ht=>hs t (by simp[ROp.slots,ht]);have key:(∀k n off len,get fr x=.sl k n off len->h'.fams[k]?=h.fams[k]?)->∀l u m,FV h' sz (get fr x) l u m=FV h sz (get fr x) l u m:=λhk l u m=>by
   cases hx:get fr x<;>try rfl
   rename_i k n off len;simp only[FV,hk k n off len hx]
  have fin:(∀k n off len,get fr x=.sl k n off len->h'.fams[k]?=h.fams[k]?)->∃U1,A3 O c (.slc sz x lo hi mx) fr' h'=some (v,U1)/\aL h h1 h' U1/\aN h h1 h' U1:=λhk=>by
   simp only[A3]at he;split at he
   .rename_i l u m e1 e2 e3;split at he
    .rename_i w hw;cases he;exact⟨h',by simp only[A3,gx,g1,g2,g3,e1,e2,e3,key hk,hw],AC rfl rfl,W9 rfl rfl⟩
    .cases he
   .cases he
  cases hx:get fr x
  case sl k n off len =>
   refine fin λk' n' off' len' e=>?_;rw[hx]at e;cases e;simp only[Ej,hx]at hf;exact MD hf (by simp)
  all_goals exact fin λk' n' off' len' e=>by rw[hx]at e;cases e
 case mkslice z b l q =>
  have gl:=A5 (x:=l) λt ht=>hs t (by simp[ROp.slots,ht]);have gq:=A5 (x:=q) λt ht=>hs t (by simp[ROp.slots,ht]);have hl:=Wy (h:=h) (h':=h') (L:=[none]) hf (by simp);simp only[A3]at he;split at he
  .rename_i _ _ k1 a1 k2 b1 e1 e2;split at he
   .rename_i hq;cases he;exact⟨{h' with fams:=h'.fams++[⟨zf5z a1.toNat z,z.cells.length,true⟩]},by simp only[A3,gl,gq,e1,e2,if_pos hq,hl],AC rfl rfl,Wh rfl rfl hl⟩
   .cases he
  .cases he
 case clr z x =>
  have gx:=A5 (x:=x) λt ht=>hs t (by simp[ROp.slots,ht]);cases hx:get fr x
  case sl k n off len =>
   simp only[Ej,hx]at hf;have hff:=MD (k:=k) hf (by simp);simp only[A3,hx,LL]at he;cases hc:h.fams[k]? with
   |none=>simp only[hc]at he;cases he
   |some f =>
    rw[hc]at hff;simp only[hc]at he;split at he
    .rename_i hq;cases he;exact⟨{h' with fams:=h'.fams.set k {f with xs:=f.xs.take off++zf5z len z++f.xs.drop (off+len)}},by simp only[A3,gx,hx,LL,hff,if_pos hq],AC rfl rfl,NR rfl rfl hc hff⟩
    .cases he
  all_goals exact kind (λq=>by simp[ROp.looksB]at q) (λ_=>by simp only[Ej,hx])
 all_goals exact kind (λq=>by first|rfl|(simp[ROp.looksB]at q;done)) (λq=>by first|rfl|(simp[ROp.looksF]at q;done))
end
end Go.Abs
