/- A part of the proof. -/
import Derived.Test.YtjhgilockkmniaaGreatDoorSJ10
import Derived.Orders
set_option linter.all false
open Option renaming map_eq_some_iff->zf0z,bind_eq_some_iff->zf3z
open Prod renaming fst->zf1z
open List renaming mem_append->zf2z,flatMap_cons->zf4z,getD->zf7z,all_cons->zf8z
open Bool renaming and_eq_true->zf5z
open Nat renaming testBit_or->zf6z
namespace Go.Abs
section
variable {O:Orc} {c:Ctx}
theorem A5 {fr fr':Fr} {x:Opd} (h:∀t∈x.slots,fr'.getD t B3=fr.getD t B3):get fr' x=get fr x:=by
 cases x with
 |t n=>exact h n (by simp[Opd.slots])
 |c v=>rfl
theorem FQ {fr fr':Fr} {xs:List Opd} (h:∀t∈xs.flatMap Opd.slots,fr'.getD t B3=fr.getD t B3):xs.map (get fr')=xs.map (get fr) :=
 List.map_congr_left λx hx=>A5 λt ht=>h t (List.mem_flatMap.2 ⟨x,hx,ht⟩)
theorem IT {fr fr':Fr} {n:Nat}:∀{ps:List (Nat×Nat×Opd)},(∀t∈ps.flatMap (λp=>p.2.2.slots),fr'.getD t B3=fr.getD t B3)->F8 fr' n ps=F8 fr n ps
 | [],_=>rfl
 |(off,k,x)::ps,h=>by
  have hx:get fr' x=get fr x:=A5 λt ht=>h t (by simp[ht]);have hr:=IT (n:=n) (ps:=ps) λt ht=>h t (by simp only[zf4z,zf2z];exact .inr ht);simp only[F8,hx,hr]
theorem Io {h h':AH} (he:h'.fams=h.fams) (sz:Nat) (x:AV):elems h' sz x=elems h sz x:=by cases x<;>simp only[elems,he]
theorem BR {fr fr':Fr} {h:AH}:∀{ps:List (Nat×Opd)} {xs:C6},(∀t∈ps.flatMap (λp=>p.2.slots),fr'.getD t B3=fr.getD t B3)->B5 fr' h xs ps=B5 fr h xs ps
 | [],xs,_=>rfl
 |(i,x)::ps,xs,hh=>by
  have hx:get fr' x=get fr x:=A5 λt ht=>hh t (by simp[ht]);simp only[B5,hx];split
  .split
   .exact BR λt ht=>hh t (by simp only[zf4z,zf2z];exact .inr ht)
   .rfl
  .rfl
theorem GS {fr:Fr} (h h':AH):∀{ps:List (Nat×Opd)} {xs:C6},ps.all (λp=>BJ (get fr p.2))=true->B5 fr h' xs ps=B5 fr h xs ps
 | [],xs,_=>rfl
 |(i,x)::ps,xs,hp=>by
  simp only[zf8z,zf5z]at hp;simp only[B5,GG h false hp.1,GG h' false hp.1];split
  .split
   .exact GS h h' hp.2
   .rfl
  .rfl
theorem Mo {fr fr':Fr}:∀{ps:List (Nat×Opd)},(∀t∈ps.flatMap (λp=>p.2.slots),fr'.getD t B3=fr.getD t B3)->ps.all (λp=>BJ (get fr' p.2))=ps.all (λp=>BJ (get fr p.2))
 | [],_=>rfl
 |(i,x)::ps,hh=>by
  have hx:get fr' x=get fr x:=A5 λt ht=>hh t (by simp[ht]);simp only[zf8z,hx];rw[Mo (ps:=ps) λt ht=>hh t (by simp only[zf4z,zf2z];exact .inr ht)]
theorem Hy {h h':AH} (hb:h'.boxes=h.boxes) (x:AV):w9 h' x=w9 h x:=by cases x<;>simp only[w9,hb]
theorem EJ {fr fr':Fr} {x:Option Opd} (h:∀t∈Lg x,fr'.getD t B3=fr.getD t B3):F0 fr' x=F0 fr x:=by
 cases x with
 |none=>rfl
 |some x=>simp only[F0,A5 (x:=x) h]
theorem VB {h h':AH} (he:h'.fams=h.fams) (sz:Nat) (x:AV) (l u m:Option Int):Ez h' sz x l u m=Ez h sz x l u m:=by
 unfold Ez;rw[he]
theorem Tz {h h':AH} (hb:h'.boxes=h.boxes) {b:Bool} {n:Nat} {x:AV} (hx:∀k m i q s,x≠.ep k m i q s):x7 h' b n x=x7 h b n x:=by
 cases x<;>simp only[x7,hb];exact absurd rfl (hx _ _ _ _ _)
theorem Gy {h h':AH} (hb:h'.boxes=h.boxes) (hf:h'.fams=h.fams):h'=h:=by cases h;cases h';simp_all
theorem Fx (r:ROp):r.writesB c=true->r.looksB=true:=by cases r<;>simp[ROp.writesB,ROp.looksB]
theorem IG (r:ROp):r.writesF c=true->r.looksF=true:=by cases r<;>simp[ROp.writesF,ROp.looksF]
theorem Kq {f:FuncId} {args:C6} {h h1:AH} {v:AV} (hr:c.raw f=false) (he:DO O c f args h=some (v,h1)):h1=h:=by
 unfold DO at he;rw[if_neg (by simp[hr])]at he;split at he
 .cases he
 .split at he
  .cases he
  .split at he
   .cases he;rfl
   .cases he
theorem Jy:∀{xs:C6} {h h':AH} {ys:C6},Ct h xs=some (ys,h')->h'.fams=h.fams
 | [],h,h',ys,he=>by simp only[Ct]at he;cases he;rfl
 |x::xs,h,h',ys,he=>by
  by_cases hp:∃b off,x=.ptr b off
  .obtain⟨b,off,rfl⟩:=hp;simp only[Ct]at he;split at he
   case isFalse=>cases he
   split at he
   case h_2=>cases he
   split at he
   case isFalse=>cases he
   simp only[zf0z]at he;obtain⟨⟨ys',h''⟩,hr,e⟩:=he;cases e;have q:=Jy hr;exact q
  .have hr:Ct h (x::xs)=(Ct h xs).map λp=>(x::p.1,p.2):=by
    cases x<;>first|rfl|exact absurd ⟨_,_,rfl⟩ hp
   rw[hr]at he;simp only[zf0z]at he;obtain⟨⟨ys',h''⟩,hr,e⟩:=he;cases e;exact Jy hr
theorem Hp {r:ROp} {fr:Fr} {h h1:AH} {v:AV} (he:A3 O c r fr h=some (v,h1)):(r.writesB c=false->h1.boxes=h.boxes)/\(r.writesF c=false->h1.fams=h.fams):=by
 have same:h1=h->(r.writesB c=false->h1.boxes=h.boxes)/\(r.writesF c=false->h1.fams=h.fams):=λe=>by subst e;exact⟨λ_=>rfl,λ_=>rfl⟩
 cases r
 case st n a x=>exact⟨(λh=>nomatch h),(λh=>nomatch h)⟩
 case ste n a x =>
  refine⟨λ_=>?_,(λh=>nomatch h)⟩;simp only[A3,NY,FB]at he
  repeat' (split at he)
  all_goals first
   |(cases he;done)
   |(
     cases he;rename_i S6
     repeat' (split at S6)
     all_goals first
      |(cases S6;done)
      |(
       simp only[zf0z]at S6;obtain⟨y,_,rfl⟩:=S6;rfl))
 case stb n a x =>
  refine⟨(λh=>nomatch h),λ_=>?_⟩;simp only[A3,Me]at he
  repeat' (split at he)
  all_goals first|(cases he;done)|(cases he;rfl)|skip
  rw[zf0z]at he;obtain⟨y,h1,h2⟩:=he;cases h2;unfold al at h1
  repeat' (split at h1)
  all_goals first|(cases h1;done)|(cases h1;rfl)
 case clr z x =>
  refine⟨λ_=>?_,(λh=>nomatch h)⟩;simp only[A3,LS]at he
  repeat' (split at he)
  all_goals first|(cases he;done)|(cases he;rfl)
 case callv x aas =>
  have key:c.rawv=false->h1=h:=by
   intro hr;simp only[A3]at he;split at he
   .rename_i f caps hg;split at he
    .cases he
    .rename_i hc;exact Kq (O:=O) (c:=c) (by simpa[hr]using hc) he
   .cases he
  exact⟨λhr=>by rw[key hr],λhr=>by rw[key hr]⟩
 case clos f cs =>
  simp only[A3]at he;split at he
  .rename_i hro;refine⟨λhr=>?_,λ_=>?_⟩
   .simp only[ROp.writesB]at hr;rw[hr]at hro;cases hro
   .simp only[zf0z]at he;obtain⟨⟨ys,h2⟩,hq,he⟩:=he;cases he;exact Jy hq
  .cases he;exact⟨λ_=>rfl,λ_=>rfl⟩
 case mkmap=>simp only[A3]at he;cases he;exact⟨(λh=>nomatch h),(λ_=>rfl)⟩
 case mkb z b l q =>
  refine⟨(λh=>nomatch h),λ_=>?_⟩;simp only[A3,Og]at he
  repeat' (split at he)
  all_goals first|(cases he;done)|(cases he;rfl)
 case mkv z b l q =>
  refine same ?_;simp only[A3,Wb]at he
  repeat' (split at he)
  all_goals first|(cases he;done)|(cases he;rfl)
 case mlook str ok z x k =>
  refine same ?_;simp only[A3,Eh]at he
  repeat' (split at he)
  all_goals first|(cases he;done)|(cases he;rfl)
 case bstr x =>
  refine same ?_;simp only[A3,LQ]at he
  repeat' (split at he)
  all_goals first|(cases he;done)|(cases he;rfl)
 case mlookp ok z x k =>
  refine same ?_;simp only[A3,Ky]at he
  repeat' (split at he)
  all_goals first|(cases he;done)|(cases he;rfl)
 case mupp x k w =>
  refine⟨(λh=>nomatch h),λ_=>?_⟩;simp only[A3,ZS]at he
  repeat' (split at he)
  all_goals first|(cases he;done)|(cases he;rfl)
 case mlen x =>
  refine same ?_;simp only[A3]at he
  repeat' (split at he)
  all_goals first|(cases he;done)|(cases he;rfl)
 case mup str x k w =>
  refine⟨(λh=>nomatch h),λ_=>?_⟩;simp only[A3,UK]at he
  repeat' (split at he)
  all_goals first|(cases he;done)|(cases he;rfl)
 case box x=>simp only[A3]at he;split at he<;>cases he;exact⟨(λh=>nomatch h),(λ_=>rfl)⟩
 case alloc z=>simp only[A3]at he;cases he;exact⟨(λh=>nomatch h),(λ_=>rfl)⟩
 case allocAt n z =>
  refine⟨(λh=>nomatch h),λ_=>?_⟩;simp only[A3,BH]at he
  repeat' (split at he)
  all_goals first|(cases he;done)|(cases he;rfl)
 case mkslice z b l q =>
  simp only[A3]at he;split at he
  .split at he<;>cases he;exact⟨λ_=>rfl,(λh=>nomatch h)⟩
  .cases he
 case apps b s x =>
  refine⟨λ_=>?_,λh=>nomatch h⟩;simp only[A3,OA,U4]at he
  repeat' (split at he)
  all_goals first|(cases he;done)|(cases he;rfl)
 case app sz b s x =>
  refine⟨λ_=>?_,λh=>nomatch h⟩;simp only[A3,N7,U4]at he
  repeat' (split at he)
  all_goals first|(cases he;done)|(cases he;rfl)
 case len b x =>
  refine same ?_;cases b<;>simp only[A3]at he<;>split at he<;>first|(cases he;done)|(cases he;rfl)
 case call f aas =>
  refine⟨λhr=>?_,λhr=>by rw[Kq (O:=O) hr he]⟩;cases hc:c.raw f with
  |false=>rw[Kq (O:=O) hc he]
  |true =>
   simp only[ROp.writesB,hc,Bool.true_and,Bool.not_eq_false']at hr;simp only[A3,DO,hc,if_true,hr]at he;exact Yx he
 case nileq =>
  refine same ?_;simp only[A3,gF]at he
  repeat' (split at he)
  all_goals first|(cases he;done)|(cases he;rfl)
 all_goals
  refine same ?_;simp only[A3]at he
  repeat' (split at he)
  all_goals first|(cases he;done)|(cases he;rfl)
theorem VG {h h':AH} (hf:h'.fams=h.fams) {n:Nat} {x:AV} (hx:BJ x=true) {k m i q s:Nat}:(FB h' n x k m i q s).map AH.fams=(FB h n x k m i q s).map AH.fams:=by
 unfold FB;rw[GG h false hx,GG h' false hx,hf];cases h.fams[k]? with
 |none=>rfl
 |some f =>
  dsimp only;split
  .cases f.xs[i]? with
   |none=>rfl
   |some y =>
    dsimp only;split
    .cases y.reform (S5 y.cells q x.cells)<;>simp[hf]
    .rfl
  .rfl
theorem RH {h h':AH} (hf:h'.fams=h.fams) {n:Nat} {p x:AV}:(NY h' n p x).map (λr=>(r.1,r.2.fams))=(NY h n p x).map (λr=>(r.1,r.2.fams)):=by
 cases p<;>try rfl
 rename_i k m i q s;simp only[NY];split
 .rename_i hx;have:=VG hf (n:=n) hx (k:=k) (m:=m) (i:=i) (q:=q) (s:=s);cases h1:FB h' n x k m i q s with
  |none =>
   cases h2:FB h n x k m i q s with
   |none=>rfl
   |some b=>rw[h1,h2]at this;cases this
  |some a =>
   cases h2:FB h n x k m i q s with
   |none=>rw[h1,h2]at this;cases this
   |some b =>
    rw[h1,h2]at this;simp only[Option.map_some,Option.some.injEq]at this ⊢;rw[this]
 .rfl
theorem RG {h h':AH} (hb:h'.boxes=h.boxes) {n:Nat} {p x:AV}:(Me h' n p x).map (λr=>(r.1,r.2.boxes))=(Me h n p x).map (λr=>(r.1,r.2.boxes)):=by
 cases p<;>try rfl
 simp only[Me,hb]
 repeat' split
 all_goals first
  |rfl
  |(
    unfold al
    repeat' split
    all_goals first|rfl|simp[hb])
theorem QP {h h':AH} (hf:h'.fams=h.fams) {z x:AV}:(LS h' z x).map (λr=>(r.1,r.2.fams))=(LS h z x).map (λr=>(r.1,r.2.fams)):=by
 cases x<;>try rfl
 case vs=>simp only[LS];split<;>simp[hf]
 case sl =>
  simp only[LS,hf]
  repeat' split
  all_goals rfl
theorem WA {α β:Type} {r r':Option (α×AH)} {g:AH->β} (h:r'.map (λx=>(x.1,g x.2))=r.map (λx=>(x.1,g x.2))):r'.map zf1z=r.map zf1z:=by
 have:=congrArg (Option.map zf1z) h;simpa[Option.map_map,Function.comp_def]using this
theorem eI {h h':AH} (hf:h'.fams=h.fams) {n:Nat} {p x:AV}:(NY h' n p x).map zf1z=(NY h n p x).map zf1z:=WA (g:=AH.fams) (RH hf)
theorem eH {h h':AH} (hb:h'.boxes=h.boxes) {n:Nat} {p x:AV}:(Me h' n p x).map zf1z=(Me h n p x).map zf1z:=WA (g:=AH.boxes) (RG hb)
theorem bR {h h':AH} (hf:h'.fams=h.fams) {z x:AV}:(LS h' z x).map zf1z=(LS h z x).map zf1z:=WA (g:=AH.fams) (QP hf)
theorem Nh (h:AH) (b:Nat):AS h false (.mp b)=none:=by
 simp only[AS];split
 .rfl
 .rfl
theorem Tj (h:AH) (b sz off len:Nat):AS h false (.bsl b sz off len)=none:=by
 simp only[AS,cE];split
 .rw[if_neg (by simp)]
 .rfl
theorem Yt {h h':AH} (hf:h'.fams=h.fams) (x:AV):frz h' false x=frz h false x:=by
 have h1:∀y:AV,AS h' false y=AS h false y:=by
  intro y;cases y
  case mp b=>rw[Nh,Nh]
  case bsl b sz off len=>rw[Tj,Tj]
  all_goals simp only[AS,hf]
 have h2:∀l:List AV,Hx h' false l=Hx h false l:=by
  intro l
  induction l with
  |nil=>rfl
  |cons a l ih=>simp only[Hx,h1,ih]
 unfold frz;split
 .rw[h2]
 .exact h1 _
theorem JQ {h h':AH} (hf:h'.fams=h.fams) {fr:Fr}:∀{ps:List (Nat×Opd)} {xs:C6},B5 fr h' xs ps=B5 fr h xs ps
 | [],xs=>rfl
 |(i,x)::ps,xs=>by
  simp only[B5,Yt hf];split
  .split
   .exact JQ hf
   .rfl
  .rfl
theorem LP {h h':AH} {ext:List (List AV)} (hb:h'.boxes=h.boxes++ext) {b:Nat} {cs:C6} (hc:h.boxes[b]?=some cs):h'.boxes[b]?=some cs:=by
 rw[hb,List.getElem?_append_left (List.getElem?_eq_some_iff.1 hc).1];exact hc
section
variable {h h':AH} {ext:List (List AV)} (hb:h'.boxes=h.boxes++ext) (hf:h'.fams=h.fams)
include hb hf
theorem Ti {am:Bool} {x y:AV} (he:Vy h am x=some y):Vy h' am x=some y:=by
 cases x<;>simp only[Vy,hf]at he⊢<;>try exact he
 split at he
 .rename_i hq;rw[LP hb hq];exact he
 .cases he
theorem Qb {am:Bool}:∀{xs ys:C6},Mq h am xs=some ys->Mq h' am xs=some ys
 | [],ys,he=>he
 |x::xs,ys,he=>by
  simp only[Mq,zf3z,zf0z]at he ⊢;obtain⟨y,hy,zs,hz,e⟩:=he;exact⟨y,Ti hb hf hy,zs,Qb hz,e⟩
theorem Tl {am:Bool} {x y:AV} (he:AS h am x=some y):AS h' am x=some y:=by
 by_cases hx:∃b sz off len,x=.bsl b sz off len
 .obtain⟨b,sz,off,len,rfl⟩:=hx;simp only[AS,cE]at he ⊢;split at he
  .rename_i hq;rw[LP hb hq];simp only;split at he
   .rename_i hc;rw[if_pos hc];rw[zf0z]at he ⊢;obtain⟨ys,hy,e⟩:=he;exact⟨ys,Qb hb hf hy,e⟩
   .cases he
  .cases he
 .rw[Qc _ _ λb sz off len e=>hx ⟨b,sz,off,len,e⟩]at he ⊢;exact Ti hb hf he
theorem Tn {am:Bool}:∀{xs ys:C6},Hx h am xs=some ys->Hx h' am xs=some ys
 | [],ys,he=>he
 |x::xs,ys,he=>by
  simp only[Hx,zf3z,zf0z]at he ⊢;obtain⟨y,hy,zs,hz,e⟩:=he;exact⟨y,Tl hb hf hy,zs,Tn hz,e⟩
theorem fq {am:Bool} {x y:AV} (he:frz h am x=some y):frz h' am x=some y:=by
 unfold frz at he ⊢;split at he
 .rw[zf0z]at he ⊢;obtain⟨ys,hy,e⟩:=he;exact⟨ys,Tn hb hf hy,e⟩
 .exact Tl hb hf he
theorem OV {am:Bool}:∀{xs ys:C6},j7 h am xs=some ys->j7 h' am xs=some ys
 | [],ys,he=>he
 |x::xs,ys,he=>by
  simp only[j7,zf3z,zf0z]at he ⊢;obtain⟨y,hy,zs,hz,e⟩:=he;exact⟨y,fq hb hf hy,zs,OV hz,e⟩
omit hb in
theorem aG (x:AV):tame h' x=tame h x:=by
 have h1:∀y:AV,DQ h' y=DQ h y:=by intro y;cases y<;>simp only[DQ,hf]
 unfold tame;split
 .congr 1;funext y;exact h1 y
 .exact h1 _
end
theorem Zy {r:ROp} {fr fr':Fr} {h h' h1:AH} {v:AV} (hr:r.rdr c=true) (hs:∀t∈r.slots,fr'.getD t B3=fr.getD t B3) {ext:List (List AV)} (hb:h'.boxes=h.boxes++ext) (hf:r.looksF=true->h'.fams=h.fams)
  (he:A3 O c r fr h=some (v,h1)):A3 O c r fr' h'=some (v,h'):=by
 cases r<;>simp only[ROp.rdr]at hr<;>try (cases hr;done)
 case ld b n x =>
  have hf:=hf rfl;simp only[A3,A5 (x:=x) λt ht=>hs t (by simp[ROp.slots,ht])]at he ⊢;have key:∀w,x7 h b n (get fr x)=some w->x7 h' b n (get fr x)=some w:=by
   intro w hw;cases hx:get fr x<;>rw[hx]at hw<;>simp only[x7,hf]at hw⊢<;>try exact hw
   split at hw
   .rename_i hq;rw[LP hb hq];exact hw
   .cases hw
  split at he
  .rename_i _ w hw;cases he;rw[key _ hw]
  .cases he
 case ldb b n x =>
  simp only[A3,A5 (x:=x) λt ht=>hs t (by simp[ROp.slots,ht])]at he ⊢;cases hx:get fr x<;>rw[hx]at he<;>simp only[x7]at he⊢<;>try (cases he;done)
  case pv cs =>
   split at he
   .rename_i w hw;cases he;rfl
   .cases he
  case ptr p q =>
   split at he
   .rename_i w hw;cases he;split at hw
    .rename_i hq;rw[LP hb hq];simp only;rw[hw]
    .cases hw
   .cases he
 case bslice n z ps =>
  have hf:=hf rfl;simp only[A3,BR (h:=h') (ps:=ps) λt ht=>hs t (by simpa[ROp.slots]using ht),JQ hf]at he ⊢;split at he
  .cases he;rfl
  .cases he
 case mlook str ok z x k =>
  simp only[A3,Eh,A5 (x:=x) λt ht=>hs t (by simp[ROp.slots,ht]),A5 (x:=k) λt ht=>hs t (by simp[ROp.slots,ht])]at he ⊢;split at he
  case isFalse=>cases he
  rename_i hk;rw[if_pos hk];have key:∀p,w9 h (get fr x)=some p->w9 h' (get fr x)=some p:=by
   intro p hp;cases hx:get fr x<;>rw[hx]at hp<;>simp only[w9]at hp⊢<;>try exact hp
   split at hp
   .rename_i hq;rw[LP hb hq];exact hp
   .cases hp
  split at he
  .rename_i ks vs hm;rw[key _ hm];simp only;split at he
   .rename_i i h2;split at he
    .rename_i w h3;cases he;simp only[h2,h3]
    .cases he
   .rename_i h2;cases he;simp only[h2]
   .cases he
  .cases he
 case call f aas =>
  have hf:=hf rfl;have ha:aas.map (get fr')=aas.map (get fr):=FQ (xs:=aas) λt ht=>hs t (by simpa[ROp.slots]using ht);have hr':c.raw f=false:=by simpa using hr
  simp only[A3,ha,DO,hr',Bool.false_eq_true,if_false]at he ⊢;split at he
  .cases he
  .rename_i ys Mv;rw[OV hb hf Mv];simp only;split at he
   .cases he
   .rename_i q hq;have et:(aas.map (get fr)).all (tame h')=(aas.map (get fr)).all (tame h):=by
     congr 1;funext x;exact aG hf x
    rw[et];split at he
    .rename_i hc;cases he;rw[if_pos hc]
    .cases he
theorem fJ {r:ROp} {fr:Fr} {h h1:AH} {v:AV} (hr:r.apd=true) (he:A3 O c r fr h=some (v,h1)):∃ext,h1.boxes=h.boxes++ext:=by
 cases r<;>simp only[ROp.apd]at hr<;>try (cases hr;done)
 case box x=>simp only[A3]at he;split at he<;>cases he;exact⟨_,rfl⟩
 case mkmap=>simp only[A3]at he;cases he;exact⟨_,rfl⟩
 case alloc z=>simp only[A3]at he;cases he;exact⟨_,rfl⟩
 case mkb z b l q =>
  simp only[A3,Og]at he
  repeat' (split at he)
  all_goals first|(cases he;done)|(cases he;exact⟨_,rfl⟩)
theorem LA {r:ROp} (h:r.rdr c=true):r.writesB c=false/\r.writesF c=false:=by
 cases r<;>simp only[ROp.rdr]at h<;>first|(cases h;done)|exact⟨rfl,rfl⟩|skip
 rename_i f _;have:c.raw f=false:=by simpa using h
 simp[ROp.writesB,ROp.writesF,this]
theorem RR {h h':AH} (hf:h'.fams=h.fams) (sz b:Nat) (s:AV) (ys:C6):(U4 c h' sz b s ys).map (λp=>(p.1,p.2.fams))=(U4 c h sz b s ys).map (λp=>(p.1,p.2.fams)):=by
 unfold U4;rw[hf]
 repeat' split
 all_goals simp[hf]
theorem jz {r:ROp} {fr fr':Fr} {h h':AH} (hs:∀t∈r.slots,fr'.getD t B3=fr.getD t B3) (hb:r.looksB=true->h'.boxes=h.boxes) (hf:r.looksF=true->h'.fams=h.fams) (hcall:r.isCall=false) :
  ((A3 O c r fr h).isSome=true->(A3 O c r fr' h').map zf1z=(A3 O c r fr h).map zf1z):=by
 intro hsome;cases r
 case call=>simp[ROp.isCall]at hcall
 case callv=>simp[ROp.isCall]at hcall
 case st n a x=>obtain rfl:h'=h:=Gy (hb rfl) (hf rfl);simp only[A3,A5 (x:=a) λt ht=>hs t (by simp[ROp.slots,ht]),A5 (x:=x) λt ht=>hs t (by simp[ROp.slots,ht])]
 case ste n a x =>
  simp only[A3,A5 (x:=a) λt ht=>hs t (by simp[ROp.slots,ht]),A5 (x:=x) λt ht=>hs t (by simp[ROp.slots,ht])];exact eI (hf rfl)
 case stb n a x =>
  simp only[A3,A5 (x:=a) λt ht=>hs t (by simp[ROp.slots,ht]),A5 (x:=x) λt ht=>hs t (by simp[ROp.slots,ht])];exact eH (hb rfl)
 case clr z x =>
  simp only[A3,A5 (x:=x) λt ht=>hs t (by simp[ROp.slots,ht])];exact bR (hf rfl)
 case ld b n x=>obtain rfl:h'=h:=Gy (hb rfl) (hf rfl);simp only[A3,A5 (x:=x) λt ht=>hs t (by simp[ROp.slots,ht])]
 case mov x=>simp only[A3,A5 (x:=x) λt ht=>hs t (by simp[ROp.slots,ht])];rfl
 case pick q x y=>simp only[A3,A5 (x:=q) λt ht=>hs t (by simp[ROp.slots,ht]),A5 (x:=x) λt ht=>hs t (by simp[ROp.slots,ht]),A5 (x:=y) λt ht=>hs t (by simp[ROp.slots,ht])];cases get fr q<;>rfl
 case box x=>simp only[A3,A5 (x:=x) λt ht=>hs t (by simp[ROp.slots,ht]),hb rfl];split<;>rfl
 case alloc z=>simp only[A3,hb rfl];rfl
 case allocAt n z =>
  simp only[A3,BH,hb rfl]
  repeat' split
  all_goals rfl
 case mkmap=>simp only[A3,hb rfl];rfl
 case mlookp ok z x k =>
  simp only[A3,Ky,A5 (x:=x) λt ht=>hs t (by simp[ROp.slots,ht]),A5 (x:=k) λt ht=>hs t (by simp[ROp.slots,ht]),Hy (hb rfl)]
  repeat' split
  all_goals rfl
 case mupp x k w=>obtain rfl:h'=h:=Gy (hb rfl) (hf rfl);simp only[A3,A5 (x:=x) λt ht=>hs t (by simp[ROp.slots,ht]),A5 (x:=k) λt ht=>hs t (by simp[ROp.slots,ht]),A5 (x:=w) λt ht=>hs t (by simp[ROp.slots,ht])]
 case mlook str ok z x k =>
  simp only[A3,Eh,A5 (x:=x) λt ht=>hs t (by simp[ROp.slots,ht]),A5 (x:=k) λt ht=>hs t (by simp[ROp.slots,ht]),Hy (hb rfl)]
  repeat' split
  all_goals rfl
 case mup str x k w=>obtain rfl:h'=h:=Gy (hb rfl) (hf rfl);simp only[A3,A5 (x:=x) λt ht=>hs t (by simp[ROp.slots,ht]),A5 (x:=k) λt ht=>hs t (by simp[ROp.slots,ht]),A5 (x:=w) λt ht=>hs t (by simp[ROp.slots,ht])]
 case build z ps=>simp only[A3,IT (ps:=ps) λt ht=>hs t (by simpa[ROp.slots]using ht)];cases F8 fr z.cells.length ps<;>rfl
 case bslice n z ps=>obtain rfl:h'=h:=Gy (hb rfl) (hf rfl);simp only[A3,BR (ps:=ps) λt ht=>hs t (by simpa[ROp.slots]using ht)]
 case bslicev n z ps =>
  simp only[A3,Mo (ps:=ps) λt ht=>hs t (by simpa[ROp.slots]using ht),BR (h:=h') (ps:=ps) λt ht=>hs t (by simpa[ROp.slots]using ht)];by_cases hc:(ps.all λp=>BJ (get fr p.2))=true
  .rw[if_pos hc,if_pos hc,GS h h' hc];cases B5 fr h (List.replicate n z) ps<;>rfl
  .rw[if_neg hc,if_neg hc]
 case iaddrv sz x i =>
  simp only[A3,A5 (x:=x) λt ht=>hs t (by simp[ROp.slots,ht]),A5 (x:=i) λt ht=>hs t (by simp[ROp.slots,ht])];cases get fr x<;>first|rfl|(cases get fr i<;>first|rfl|(simp only[];split<;>first|rfl|(split<;>rfl)))
 case ldb b n x =>
  simp only[A3,A5 (x:=x) λt ht=>hs t (by simp[ROp.slots,ht])];cases hx:get fr x<;>simp only[]
  all_goals
   rw[Tz (hb rfl) (by intro k m i q s h;cases h)];split<;>rfl
 case nilck x=>simp only[A3,A5 (x:=x) λt ht=>hs t (by simp[ROp.slots,ht])];cases get fr x<;>rfl
 case bin op x y=>simp only[A3,A5 (x:=x) λt ht=>hs t (by simp[ROp.slots,ht]),A5 (x:=y) λt ht=>hs t (by simp[ROp.slots,ht])];cases E9 op (get fr x) (get fr y)<;>rfl
 case beq n x y =>
  simp only[A3,A5 (x:=x) λt ht=>hs t (by simp[ROp.slots,ht]),A5 (x:=y) λt ht=>hs t (by simp[ROp.slots,ht])];cases get fr x<;>first|rfl|(cases get fr y<;>rfl)
 case nileq n x=>simp only[A3,A5 (x:=x) λt ht=>hs t (by simp[ROp.slots,ht])];cases get fr x<;>first|rfl|(simp only[gF];split<;>rfl)
 case un op x=>simp only[A3,A5 (x:=x) λt ht=>hs t (by simp[ROp.slots,ht])];cases Jm op (get fr x)<;>rfl
 case conv k x=>simp only[A3,A5 (x:=x) λt ht=>hs t (by simp[ROp.slots,ht])];cases get fr x<;>rfl
 case cstr x=>simp only[A3,A5 (x:=x) λt ht=>hs t (by simp[ROp.slots,ht])];cases get fr x<;>rfl
 case bstr x=>simp only[A3,LQ,A5 (x:=x) λt ht=>hs t (by simp[ROp.slots,ht]),Io (hf rfl)];cases elems h 1 (get fr x)<;>first|rfl|(simp only[];split<;>rfl)
 case clos f cs=>obtain rfl:h'=h:=Gy (hb rfl) (hf rfl);simp only[A3,FQ (xs:=cs) λt ht=>hs t (by simpa[ROp.slots]using ht)]
 case mkslice z b l q =>
  simp only[A3,A5 (x:=l) λt ht=>hs t (by simp[ROp.slots,ht]),A5 (x:=q) λt ht=>hs t (by simp[ROp.slots,ht]),hf rfl];cases get fr l<;>first|rfl|(cases get fr q<;>first|rfl|(simp only[];split<;>rfl))
 case mkv z b l q =>
  simp only[A3,Wb,A5 (x:=l) λt ht=>hs t (by simp[ROp.slots,ht]),A5 (x:=q) λt ht=>hs t (by simp[ROp.slots,ht])];cases get fr l<;>first|rfl|(cases get fr q<;>first|rfl|(simp only[];split<;>rfl))
 case mkb z b l q =>
  simp only[A3,Og,A5 (x:=l) λt ht=>hs t (by simp[ROp.slots,ht]),A5 (x:=q) λt ht=>hs t (by simp[ROp.slots,ht]),hb rfl];cases get fr l<;>first|rfl|(cases get fr q<;>first|rfl|(simp only[];split<;>rfl))
 case slc sz x a b m =>
  simp only[A3,A5 (x:=x) λt ht=>hs t (by simp[ROp.slots,ht]),EJ (x:=a) λt ht=>hs t (by simp[ROp.slots,ht]),EJ (x:=b) λt ht=>hs t (by simp[ROp.slots,ht]),EJ (x:=m) λt ht=>hs t (by simp[ROp.slots,ht]),VB (hf rfl)];cases F0 fr a<;>first|rfl|(cases F0 fr b<;>first|rfl|(cases F0 fr m<;>first|rfl|(simp only[];split<;>rfl)))
 case faddr off x=>simp only[A3,A5 (x:=x) λt ht=>hs t (by simp[ROp.slots,ht])];cases get fr x<;>rfl
 case fld b off n x =>
  simp only[A3,A5 (x:=x) λt ht=>hs t (by simp[ROp.slots,ht])];cases get fr x<;>first|rfl|(simp only[];split<;>rfl)
 case iaddr sz x i =>
  simp only[A3,A5 (x:=x) λt ht=>hs t (by simp[ROp.slots,ht]),A5 (x:=i) λt ht=>hs t (by simp[ROp.slots,ht])];cases get fr x<;>first|rfl|(cases get fr i<;>first|rfl|(simp only[];split<;>first|rfl|(split<;>rfl)))
 case idx x i =>
  simp only[A3,A5 (x:=x) λt ht=>hs t (by simp[ROp.slots,ht]),A5 (x:=i) λt ht=>hs t (by simp[ROp.slots,ht])];cases get fr x<;>first|rfl|(cases get fr i<;>first|rfl|(simp only[];split<;>first|rfl|(split<;>rfl)))
 case ext x i =>
  simp only[A3,A5 (x:=x) λt ht=>hs t (by simp[ROp.slots,ht])];cases get fr x<;>first|rfl|(simp only[];split<;>rfl)
 case len b x=>cases b<;>simp only[A3,A5 (x:=x) λt ht=>hs t (by simp[ROp.slots,ht])]<;>cases get fr x<;>rfl
 case apps b s x =>
  simp only[A3,OA,U4,A5 (x:=s) λt ht=>hs t (by simp[ROp.slots,ht]),A5 (x:=x) λt ht=>hs t (by simp[ROp.slots,ht]),hf rfl]
  repeat' split
  all_goals rfl
 case app sz b s x =>
  simp only[A3,N7,U4,A5 (x:=s) λt ht=>hs t (by simp[ROp.slots,ht]),A5 (x:=x) λt ht=>hs t (by simp[ROp.slots,ht]),Io (hf rfl),hf rfl]
  repeat' split
  all_goals rfl
 case mlen x =>
  simp only[A3,A5 (x:=x) λt ht=>hs t (by simp[ROp.slots,ht]),Hy (hb rfl)]
  repeat' split
  all_goals rfl
 case min x y =>
  simp only[A3,A5 (x:=x) λt ht=>hs t (by simp[ROp.slots,ht]),A5 (x:=y) λt ht=>hs t (by simp[ROp.slots,ht])];cases get fr x<;>first|rfl|(cases get fr y<;>first|rfl|(simp only[];split<;>rfl))
 case max x y =>
  simp only[A3,A5 (x:=x) λt ht=>hs t (by simp[ROp.slots,ht]),A5 (x:=y) λt ht=>hs t (by simp[ROp.slots,ht])];cases get fr x<;>first|rfl|(cases get fr y<;>first|rfl|(simp only[];split<;>rfl))
end
end Go.Abs
namespace Go.Abs
open Go.RowKit (Below)
section
variable {O:Orc} {c:Ctx}
theorem UP {r:ROp} {fr fr':Fr} {h h' h1:AH} {v:AV} (hs:∀t∈r.slots,fr'.getD t B3=fr.getD t B3) (hb:r.looksB=true->h'.boxes=h.boxes) (hf:r.looksF=true->h'.fams=h.fams)
  (he:A3 O c r fr h=some (v,h1)):∃X7,A3 O c r fr' h'=some (v,X7)/\(r.writesB c=true->X7.boxes=h1.boxes)/\(r.writesF c=true->X7.fams=h1.fams):=by
 by_cases hcall:r.isCall=false
 .have h2:=jz (O:=O) hs hb hf hcall (by rw[he];rfl);rw[he]at h2;cases h3:A3 O c r fr' h' with
  |none=>rw[h3]at h2;cases h2
  |some x =>
   obtain⟨v',X7⟩:=x;rw[h3]at h2;have:v'=v:=by simpa using h2
   subst this;refine⟨X7,rfl,λhw=>?_,λhw=>?_⟩
   .cases r<;>simp only[ROp.writesB]at hw<;>try (cases hw;done)
    case call=>simp[ROp.isCall]at hcall
    case callv=>simp[ROp.isCall]at hcall
    case st n a x =>
     obtain rfl:h'=h:=Gy (hb rfl) (hf rfl);simp only[A3,A5 (x:=a) λt ht=>hs t (by simp[ROp.slots,ht]),A5 (x:=x) λt ht=>hs t (by simp[ROp.slots,ht])]at h3 he;rw[h3]at he;cases he;rfl
    case stb n a x =>
     simp only[A3,A5 (x:=a) λt ht=>hs t (by simp[ROp.slots,ht]),A5 (x:=x) λt ht=>hs t (by simp[ROp.slots,ht])]at h3 he;have:=RG (h:=h) (h':=h') (hb rfl) (n:=n) (p:=get fr a) (x:=get fr x);rw[h3,he]at this;simpa using this
    case box x =>
     simp only[A3,A5 (x:=x) λt ht=>hs t (by simp[ROp.slots,ht]),hb rfl]at h3 he;split at he
     .cases he
     .rename_i ht;rw[if_neg ht]at h3;cases he;cases h3;rfl
    case alloc z=>simp only[A3,hb rfl]at h3 he;cases he;cases h3;rfl
    case allocAt n z =>
     simp only[A3,BH,hb rfl]at h3 he;split at he
     .rename_i cs w8;split at he
      .rename_i hc;simp only[w8,if_pos hc]at h3;cases he;cases h3;rfl
      .cases he
     .cases he
    case clos f cs =>
     obtain rfl:h'=h:=Gy (hb rfl) (hf rfl);simp only[A3,FQ (xs:=cs) λt ht=>hs t (by simpa[ROp.slots]using ht)]at h3 he;rw[h3]at he;cases he;rfl
    case mkmap=>simp only[A3,hb rfl]at h3 he;cases he;cases h3;rfl
    case mkb z b l q =>
     simp only[A3,Og,A5 (x:=l) λt ht=>hs t (by simp[ROp.slots,ht]),A5 (x:=q) λt ht=>hs t (by simp[ROp.slots,ht]),hb rfl]at h3 he;split at he
     .rename_i e1 e2;simp only[e1,e2]at h3;split at he
      .rename_i hc;rw[if_pos hc]at h3;cases he;cases h3;rfl
      .cases he
     .cases he
    case mupp x k w =>
     obtain rfl:h'=h:=Gy (hb rfl) (hf rfl);simp only[A3,A5 (x:=x) λt ht=>hs t (by simp[ROp.slots,ht]),A5 (x:=k) λt ht=>hs t (by simp[ROp.slots,ht]),A5 (x:=w) λt ht=>hs t (by simp[ROp.slots,ht])]at h3 he;rw[h3]at he;cases he;rfl
    case mup str x k w =>
     obtain rfl:h'=h:=Gy (hb rfl) (hf rfl);simp only[A3,A5 (x:=x) λt ht=>hs t (by simp[ROp.slots,ht]),A5 (x:=k) λt ht=>hs t (by simp[ROp.slots,ht]),A5 (x:=w) λt ht=>hs t (by simp[ROp.slots,ht])]at h3 he;rw[h3]at he;cases he;rfl
   .cases r<;>simp only[ROp.writesF]at hw<;>try (cases hw;done)
    case call=>simp[ROp.isCall]at hcall
    case callv=>simp[ROp.isCall]at hcall
    case st n a x =>
     obtain rfl:h'=h:=Gy (hb rfl) (hf rfl);simp only[A3,A5 (x:=a) λt ht=>hs t (by simp[ROp.slots,ht]),A5 (x:=x) λt ht=>hs t (by simp[ROp.slots,ht])]at h3 he;rw[h3]at he;cases he;rfl
    case ste n a x =>
     simp only[A3,A5 (x:=a) λt ht=>hs t (by simp[ROp.slots,ht]),A5 (x:=x) λt ht=>hs t (by simp[ROp.slots,ht])]at h3 he;have:=RH (h:=h) (h':=h') (hf rfl) (n:=n) (p:=get fr a) (x:=get fr x);rw[h3,he]at this;simpa using this
    case clr z x =>
     simp only[A3,A5 (x:=x) λt ht=>hs t (by simp[ROp.slots,ht])]at h3 he;have:=QP (h:=h) (h':=h') (hf rfl) (z:=z) (x:=get fr x);rw[h3,he]at this;simpa using this
    case mkslice z b l q =>
     simp only[A3,A5 (x:=l) λt ht=>hs t (by simp[ROp.slots,ht]),A5 (x:=q) λt ht=>hs t (by simp[ROp.slots,ht]),hf rfl]at h3 he;split at he
     .rename_i e1 e2;simp only[e1,e2]at h3;split at he
      .rename_i hc;rw[if_pos hc]at h3;cases he;cases h3;rfl
      .cases he
     .cases he
    case apps b s x =>
     simp only[A3,OA,A5 (x:=s) λt ht=>hs t (by simp[ROp.slots,ht]),A5 (x:=x) λt ht=>hs t (by simp[ROp.slots,ht])]at h3 he;cases hg:get fr x<;>rw[hg]at he h3<;>(try dsimp only at he h3)<;>try (cases he;done)
     rename_i str;have:=RR (c:=c) (h:=h) (h':=h') (hf rfl) 1 b (get fr s) (Hv str);rw[h3,he]at this;simpa using this
    case app sz b s x =>
     simp only[A3,N7,U4,A5 (x:=s) λt ht=>hs t (by simp[ROp.slots,ht]),A5 (x:=x) λt ht=>hs t (by simp[ROp.slots,ht]),Io (hf rfl),hf rfl]at h3 he;cases Jp:elems h sz (get fr x)with
     |none=>rw[Jp]at he;cases he
     |some ys =>
      rw[Jp]at he h3;dsimp only at he h3;cases hg:get fr s<;>rw[hg]at he h3<;>(try dsimp only at he h3)<;>try (cases he;done)
      case vs full z xs =>
       cases full<;>(try dsimp only at he h3)
       .cases he
       .split at he
        .rename_i hc;rw[if_pos hc]at h3;cases he;cases h3;exact hf rfl
        .rename_i hc;rw[if_neg hc]at h3;split at he
         .rename_i hc2;rw[if_pos hc2]at h3;cases he;cases h3;rfl
         .cases he
      case sl k n off len =>
       cases hk:h.fams[k]? with
       |none=>rw[hk]at he;cases he
       |some f =>
        rw[hk]at he h3;dsimp only at he h3;split at he
        .rename_i hc;rw[if_pos hc]at h3;cases he;cases h3;rfl
        .rename_i hc;rw[if_neg hc]at h3;split at he
         .rename_i hc2;rw[if_pos hc2]at h3;cases he;cases h3;rfl
         .cases he
 .cases r<;>simp only[ROp.isCall]at hcall<;>try (exact absurd trivial hcall)
  case callv x aas =>
   obtain rfl:h'=h:=Gy (hb rfl) (hf rfl);refine⟨h1,?_,λ_=>rfl,λ_=>rfl⟩;rw[←he];simp only[A3,A5 (x:=x) λt ht=>hs t (by simp only[ROp.slots,zf2z];exact .inl ht),FQ (xs:=aas) λt ht=>hs t (by simp only[ROp.slots,zf2z];exact .inr ht)]
  case call f aas =>
   have ha:aas.map (get fr')=aas.map (get fr):=FQ (xs:=aas) λt ht=>hs t (by simpa[ROp.slots]using ht);obtain rfl:h'=h:=Gy (hb rfl) (hf rfl);exact⟨h1,by rw[←he];simp only[A3,ha],λ_=>rfl,λ_=>rfl⟩
def bc (o:Oper) (L5:List Nat):Nat:=o.after.toList.foldl (λs e=>if Region.binds .any e then s ||| 2 ^ e.on ||| L5.getD e.on 0 else s) 0
theorem Mj:∀(l:List Oper) (L5:List Nat),∃ext,P8 l L5=L5++ext/\ext.length=l.length/\∀(k:Nat) (o:Oper),l[k]?=some o->ext[k]?=some (bc o (L5++ext.take k))
 | [],L5=>⟨[],by simp[P8],rfl,λk o h=>by simp at h⟩
 |o::l,L5=>by
  obtain⟨ext,h1,h2,h3⟩:=Mj l (L5++[bc o L5]);refine⟨bc o L5::ext,?_,by simp[h2],λk o' hk=>?_⟩
  .rw[P8];show P8 l (L5++[bc o L5])=_;rw[h1];simp
  .cases k with
   |zero=>simp at hk;subst hk;simp
   |succ k =>
    have:=h3 k o' (by simpa using hk);simpa using this
theorem Qa {L5:List Nat} {i:Nat}:∀(l:List Edge) (s:Nat),(l.foldl (λs e=>if Region.binds .any e then s ||| 2 ^ e.on ||| L5.getD e.on 0 else s) s).testBit i=true ->
  s.testBit i=true\/∃e∈l,Region.binds .any e=true/\(e.on=i\/(L5.getD e.on 0).testBit i=true)
 | [],s,h=>.inl h
 |e::l,s,h=>by
  simp only[List.foldl_cons]at h;rcases Qa l _ h with h1|⟨e',he',h1⟩
  .split at h1
   .rename_i hb;rw[zf6z,zf6z]at h1;simp only[Bool.or_eq_true]at h1;rcases h1 with (h1|h1)|h1
    .exact .inl h1
    .rw[Nat.testBit_two_pow]at h1;exact .inr ⟨e,by simp,hb,.inl (by simpa using h1)⟩
    .exact .inr ⟨e,by simp,hb,.inr h1⟩
   .exact .inl h1
  .exact .inr ⟨e',by simp[he'],h1⟩
def Mi (ops:List Oper) (i j:Nat):Prop:=((P8 ops []).getD j 0).testBit i=true
theorem TR {ops:List Oper} {i j:Nat} (h:Mi ops i j):∃o e,ops[j]?=some o/\e∈o.after.toList/\Region.binds .any e=true/\(e.on=i\/Mi ops i e.on):=by
 obtain⟨ext,h1,h2,h3⟩:=Mj ops [];simp only[List.nil_append]at h1 h3;unfold Mi at h;rw[h1]at h;cases ho:ops[j]? with
 |none =>
  have:ext[j]?=none:=by
   rw[List.getElem?_eq_none_iff]at ho ⊢;omega
  simp[zf7z,this]at h
 |some o =>
  have h4:=h3 j o ho;rw[zf7z,h4]at h;simp only[Option.getD_some]at h;unfold bc at h;rcases Qa _ _ h with h5|⟨e,he,hb,h5⟩
  .simp at h5
  .refine⟨o,e,rfl,he,hb,?_⟩;rcases h5 with h5|h5
   .exact .inl h5
   .right;unfold Mi;rw[h1];have:(ext.take j).getD e.on 0=ext.getD e.on 0\/(ext.take j).getD e.on 0=0:=by
     simp only[zf7z,List.getElem?_take];split
     .exact .inl rfl
     .exact .inr rfl
    rcases this with h6|h6
    .rw[←h6];exact h5
    .rw[h6]at h5;simp at h5
theorem OK:∀{ops:List Oper} {k:Nat},Gb ops k=true->∀{j:Nat} {o:Oper} {e:Edge},ops[j]?=some o->e∈o.after.toList->Region.binds .any e=true->e.on<k+j
 | [],_,_,j,o,e,h,_,_=>by simp at h
 |o'::ops,k,h,j,o,e,ho,he,hb=>by
  simp only[Gb,zf5z]at h;cases j with
  |zero =>
   simp at ho;subst ho;have:=(List.all_eq_true.1 h.1) e he;simp[hb]at this;omega
  |succ j =>
   have:=OK h.2 (j:=j) (o:=o) (by simpa using ho) he hb;omega
end
end Go.Abs
