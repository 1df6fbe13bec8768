/- A part of the proof. -/
import Derived.Test.YtnnjamknplefbaaGreatDoorTS10
import Derived.Orders
set_option linter.all false
open Option renaming map_eq_some_iff->zf0z,bind_eq_some_iff->zf3z
open Prod renaming fst->zf1z
open List renaming mem_append->zf2z,flatMap_cons->zf4z,getD->zf7z,all_cons->zf8z
open Bool renaming and_eq_true->zf5z
open Nat renaming testBit_or->zf6z
set_option linter.all false
namespace Go.Abs
section
variable {O:Orc} {c:Ctx}
theorem B1{fr G6:Fr}{x:Opd}(h:∀t∈x.slots,G6.getD t B4=fr.getD t B4):get G6 x=get fr x:=by
 cases x with
 |t n=>exact h n (by simp[Opd.slots])
 |c v=>rfl
theorem GI{fr G6:Fr}{xs:List Opd}(h:∀t∈xs.flatMap Opd.slots,G6.getD t B4=fr.getD t B4):xs.map (get G6)=xs.map (get fr) :=
 List.map_congr_left λx hx=>B1 λt ht=>h t (List.mem_flatMap.2 ⟨x,hx,ht⟩)
theorem Jp{fr G6:Fr}{n:Nat}:∀{ps:List (Nat×Nat×Opd)},(∀t∈ps.flatMap (λp=>p.2.2.slots),G6.getD t B4=fr.getD t B4)->B6 G6 n ps=B6 fr n ps
 | [],_=>rfl
 |(off,k,x)::ps,h=>by
  have hx:get G6 x=get fr x:=B1 λt ht=>h t (by simp[ht]);have hr:=Jp (n:=n) (ps:=ps) λt ht=>h t (by simp only[zf4z,zf2z];exact .inr ht);simp only[B6,hx,hr]
theorem KU{h h':AH}(he:h'.fams=h.fams)(sz:Nat)(x:AV):elems h' sz x=elems h sz x:=by cases x<;>simp only[elems,he]
theorem CZ{fr G6:Fr}{h:AH}:∀{ps:List (Nat×Opd)} {xs:I7},(∀t∈ps.flatMap (λp=>p.2.slots),G6.getD t B4=fr.getD t B4)->B2 G6 h xs ps=B2 fr h xs ps
 | [],xs,_=>rfl
 |(i,x)::ps,xs,hh=>by
  have hx:get G6 x=get fr x:=B1 λt ht=>hh t (by simp[ht]);simp only[B2,hx];split
  .split
   .exact CZ λt ht=>hh t (by simp only[zf4z,zf2z];exact .inr ht)
   .rfl
  .rfl
theorem HX{fr:Fr}(h h':AH):∀{ps:List (Nat×Opd)} {xs:I7},ps.all (λp=>S0 (get fr p.2))=true->B2 fr h' xs ps=B2 fr h xs ps
 | [],xs,_=>rfl
 |(i,x)::ps,xs,hp=>by
  simp only[zf8z,zf5z]at hp;simp only[B2,DH h false hp.1,DH h' false hp.1,Option.some_or];split
  .split
   .exact HX h h' hp.2
   .rfl
  .rfl
theorem QG{fr G6:Fr}:∀{ps:List (Nat×Opd)},(∀t∈ps.flatMap (λp=>p.2.slots),G6.getD t B4=fr.getD t B4)->ps.all (λp=>S0 (get G6 p.2))=ps.all (λp=>S0 (get fr p.2))
 | [],_=>rfl
 |(i,x)::ps,hh=>by
  have hx:get G6 x=get fr x:=B1 λt ht=>hh t (by simp[ht]);simp only[zf8z,hx];rw[QG (ps:=ps) λt ht=>hh t (by simp only[zf4z,zf2z];exact .inr ht)]
theorem JX{h h':AH}(hb:h'.boxes=h.boxes)(x:AV):BQ h' x=BQ h x:=by cases x<;>simp only[BQ,hb]
theorem FL{fr G6:Fr}{x:Option Opd}(h:∀t∈OP x,G6.getD t B4=fr.getD t B4):i4 G6 x=i4 fr x:=by
 cases x with
 |none=>rfl
 |some x=>simp only[i4,B1 (x:=x) h]
theorem bf{h h':AH}(he:h'.fams=h.fams)(sz:Nat)(x:AV)(l u m:Option Int):Fq h' sz x l u m=Fq h sz x l u m:=by
 unfold Fq;rw[he]
theorem aR{h h':AH}(hb:h'.boxes=h.boxes){b:Bool}{n:Nat}{x:AV}(hx:∀k m i q s,x≠.ep k m i q s):U4 h' b n x=U4 h b n x:=by
 cases x<;>simp only[U4,hb];exact absurd rfl (hx _ _ _ _ _)
theorem IL{h h':AH}(hb:h'.boxes=h.boxes)(hf:h'.fams=h.fams):h'=h:=by cases h;cases h';simp_all
theorem Gl(r:ROp):r.writesB c=true->r.looksB=true:=by cases r<;>simp[ROp.writesB,ROp.looksB]
theorem Jf(r:ROp):r.writesF c=true->r.looksF=true:=by cases r<;>simp[ROp.writesF,ROp.looksF]
theorem Mo{f:FuncId}{args:I7}{h h1:AH}{v:AV}(hr:c.raw f=false)(he:Di O c f args h=some (v,h1)):h1=h:=by
 unfold Di at he;rw[if_neg (by simp[hr])]at he;split at he
 .cases he
 .split at he
  .cases he
  .split at he
   .cases he;rfl
   .cases he
theorem LZ:∀{xs:I7} {h h':AH} {ys:I7},p8 h xs=some (ys,h')->h'.fams=h.fams
 | [],h,h',ys,he=>by simp only[p8]at he;cases he;rfl
 |x::xs,h,h',ys,he=>by
  by_cases hp:∃b off,x=.ptr b off
  .obtain⟨b,off,rfl⟩:=hp;simp only[p8]at he;split at he
   case isFalse=>cases he
   split at he
   case h_2=>cases he
   split at he
   case isFalse=>cases he
   simp only[zf0z]at he;obtain⟨⟨ys',h''⟩,hr,e⟩:=he;cases e;have q:=LZ hr;exact q
  .have hr:p8 h (x::xs)=(p8 h xs).map λp=>(x::p.1,p.2):=by
    cases x<;>first|rfl|exact absurd ⟨_,_,rfl⟩ hp
   rw[hr]at he;simp only[zf0z]at he;obtain⟨⟨ys',h''⟩,hr,e⟩:=he;cases e;exact LZ hr
theorem FA{r:ROp}{fr:Fr}{h h1:AH}{v:AV}(he:A0 O c r fr h=some (v,h1)):(r.writesB c=false->h1.boxes=h.boxes)/\(r.writesF c=false->h1.fams=h.fams):=by
 have same:h1=h->(r.writesB c=false->h1.boxes=h.boxes)/\(r.writesF c=false->h1.fams=h.fams):=λe=>by subst e;exact⟨λ_=>rfl,λ_=>rfl⟩
 cases r
 case st n a x=>exact⟨(λh=>nomatch h),(λh=>nomatch h)⟩
 case ste n a x =>
  refine⟨λ_=>?_,(λh=>nomatch h)⟩;simp only[A0,Og,Ej]at he
  repeat' (split at he)
  all_goals first
   |(cases he;done)
   |(
     cases he;rename_i V8
     repeat' (split at V8)
     all_goals first
      |(cases V8;done)
      |(
       simp only[zf0z]at V8;obtain⟨y,_,rfl⟩:=V8;rfl))
 case stb n a x =>
  refine⟨(λh=>nomatch h),λ_=>?_⟩;simp only[A0,MP]at he
  repeat' (split at he)
  all_goals first|(cases he;done)|(cases he;rfl)|skip
  rw[zf0z]at he;obtain⟨y,h1,h2⟩:=he;cases h2;unfold dC at h1
  repeat' (split at h1)
  all_goals first|(cases h1;done)|(cases h1;rfl)
 case clr z x =>
  refine⟨λ_=>?_,(λh=>nomatch h)⟩;simp only[A0,Ns]at he
  repeat' (split at he)
  all_goals first|(cases he;done)|(cases he;rfl)
 case callv x aas =>
  have key:c.rawv=false->h1=h:=by
   intro hr;simp only[A0]at he;split at he
   .rename_i f caps hg;split at he
    .cases he
    .rename_i hc;exact Mo (O:=O) (c:=c) (by simpa[hr]using hc) he
   .cases he
  exact⟨λhr=>by rw[key hr],λhr=>by rw[key hr]⟩
 case clos f cs =>
  simp only[A0]at he;split at he
  .rename_i hro;refine⟨λhr=>?_,λ_=>?_⟩
   .simp only[ROp.writesB]at hr;rw[hr]at hro;cases hro
   .simp only[zf0z]at he;obtain⟨⟨ys,h2⟩,hq,he⟩:=he;cases he;exact LZ hq
  .cases he;exact⟨λ_=>rfl,λ_=>rfl⟩
 case mkmap=>simp only[A0]at he;cases he;exact⟨(λh=>nomatch h),(λ_=>rfl)⟩
 case mkb z b l q =>
  refine⟨(λh=>nomatch h),λ_=>?_⟩;simp only[A0,Sa]at he
  repeat' (split at he)
  all_goals first|(cases he;done)|(cases he;rfl)
 case mkv z b l q =>
  refine same ?_;simp only[A0,eN]at he
  repeat' (split at he)
  all_goals first|(cases he;done)|(cases he;rfl)
 case mlook str ok z x k =>
  refine same ?_;simp only[A0,Ff]at he
  repeat' (split at he)
  all_goals first|(cases he;done)|(cases he;rfl)
 case bstr x =>
  refine same ?_;simp only[A0,Rp]at he
  repeat' (split at he)
  all_goals first|(cases he;done)|(cases he;rfl)
 case mlookp ok z x k =>
  refine same ?_;simp only[A0,NA]at he
  repeat' (split at he)
  all_goals first|(cases he;done)|(cases he;rfl)
 case mupp x k w =>
  refine⟨(λh=>nomatch h),λ_=>?_⟩;simp only[A0,lM]at he
  repeat' (split at he)
  all_goals first|(cases he;done)|(cases he;rfl)
 case mlen x =>
  refine same ?_;simp only[A0]at he
  repeat' (split at he)
  all_goals first|(cases he;done)|(cases he;rfl)
 case mup str x k w =>
  refine⟨(λh=>nomatch h),λ_=>?_⟩;simp only[A0,UQ]at he
  repeat' (split at he)
  all_goals first|(cases he;done)|(cases he;rfl)
 case box x=>simp only[A0]at he;split at he<;>cases he;exact⟨(λh=>nomatch h),(λ_=>rfl)⟩
 case alloc z=>simp only[A0]at he;cases he;exact⟨(λh=>nomatch h),(λ_=>rfl)⟩
 case allocAt n z =>
  refine⟨(λh=>nomatch h),λ_=>?_⟩;simp only[A0,AF]at he
  repeat' (split at he)
  all_goals first|(cases he;done)|(cases he;rfl)
 case mkslice z b l q =>
  simp only[A0]at he;split at he
  .split at he<;>cases he;exact⟨λ_=>rfl,(λh=>nomatch h)⟩
  .cases he
 case apps b s x =>
  refine⟨λ_=>?_,λh=>nomatch h⟩;simp only[A0,Rl,Z2]at he
  repeat' (split at he)
  all_goals first|(cases he;done)|(cases he;rfl)
 case app sz b s x =>
  refine⟨λ_=>?_,λh=>nomatch h⟩;simp only[A0,R7,Z2]at he
  repeat' (split at he)
  all_goals first|(cases he;done)|(cases he;rfl)
 case len b x =>
  refine same ?_;cases b<;>simp only[A0]at he<;>split at he<;>first|(cases he;done)|(cases he;rfl)
 case call f aas =>
  refine⟨λhr=>?_,λhr=>by rw[Mo (O:=O) hr he]⟩;cases hc:c.raw f with
  |false=>rw[Mo (O:=O) hc he]
  |true =>
   simp only[ROp.writesB,hc,Bool.true_and,Bool.not_eq_false']at hr;simp only[A0,Di,hc,if_true,hr]at he;exact lH he
 case nileq =>
  refine same ?_;simp only[A0,wi]at he
  repeat' (split at he)
  all_goals first|(cases he;done)|(cases he;rfl)
 all_goals
  refine same ?_;simp only[A0]at he
  repeat' (split at he)
  all_goals first|(cases he;done)|(cases he;rfl)
theorem bn{h h':AH}(hf:h'.fams=h.fams){n:Nat}{x:AV}(hx:S0 x=true){k m i q s:Nat}:(Ej h' n x k m i q s).map AH.fams=(Ej h n x k m i q s).map AH.fams:=by
 unfold Ej;rw[DH h false hx,DH h' false hx,hf];cases h.fams[k]? with
 |none=>rfl
 |some f =>
  dsimp only;split
  .cases f.xs[i]? with
   |none=>rfl
   |some y =>
    dsimp only;split
    .cases y.reform (Y0 y.cells q x.cells)<;>simp[hf]
    .rfl
  .rfl
theorem WO{h h':AH}(hf:h'.fams=h.fams){n:Nat}{p x:AV}:(Og h' n p x).map (λr=>(r.1,r.2.fams))=(Og h n p x).map (λr=>(r.1,r.2.fams)):=by
 cases p<;>try rfl
 rename_i k m i q s;simp only[Og];split
 .rename_i hx;have:=bn hf (n:=n) hx (k:=k) (m:=m) (i:=i) (q:=q) (s:=s);cases h1:Ej h' n x k m i q s with
  |none =>
   cases h2:Ej h n x k m i q s with
   |none=>rfl
   |some b=>rw[h1,h2]at this;cases this
  |some a =>
   cases h2:Ej h n x k m i q s with
   |none=>rw[h1,h2]at this;cases this
   |some b =>
    rw[h1,h2]at this;simp only[Option.map_some,Option.some.injEq]at this ⊢;rw[this]
 .rfl
theorem WN{h h':AH}(hb:h'.boxes=h.boxes){n:Nat}{p x:AV}:(MP h' n p x).map (λr=>(r.1,r.2.boxes))=(MP h n p x).map (λr=>(r.1,r.2.boxes)):=by
 cases p<;>try rfl
 simp only[MP,hb]
 repeat' split
 all_goals first
  |rfl
  |(
    unfold dC
    repeat' split
    all_goals first|rfl|simp[hb])
theorem Uw{h h':AH}(hf:h'.fams=h.fams){z x:AV}:(Ns h' z x).map (λr=>(r.1,r.2.fams))=(Ns h z x).map (λr=>(r.1,r.2.fams)):=by
 cases x<;>try rfl
 case vs=>simp only[Ns];split<;>simp[hf]
 case sl =>
  simp only[Ns,hf]
  repeat' split
  all_goals rfl
theorem dv{α β:Type}{r r':Option (α×AH)}{g:AH->β}(h:r'.map (λx=>(x.1,g x.2))=r.map (λx=>(x.1,g x.2))):r'.map zf1z=r.map zf1z:=by
 have:=congrArg (Option.map zf1z) h;simpa[Option.map_map,Function.comp_def]using this
theorem sy{h h':AH}(hf:h'.fams=h.fams){n:Nat}{p x:AV}:(Og h' n p x).map zf1z=(Og h n p x).map zf1z:=dv (g:=AH.fams) (WO hf)
theorem su{h h':AH}(hb:h'.boxes=h.boxes){n:Nat}{p x:AV}:(MP h' n p x).map zf1z=(MP h n p x).map zf1z:=dv (g:=AH.boxes) (WN hb)
theorem oe{h h':AH}(hf:h'.fams=h.fams){z x:AV}:(Ns h' z x).map zf1z=(Ns h z x).map zf1z:=dv (g:=AH.fams) (Uw hf)
theorem RD(h:AH)(b:Nat):Bo h false (.mp b)=none:=by
 simp only[Bo];split
 .rfl
 .rfl
theorem OA(h:AH)(b sz off len:Nat):Bo h false (.bsl b sz off len)=none:=by
 simp only[Bo,kz];split
 .rw[if_neg (by simp)];unfold wP;split
  .rw[if_neg (by simp)]
  .rfl
 .rfl
theorem lB{h h':AH}(hf:h'.fams=h.fams)(x:AV):frz h' false x=frz h false x:=by
 have h1:∀y:AV,Bo h' false y=Bo h false y:=by
  intro y;cases y
  case mp b=>rw[RD,RD]
  case bsl b sz off len=>rw[OA,OA]
  all_goals simp only[Bo,hf]
 have h2:∀l:List AV,IX h' false l=IX h false l:=by
  intro l
  induction l with
  |nil=>rfl
  |cons a l ih=>simp only[IX,h1,ih]
 unfold frz;split
 .rw[h2]
 .exact h1 _
theorem eB{h h':AH}(hf:h'.fams=h.fams)(x:AV):OD h' x=OD h x:=by
 have h1:∀y:AV,Bo h' false y=Bo h false y:=by
  intro y;cases y
  case mp b=>rw[RD,RD]
  case bsl b sz off len=>rw[OA,OA]
  all_goals simp only[Bo,hf]
 unfold OD;split
 .simp only[h1]
 .rfl
theorem SN{h h':AH}(hf:h'.fams=h.fams)(am:Bool):∀xs:List AV,MZ h' am xs=MZ h am xs
 | []=>rfl
 |x::xs=>by
  have:lA h' am x=lA h am x:=by unfold lA;rw[hf]
  simp only[MZ,this,SN hf am xs]
theorem Kt{h h':AH}(hf:h'.fams=h.fams){fr:Fr}:∀{ps:List (Nat×Opd)} {xs:I7},B2 fr h' xs ps=B2 fr h xs ps
 | [],xs=>rfl
 |(i,x)::ps,xs=>by
  simp only[B2,lB hf,eB hf];split
  .split
   .exact Kt hf
   .rfl
  .rfl
theorem No{h h':AH}{ext:List (List AV)}(hb:h'.boxes=h.boxes++ext){b:Nat}{cs:I7}(hc:h.boxes[b]?=some cs):h'.boxes[b]?=some cs:=by
 rw[hb,List.getElem?_append_left (List.getElem?_eq_some_iff.1 hc).1];exact hc
section
variable {h h':AH} {ext:List (List AV)} (hb:h'.boxes=h.boxes++ext) (hf:h'.fams=h.fams)
include hb hf
theorem aH{am:Bool}{x y:AV}(he:dq h am x=some y):dq h' am x=some y:=by
 cases x<;>simp only[dq,hf]at he⊢<;>try exact he
 split at he
 .rename_i hq;rw[No hb hq];simp only[SN hf];exact he
 .cases he
theorem PU{am:Bool}:∀{xs ys:I7},MY h am xs=some ys->MY h' am xs=some ys
 | [],ys,he=>he
 |x::xs,ys,he=>by
  simp only[MY,zf3z,zf0z]at he ⊢;obtain⟨y,hy,zs,hz,e⟩:=he;exact⟨y,aH hb hf hy,zs,PU hz,e⟩
theorem aI{am:Bool}{x y:AV}(he:Bo h am x=some y):Bo h' am x=some y:=by
 by_cases hx:∃b sz off len,x=.bsl b sz off len
 .obtain⟨b,sz,off,len,rfl⟩:=hx;simp only[Bo,kz]at he ⊢;split at he
  .rename_i hq;rw[No hb hq];simp only;split at he
   .rename_i hc;rw[if_pos hc];rw[zf0z]at he ⊢;obtain⟨ys,hy,e⟩:=he;exact⟨ys,PU hb hf hy,e⟩
   .rename_i hc;rw[if_neg hc];unfold wP at he ⊢;split at he
    .split at he
     .rename_i hc2;rw[if_pos hc2];rw[zf0z]at he ⊢;obtain⟨ys,hy,e⟩:=he;exact⟨ys,PU hb hf hy,e⟩
     .cases he
    .cases he
  .cases he
 .rw[VP _ _ λb sz off len e=>hx ⟨b,sz,off,len,e⟩]at he ⊢;exact aH hb hf he
theorem aK{am:Bool}:∀{xs ys:I7},IX h am xs=some ys->IX h' am xs=some ys
 | [],ys,he=>he
 |x::xs,ys,he=>by
  simp only[IX,zf3z,zf0z]at he ⊢;obtain⟨y,hy,zs,hz,e⟩:=he;exact⟨y,aI hb hf hy,zs,aK hz,e⟩
theorem wQ{am:Bool}{x y:AV}(he:frz h am x=some y):frz h' am x=some y:=by
 unfold frz at he ⊢;split at he
 .rw[zf0z]at he ⊢;obtain⟨ys,hy,e⟩:=he;exact⟨ys,aK hb hf hy,e⟩
 .exact aI hb hf he
theorem SK{am:Bool}:∀{xs ys:I7},j8 h am xs=some ys->j8 h' am xs=some ys
 | [],ys,he=>he
 |x::xs,ys,he=>by
  simp only[j8,zf3z,zf0z]at he ⊢;obtain⟨y,hy,zs,hz,e⟩:=he;exact⟨y,wQ hb hf hy,zs,SK hz,e⟩
omit hb in
theorem mY(x:AV):tame h' x=tame h x:=by
 have h1:∀y:AV,Dn h' y=Dn h y:=by intro y;cases y<;>simp only[Dn,hf]
 unfold tame;split
 .congr 1;funext y;exact h1 y
 .exact h1 _
end
theorem mL{r:ROp}{fr G6:Fr}{h h' h1:AH}{v:AV}(hr:r.rdr c=true)(hs:∀t∈r.slots,G6.getD t B4=fr.getD t B4){ext:List (List AV)}(hb:h'.boxes=h.boxes++ext)(hf:r.looksF=true->h'.fams=h.fams)
  (he:A0 O c r fr h=some (v,h1)):A0 O c r G6 h'=some (v,h'):=by
 cases r<;>simp only[ROp.rdr]at hr<;>try (cases hr;done)
 case ld b n x =>
  have hf:=hf rfl;simp only[A0,B1 (x:=x) λt ht=>hs t (by simp[ROp.slots,ht])]at he ⊢;have key:∀w,U4 h b n (get fr x)=some w->U4 h' b n (get fr x)=some w:=by
   intro w hw;cases hx:get fr x<;>rw[hx]at hw<;>simp only[U4,hf]at hw⊢<;>try exact hw
   split at hw
   .rename_i hq;rw[No hb hq];exact hw
   .cases hw
  split at he
  .rename_i _ w hw;cases he;rw[key _ hw]
  .cases he
 case ldb b n x =>
  simp only[A0,B1 (x:=x) λt ht=>hs t (by simp[ROp.slots,ht])]at he ⊢;cases hx:get fr x<;>rw[hx]at he<;>simp only[U4]at he⊢<;>try (cases he;done)
  case pv cs =>
   split at he
   .rename_i w hw;cases he;rfl
   .cases he
  case ptr p q =>
   split at he
   .rename_i w hw;cases he;split at hw
    .rename_i hq;rw[No hb hq];simp only;rw[hw]
    .cases hw
   .cases he
 case bslice n z ps =>
  have hf:=hf rfl;simp only[A0,CZ (h:=h') (ps:=ps) λt ht=>hs t (by simpa[ROp.slots]using ht),Kt hf]at he ⊢;split at he
  .cases he;rfl
  .cases he
 case mlook str ok z x k =>
  simp only[A0,Ff,B1 (x:=x) λt ht=>hs t (by simp[ROp.slots,ht]),B1 (x:=k) λt ht=>hs t (by simp[ROp.slots,ht])]at he ⊢;split at he
  case isFalse=>cases he
  rename_i hk;rw[if_pos hk];have key:∀p,BQ h (get fr x)=some p->BQ h' (get fr x)=some p:=by
   intro p hp;cases hx:get fr x<;>rw[hx]at hp<;>simp only[BQ]at hp⊢<;>try exact hp
   split at hp
   .rename_i hq;rw[No hb hq];exact hp
   .cases hp
  split at he
  .rename_i ks vs hm;rw[key _ hm];simp only;split at he
   .rename_i i h2;split at he
    .rename_i w h3;cases he;simp only[h2,h3]
    .cases he
   .rename_i h2;cases he;simp only[h2]
   .cases he
  .cases he
 case call f aas =>
  have hf:=hf rfl;have ha:aas.map (get G6)=aas.map (get fr):=GI (xs:=aas) λt ht=>hs t (by simpa[ROp.slots]using ht);have hr':c.raw f=false:=by simpa using hr
  simp only[A0,ha,Di,hr',Bool.false_eq_true,if_false]at he ⊢;split at he
  .cases he
  .rename_i ys Nc;rw[SK hb hf Nc];simp only;split at he
   .cases he
   .rename_i q hq;have et:(aas.map (get fr)).all (tame h')=(aas.map (get fr)).all (tame h):=by
     congr 1;funext x;exact mY hf x
    rw[et];split at he
    .rename_i hc;cases he;rw[if_pos hc]
    .cases he
theorem vk{r:ROp}{fr:Fr}{h h1:AH}{v:AV}(hr:r.apd=true)(he:A0 O c r fr h=some (v,h1)):∃ext,h1.boxes=h.boxes++ext:=by
 cases r<;>simp only[ROp.apd]at hr<;>try (cases hr;done)
 case box x=>simp only[A0]at he;split at he<;>cases he;exact⟨_,rfl⟩
 case mkmap=>simp only[A0]at he;cases he;exact⟨_,rfl⟩
 case alloc z=>simp only[A0]at he;cases he;exact⟨_,rfl⟩
 case mkb z b l q =>
  simp only[A0,Sa]at he
  repeat' (split at he)
  all_goals first|(cases he;done)|(cases he;exact⟨_,rfl⟩)
theorem NE{r:ROp}(h:r.rdr c=true):r.writesB c=false/\r.writesF c=false:=by
 cases r<;>simp only[ROp.rdr]at h<;>first|(cases h;done)|exact⟨rfl,rfl⟩|skip
 rename_i f _;have:c.raw f=false:=by simpa using h
 simp[ROp.writesB,ROp.writesF,this]
theorem Wt{h h':AH}(hf:h'.fams=h.fams)(sz b:Nat)(s:AV)(ys:I7):(Z2 c h' sz b s ys).map (λp=>(p.1,p.2.fams))=(Z2 c h sz b s ys).map (λp=>(p.1,p.2.fams)):=by
 unfold Z2;rw[hf]
 repeat' split
 all_goals simp[hf]
theorem op_fst{r:ROp}{fr G6:Fr}{h h':AH}(hs:∀t∈r.slots,G6.getD t B4=fr.getD t B4)(hb:r.looksB=true->h'.boxes=h.boxes)(hf:r.looksF=true->h'.fams=h.fams)(hcall:r.isCall=false) :
  ((A0 O c r fr h).isSome=true->(A0 O c r G6 h').map zf1z=(A0 O c r fr h).map zf1z):=by
 intro hsome;cases r
 case call=>simp[ROp.isCall]at hcall
 case callv=>simp[ROp.isCall]at hcall
 case st n a x=>obtain rfl:h'=h:=IL (hb rfl) (hf rfl);simp only[A0,B1 (x:=a) λt ht=>hs t (by simp[ROp.slots,ht]),B1 (x:=x) λt ht=>hs t (by simp[ROp.slots,ht])]
 case ste n a x =>
  simp only[A0,B1 (x:=a) λt ht=>hs t (by simp[ROp.slots,ht]),B1 (x:=x) λt ht=>hs t (by simp[ROp.slots,ht])];exact sy (hf rfl)
 case stb n a x =>
  simp only[A0,B1 (x:=a) λt ht=>hs t (by simp[ROp.slots,ht]),B1 (x:=x) λt ht=>hs t (by simp[ROp.slots,ht])];exact su (hb rfl)
 case clr z x =>
  simp only[A0,B1 (x:=x) λt ht=>hs t (by simp[ROp.slots,ht])];exact oe (hf rfl)
 case ld b n x=>obtain rfl:h'=h:=IL (hb rfl) (hf rfl);simp only[A0,B1 (x:=x) λt ht=>hs t (by simp[ROp.slots,ht])]
 case mov x=>simp only[A0,B1 (x:=x) λt ht=>hs t (by simp[ROp.slots,ht])];rfl
 case pick q x y=>simp only[A0,B1 (x:=q) λt ht=>hs t (by simp[ROp.slots,ht]),B1 (x:=x) λt ht=>hs t (by simp[ROp.slots,ht]),B1 (x:=y) λt ht=>hs t (by simp[ROp.slots,ht])];cases get fr q<;>rfl
 case box x=>simp only[A0,B1 (x:=x) λt ht=>hs t (by simp[ROp.slots,ht]),hb rfl];split<;>rfl
 case alloc z=>simp only[A0,hb rfl];rfl
 case allocAt n z =>
  simp only[A0,AF,hb rfl]
  repeat' split
  all_goals rfl
 case mkmap=>simp only[A0,hb rfl];rfl
 case mlookp ok z x k =>
  simp only[A0,NA,B1 (x:=x) λt ht=>hs t (by simp[ROp.slots,ht]),B1 (x:=k) λt ht=>hs t (by simp[ROp.slots,ht]),JX (hb rfl)]
  repeat' split
  all_goals rfl
 case mupp x k w=>obtain rfl:h'=h:=IL (hb rfl) (hf rfl);simp only[A0,B1 (x:=x) λt ht=>hs t (by simp[ROp.slots,ht]),B1 (x:=k) λt ht=>hs t (by simp[ROp.slots,ht]),B1 (x:=w) λt ht=>hs t (by simp[ROp.slots,ht])]
 case mlook str ok z x k =>
  simp only[A0,Ff,B1 (x:=x) λt ht=>hs t (by simp[ROp.slots,ht]),B1 (x:=k) λt ht=>hs t (by simp[ROp.slots,ht]),JX (hb rfl)]
  repeat' split
  all_goals rfl
 case mup str x k w=>obtain rfl:h'=h:=IL (hb rfl) (hf rfl);simp only[A0,B1 (x:=x) λt ht=>hs t (by simp[ROp.slots,ht]),B1 (x:=k) λt ht=>hs t (by simp[ROp.slots,ht]),B1 (x:=w) λt ht=>hs t (by simp[ROp.slots,ht])]
 case build z ps=>simp only[A0,Jp (ps:=ps) λt ht=>hs t (by simpa[ROp.slots]using ht)];cases B6 fr z.cells.length ps<;>rfl
 case bslice n z ps=>obtain rfl:h'=h:=IL (hb rfl) (hf rfl);simp only[A0,CZ (ps:=ps) λt ht=>hs t (by simpa[ROp.slots]using ht)]
 case bslicev n z ps =>
  simp only[A0,QG (ps:=ps) λt ht=>hs t (by simpa[ROp.slots]using ht),CZ (h:=h') (ps:=ps) λt ht=>hs t (by simpa[ROp.slots]using ht)];by_cases hc:(ps.all λp=>S0 (get fr p.2))=true
  .rw[if_pos hc,if_pos hc,HX h h' hc];cases B2 fr h (List.replicate n z) ps<;>rfl
  .rw[if_neg hc,if_neg hc]
 case iaddrv sz x i =>
  simp only[A0,B1 (x:=x) λt ht=>hs t (by simp[ROp.slots,ht]),B1 (x:=i) λt ht=>hs t (by simp[ROp.slots,ht])];cases get fr x<;>first|rfl|(cases get fr i<;>first|rfl|(simp only[];split<;>first|rfl|(split<;>rfl)))
 case ldb b n x =>
  simp only[A0,B1 (x:=x) λt ht=>hs t (by simp[ROp.slots,ht])];cases hx:get fr x<;>simp only[]
  all_goals
   rw[aR (hb rfl) (by intro k m i q s h;cases h)];split<;>rfl
 case nilck x=>simp only[A0,B1 (x:=x) λt ht=>hs t (by simp[ROp.slots,ht])];cases get fr x<;>rfl
 case bin op x y=>simp only[A0,B1 (x:=x) λt ht=>hs t (by simp[ROp.slots,ht]),B1 (x:=y) λt ht=>hs t (by simp[ROp.slots,ht])];cases P0 op (get fr x) (get fr y)<;>rfl
 case beq n x y =>
  simp only[A0,B1 (x:=x) λt ht=>hs t (by simp[ROp.slots,ht]),B1 (x:=y) λt ht=>hs t (by simp[ROp.slots,ht])];cases get fr x<;>first|rfl|(cases get fr y<;>rfl)
 case nileq n x=>simp only[A0,B1 (x:=x) λt ht=>hs t (by simp[ROp.slots,ht])];cases get fr x<;>first|rfl|(simp only[wi];split<;>rfl)
 case un op x=>simp only[A0,B1 (x:=x) λt ht=>hs t (by simp[ROp.slots,ht])];cases LL op (get fr x)<;>rfl
 case conv k x=>simp only[A0,B1 (x:=x) λt ht=>hs t (by simp[ROp.slots,ht])];cases get fr x<;>rfl
 case cstr x=>simp only[A0,B1 (x:=x) λt ht=>hs t (by simp[ROp.slots,ht])];cases get fr x<;>rfl
 case bstr x=>simp only[A0,Rp,B1 (x:=x) λt ht=>hs t (by simp[ROp.slots,ht]),KU (hf rfl)];cases elems h 1 (get fr x)<;>first|rfl|(simp only[];split<;>rfl)
 case clos f cs=>obtain rfl:h'=h:=IL (hb rfl) (hf rfl);simp only[A0,GI (xs:=cs) λt ht=>hs t (by simpa[ROp.slots]using ht)]
 case mkslice z b l q =>
  simp only[A0,B1 (x:=l) λt ht=>hs t (by simp[ROp.slots,ht]),B1 (x:=q) λt ht=>hs t (by simp[ROp.slots,ht]),hf rfl];cases get fr l<;>first|rfl|(cases get fr q<;>first|rfl|(simp only[];split<;>rfl))
 case mkv z b l q =>
  simp only[A0,eN,B1 (x:=l) λt ht=>hs t (by simp[ROp.slots,ht]),B1 (x:=q) λt ht=>hs t (by simp[ROp.slots,ht])];cases get fr l<;>first|rfl|(cases get fr q<;>first|rfl|(simp only[];split<;>rfl))
 case mkb z b l q =>
  simp only[A0,Sa,B1 (x:=l) λt ht=>hs t (by simp[ROp.slots,ht]),B1 (x:=q) λt ht=>hs t (by simp[ROp.slots,ht]),hb rfl];cases get fr l<;>first|rfl|(cases get fr q<;>first|rfl|(simp only[];split<;>rfl))
 case slc sz x a b m =>
  simp only[A0,B1 (x:=x) λt ht=>hs t (by simp[ROp.slots,ht]),FL (x:=a) λt ht=>hs t (by simp[ROp.slots,ht]),FL (x:=b) λt ht=>hs t (by simp[ROp.slots,ht]),FL (x:=m) λt ht=>hs t (by simp[ROp.slots,ht]),bf (hf rfl)];cases i4 fr a<;>first|rfl|(cases i4 fr b<;>first|rfl|(cases i4 fr m<;>first|rfl|(simp only[];split<;>rfl)))
 case faddr off x=>simp only[A0,B1 (x:=x) λt ht=>hs t (by simp[ROp.slots,ht])];cases get fr x<;>rfl
 case fld b off n x =>
  simp only[A0,B1 (x:=x) λt ht=>hs t (by simp[ROp.slots,ht])];cases get fr x<;>first|rfl|(simp only[];split<;>rfl)
 case iaddr sz x i =>
  simp only[A0,B1 (x:=x) λt ht=>hs t (by simp[ROp.slots,ht]),B1 (x:=i) λt ht=>hs t (by simp[ROp.slots,ht])];cases get fr x<;>first|rfl|(cases get fr i<;>first|rfl|(simp only[];split<;>first|rfl|(split<;>rfl)))
 case idx x i =>
  simp only[A0,B1 (x:=x) λt ht=>hs t (by simp[ROp.slots,ht]),B1 (x:=i) λt ht=>hs t (by simp[ROp.slots,ht])];cases get fr x<;>first|rfl|(cases get fr i<;>first|rfl|(simp only[];split<;>first|rfl|(split<;>rfl)))
 case ext x i =>
  simp only[A0,B1 (x:=x) λt ht=>hs t (by simp[ROp.slots,ht])];cases get fr x<;>first|rfl|(simp only[];split<;>rfl)
 case len b x=>cases b<;>simp only[A0,B1 (x:=x) λt ht=>hs t (by simp[ROp.slots,ht])]<;>cases get fr x<;>rfl
 case apps b s x =>
  simp only[A0,Rl,Z2,B1 (x:=s) λt ht=>hs t (by simp[ROp.slots,ht]),B1 (x:=x) λt ht=>hs t (by simp[ROp.slots,ht]),hf rfl]
  repeat' split
  all_goals rfl
 case app sz b s x =>
  simp only[A0,R7,Z2,B1 (x:=s) λt ht=>hs t (by simp[ROp.slots,ht]),B1 (x:=x) λt ht=>hs t (by simp[ROp.slots,ht]),KU (hf rfl),hf rfl]
  repeat' split
  all_goals rfl
 case mlen x =>
  simp only[A0,B1 (x:=x) λt ht=>hs t (by simp[ROp.slots,ht]),JX (hb rfl)]
  repeat' split
  all_goals rfl
 case min x y =>
  simp only[A0,B1 (x:=x) λt ht=>hs t (by simp[ROp.slots,ht]),B1 (x:=y) λt ht=>hs t (by simp[ROp.slots,ht])];cases get fr x<;>first|rfl|(cases get fr y<;>first|rfl|(simp only[];split<;>rfl))
 case max x y =>
  simp only[A0,B1 (x:=x) λt ht=>hs t (by simp[ROp.slots,ht]),B1 (x:=y) λt ht=>hs t (by simp[ROp.slots,ht])];cases get fr x<;>first|rfl|(cases get fr y<;>first|rfl|(simp only[];split<;>rfl))
end
end Go.Abs
namespace Go.Abs
open Go.RowKit (Below)
section
variable {O:Orc} {c:Ctx}
theorem aj{r:ROp}{fr G6:Fr}{h h' h1:AH}{v:AV}(hs:∀t∈r.slots,G6.getD t B4=fr.getD t B4)(hb:r.looksB=true->h'.boxes=h.boxes)(hf:r.looksF=true->h'.fams=h.fams)
  (he:A0 O c r fr h=some (v,h1)):∃Da,A0 O c r G6 h'=some (v,Da)/\(r.writesB c=true->Da.boxes=h1.boxes)/\(r.writesF c=true->Da.fams=h1.fams):=by
 by_cases hcall:r.isCall=false
 .have h2:=op_fst (O:=O) hs hb hf hcall (by rw[he];rfl);rw[he]at h2;cases h3:A0 O c r G6 h' with
  |none=>rw[h3]at h2;cases h2
  |some x =>
   obtain⟨v',Da⟩:=x;rw[h3]at h2;have:v'=v:=by simpa using h2
   subst this;refine⟨Da,rfl,λhw=>?_,λhw=>?_⟩
   .cases r<;>simp only[ROp.writesB]at hw<;>try (cases hw;done)
    case call=>simp[ROp.isCall]at hcall
    case callv=>simp[ROp.isCall]at hcall
    case st n a x =>
     obtain rfl:h'=h:=IL (hb rfl) (hf rfl);simp only[A0,B1 (x:=a) λt ht=>hs t (by simp[ROp.slots,ht]),B1 (x:=x) λt ht=>hs t (by simp[ROp.slots,ht])]at h3 he;rw[h3]at he;cases he;rfl
    case stb n a x =>
     simp only[A0,B1 (x:=a) λt ht=>hs t (by simp[ROp.slots,ht]),B1 (x:=x) λt ht=>hs t (by simp[ROp.slots,ht])]at h3 he;have:=WN (h:=h) (h':=h') (hb rfl) (n:=n) (p:=get fr a) (x:=get fr x);rw[h3,he]at this;simpa using this
    case box x =>
     simp only[A0,B1 (x:=x) λt ht=>hs t (by simp[ROp.slots,ht]),hb rfl]at h3 he;split at he
     .cases he
     .rename_i ht;rw[if_neg ht]at h3;cases he;cases h3;rfl
    case alloc z=>simp only[A0,hb rfl]at h3 he;cases he;cases h3;rfl
    case allocAt n z =>
     simp only[A0,AF,hb rfl]at h3 he;split at he
     .rename_i cs o9;split at he
      .rename_i hc;simp only[o9,if_pos hc]at h3;cases he;cases h3;rfl
      .cases he
     .cases he
    case clos f cs =>
     obtain rfl:h'=h:=IL (hb rfl) (hf rfl);simp only[A0,GI (xs:=cs) λt ht=>hs t (by simpa[ROp.slots]using ht)]at h3 he;rw[h3]at he;cases he;rfl
    case mkmap=>simp only[A0,hb rfl]at h3 he;cases he;cases h3;rfl
    case mkb z b l q =>
     simp only[A0,Sa,B1 (x:=l) λt ht=>hs t (by simp[ROp.slots,ht]),B1 (x:=q) λt ht=>hs t (by simp[ROp.slots,ht]),hb rfl]at h3 he;split at he
     .rename_i e1 e2;simp only[e1,e2]at h3;split at he
      .rename_i hc;rw[if_pos hc]at h3;cases he;cases h3;rfl
      .cases he
     .cases he
    case mupp x k w =>
     obtain rfl:h'=h:=IL (hb rfl) (hf rfl);simp only[A0,B1 (x:=x) λt ht=>hs t (by simp[ROp.slots,ht]),B1 (x:=k) λt ht=>hs t (by simp[ROp.slots,ht]),B1 (x:=w) λt ht=>hs t (by simp[ROp.slots,ht])]at h3 he;rw[h3]at he;cases he;rfl
    case mup str x k w =>
     obtain rfl:h'=h:=IL (hb rfl) (hf rfl);simp only[A0,B1 (x:=x) λt ht=>hs t (by simp[ROp.slots,ht]),B1 (x:=k) λt ht=>hs t (by simp[ROp.slots,ht]),B1 (x:=w) λt ht=>hs t (by simp[ROp.slots,ht])]at h3 he;rw[h3]at he;cases he;rfl
   .cases r<;>simp only[ROp.writesF]at hw<;>try (cases hw;done)
    case call=>simp[ROp.isCall]at hcall
    case callv=>simp[ROp.isCall]at hcall
    case st n a x =>
     obtain rfl:h'=h:=IL (hb rfl) (hf rfl);simp only[A0,B1 (x:=a) λt ht=>hs t (by simp[ROp.slots,ht]),B1 (x:=x) λt ht=>hs t (by simp[ROp.slots,ht])]at h3 he;rw[h3]at he;cases he;rfl
    case ste n a x =>
     simp only[A0,B1 (x:=a) λt ht=>hs t (by simp[ROp.slots,ht]),B1 (x:=x) λt ht=>hs t (by simp[ROp.slots,ht])]at h3 he;have:=WO (h:=h) (h':=h') (hf rfl) (n:=n) (p:=get fr a) (x:=get fr x);rw[h3,he]at this;simpa using this
    case clr z x =>
     simp only[A0,B1 (x:=x) λt ht=>hs t (by simp[ROp.slots,ht])]at h3 he;have:=Uw (h:=h) (h':=h') (hf rfl) (z:=z) (x:=get fr x);rw[h3,he]at this;simpa using this
    case mkslice z b l q =>
     simp only[A0,B1 (x:=l) λt ht=>hs t (by simp[ROp.slots,ht]),B1 (x:=q) λt ht=>hs t (by simp[ROp.slots,ht]),hf rfl]at h3 he;split at he
     .rename_i e1 e2;simp only[e1,e2]at h3;split at he
      .rename_i hc;rw[if_pos hc]at h3;cases he;cases h3;rfl
      .cases he
     .cases he
    case apps b s x =>
     simp only[A0,Rl,B1 (x:=s) λt ht=>hs t (by simp[ROp.slots,ht]),B1 (x:=x) λt ht=>hs t (by simp[ROp.slots,ht])]at h3 he;cases hg:get fr x<;>rw[hg]at he h3<;>(try dsimp only at he h3)<;>try (cases he;done)
     rename_i str;have:=Wt (c:=c) (h:=h) (h':=h') (hf rfl) 1 b (get fr s) (JR str);rw[h3,he]at this;simpa using this
    case app sz b s x =>
     simp only[A0,R7,Z2,B1 (x:=s) λt ht=>hs t (by simp[ROp.slots,ht]),B1 (x:=x) λt ht=>hs t (by simp[ROp.slots,ht]),KU (hf rfl),hf rfl]at h3 he;cases LN:elems h sz (get fr x)with
     |none=>rw[LN]at he;cases he
     |some ys =>
      rw[LN]at he h3;dsimp only at he h3;cases hg:get fr s<;>rw[hg]at he h3<;>(try dsimp only at he h3)<;>try (cases he;done)
      case vs full z xs =>
       cases full<;>(try dsimp only at he h3)
       .cases he
       .split at he
        .rename_i hc;rw[if_pos hc]at h3;cases he;cases h3;exact hf rfl
        .rename_i hc;rw[if_neg hc]at h3;split at he
         .rename_i hc2;rw[if_pos hc2]at h3;cases he;cases h3;rfl
         .cases he
      case sl k n off len =>
       cases hk:h.fams[k]? with
       |none=>rw[hk]at he;cases he
       |some f =>
        rw[hk]at he h3;dsimp only at he h3;split at he
        .rename_i hc;rw[if_pos hc]at h3;cases he;cases h3;rfl
        .rename_i hc;rw[if_neg hc]at h3;split at he
         .rename_i hc2;rw[if_pos hc2]at h3;cases he;cases h3;rfl
         .cases he
 .cases r<;>simp only[ROp.isCall]at hcall<;>try (exact absurd trivial hcall)
  case callv x aas =>
   obtain rfl:h'=h:=IL (hb rfl) (hf rfl);refine⟨h1,?_,λ_=>rfl,λ_=>rfl⟩;rw[←he];simp only[A0,B1 (x:=x) λt ht=>hs t (by simp only[ROp.slots,zf2z];exact .inl ht),GI (xs:=aas) λt ht=>hs t (by simp only[ROp.slots,zf2z];exact .inr ht)]
  case call f aas =>
   have ha:aas.map (get G6)=aas.map (get fr):=GI (xs:=aas) λt ht=>hs t (by simpa[ROp.slots]using ht);obtain rfl:h'=h:=IL (hb rfl) (hf rfl);exact⟨h1,by rw[←he];simp only[A0,ha],λ_=>rfl,λ_=>rfl⟩
def pS(o:Oper)(j6:List Nat):Nat:=o.after.toList.foldl (λs e=>if Region.binds .any e then s ||| 2 ^ e.on ||| j6.getD e.on 0 else s) 0
theorem QD:∀(l:List Oper) (j6:List Nat),∃ext,S7 l j6=j6++ext/\ext.length=l.length/\∀(k:Nat) (o:Oper),l[k]?=some o->ext[k]?=some (pS o (j6++ext.take k))
 | [],j6=>⟨[],by simp[S7],rfl,λk o h=>by simp at h⟩
 |o::l,j6=>by
  obtain⟨ext,h1,h2,h3⟩:=QD l (j6++[pS o j6]);refine⟨pS o j6::ext,?_,by simp[h2],λk o' hk=>?_⟩
  .rw[S7];show S7 l (j6++[pS o j6])=_;rw[h1];simp
  .cases k with
   |zero=>simp at hk;subst hk;simp
   |succ k =>
    have:=h3 k o' (by simpa using hk);simpa using this
theorem VN{j6:List Nat}{i:Nat}:∀(l:List Edge) (s:Nat),(l.foldl (λs e=>if Region.binds .any e then s ||| 2 ^ e.on ||| j6.getD e.on 0 else s) s).testBit i=true ->
  s.testBit i=true\/∃e∈l,Region.binds .any e=true/\(e.on=i\/(j6.getD e.on 0).testBit i=true)
 | [],s,h=>.inl h
 |e::l,s,h=>by
  simp only[List.foldl_cons]at h;rcases VN l _ h with h1|⟨e',he',h1⟩
  .split at h1
   .rename_i hb;rw[zf6z,zf6z]at h1;simp only[Bool.or_eq_true]at h1;rcases h1 with (h1|h1)|h1
    .exact .inl h1
    .rw[Nat.testBit_two_pow]at h1;exact .inr ⟨e,by simp,hb,.inl (by simpa using h1)⟩
    .exact .inr ⟨e,by simp,hb,.inr h1⟩
   .exact .inl h1
  .exact .inr ⟨e',by simp[he'],h1⟩
def Oy(ops:List Oper)(i j:Nat):Prop:=((S7 ops []).getD j 0).testBit i=true
theorem Zi{ops:List Oper}{i j:Nat}(h:Oy ops i j):∃o e,ops[j]?=some o/\e∈o.after.toList/\Region.binds .any e=true/\(e.on=i\/Oy ops i e.on):=by
 obtain⟨ext,h1,h2,h3⟩:=QD ops [];simp only[List.nil_append]at h1 h3;unfold Oy at h;rw[h1]at h;cases ho:ops[j]? with
 |none =>
  have:ext[j]?=none:=by
   rw[List.getElem?_eq_none_iff]at ho ⊢;omega
  simp[zf7z,this]at h
 |some o =>
  have h4:=h3 j o ho;rw[zf7z,h4]at h;simp only[Option.getD_some]at h;unfold pS at h;rcases VN _ _ h with h5|⟨e,he,hb,h5⟩
  .simp at h5
  .refine⟨o,e,rfl,he,hb,?_⟩;rcases h5 with h5|h5
   .exact .inl h5
   .right;unfold Oy;rw[h1];have:(ext.take j).getD e.on 0=ext.getD e.on 0\/(ext.take j).getD e.on 0=0:=by
     simp only[zf7z,List.getElem?_take];split
     .exact .inl rfl
     .exact .inr rfl
    rcases this with h6|h6
    .rw[←h6];exact h5
    .rw[h6]at h5;simp at h5
theorem SA:∀{ops:List Oper} {k:Nat},Hk ops k=true->∀{j:Nat} {o:Oper} {e:Edge},ops[j]?=some o->e∈o.after.toList->Region.binds .any e=true->e.on<k+j
 | [],_,_,j,o,e,h,_,_=>by simp at h
 |o'::ops,k,h,j,o,e,ho,he,hb=>by
  simp only[Hk,zf5z]at h;cases j with
  |zero =>
   simp at ho;subst ho;have:=(List.all_eq_true.1 h.1) e he;simp[hb]at this;omega
  |succ j =>
   have:=SA h.2 (j:=j) (o:=o) (by simpa using ho) he hb;omega
end
end Go.Abs
