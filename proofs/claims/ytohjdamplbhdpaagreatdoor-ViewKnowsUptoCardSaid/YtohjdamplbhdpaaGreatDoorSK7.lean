/- A part of the proof. -/
import Derived.Test.YtohjdamplbhdpaaGreatDoorSK6
import Derived.Orders
set_option linter.all false
open List renaming getElem?_eq_getElem->A0A,mem_append->A0C,getElem?_eq_some_iff->A0H,getD->A0J,flatMap_cons->A0K,all_eq_true->A0M,getElem?_eq_none->A0P,mem_range->A0Q,all_cons->A0T
open Array renaming getD_eq_getD_getElem?->A0B,getElem?_eq_getElem->A0G,all_eq_true_iff_forall_mem->A0I
open Option renaming map_eq_some_iff->A0D,getD_some->A0N,map_some->A0O
open Prod renaming fst->A0E
open Bool renaming and_eq_true->A0F,not_eq_true'->A0R
open Nat renaming lt_trichotomy->A0L,testBit_or->A0S
namespace Go.Abs
section
variable {O:Orc} {c:Ctx}
theorem C5 {fr C6:Fr} {x:Opd} (h:∀t∈x.slots,C6.getD t C3=fr.getD t C3):get C6 x=get fr x:=by
 cases x with
 |t n=>exact h n (by simp[Opd.slots])
 |c v=>rfl
theorem Nf {fr C6:Fr} {xs:List Opd} (h:∀t∈xs.flatMap Opd.slots,C6.getD t C3=fr.getD t C3):xs.map (get C6)=xs.map (get fr) :=
 List.map_congr_left λx hx=>C5 λt ht=>h t (List.mem_flatMap.2 ⟨x,hx,ht⟩)
theorem Mz {fr C6:Fr} {n:Nat}:∀{ps:List (Nat×Nat×Opd)},(∀t∈ps.flatMap (λp=>p.2.2.slots),C6.getD t C3=fr.getD t C3)->D2 C6 n ps=D2 fr n ps
 | [],_=>rfl
 |(off,k,x)::ps,h=>by
  have hx:get C6 x=get fr x:=C5 λt ht=>h t (by simp[ht]);have hr:=Mz (n:=n) (ps:=ps) λt ht=>h t (by simp only[A0K,A0C];exact .inr ht);simp only[D2,hx,hr]
theorem Qb {h h':AH} (he:h'.fams=h.fams) (sz:Nat) (x:AV):y8 h' sz x=y8 h sz x:=by cases x<;>simp only[y8,he]
theorem JC {fr C6:Fr} {h:AH}:∀{ps:List (Nat×Opd)} {xs:G1},(∀t∈ps.flatMap (λp=>p.2.slots),C6.getD t C3=fr.getD t C3)->A5 C6 h xs ps=A5 fr h xs ps
 | [],xs,_=>rfl
 |(i,x)::ps,xs,hh=>by
  have hx:get C6 x=get fr x:=C5 λt ht=>hh t (by simp[ht]);simp only[A5,hx];split
  .split
   .exact JC λt ht=>hh t (by simp only[A0K,A0C];exact .inr ht)
   .rfl
  .rfl
theorem OS {fr:Fr} (h h':AH):∀{ps:List (Nat×Opd)} {xs:G1},ps.all (λp=>MC (get fr p.2))=true->A5 fr h' xs ps=A5 fr h xs ps
 | [],xs,_=>rfl
 |(i,x)::ps,xs,hp=>by
  simp only[A0T,A0F]at hp;simp only[A5,Ot h false hp.1,Ot h' false hp.1];split
  .split
   .exact OS h h' hp.2
   .rfl
  .rfl
theorem Su {fr C6:Fr}:∀{ps:List (Nat×Opd)},(∀t∈ps.flatMap (λp=>p.2.slots),C6.getD t C3=fr.getD t C3)->ps.all (λp=>MC (get C6 p.2))=ps.all (λp=>MC (get fr p.2))
 | [],_=>rfl
 |(i,x)::ps,hh=>by
  have hx:get C6 x=get fr x:=C5 λt ht=>hh t (by simp[ht]);simp only[A0T,hx];rw[Su (ps:=ps) λt ht=>hh t (by simp only[A0K,A0C];exact .inr ht)]
theorem Vn {h h':AH} (hb:h'.boxes=h.boxes) (x:AV):Gy h' x=Gy h x:=by cases x<;>simp only[Gy,hb]
theorem Oi {fr C6:Fr} {x:Option Opd} (h:∀t∈Rc x,C6.getD t C3=fr.getD t C3):J6 C6 x=J6 fr x:=by
 cases x with
 |none=>rfl
 |some x=>simp only[J6,C5 (x:=x) h]
theorem bZ {h h':AH} (he:h'.fams=h.fams) (sz:Nat) (x:AV) (l u m:Option Int):Mf h' sz x l u m=Mf h sz x l u m:=by
 unfold Mf;rw[he]
theorem Zo {h h':AH} (hb:h'.boxes=h.boxes) {b:Bool} {n:Nat} {x:AV} (hx:∀k m i q s,x≠.ep k m i q s):Hs h' b n x=Hs h b n x:=by
 cases x<;>simp only[Hs,hb];exact absurd rfl (hx _ _ _ _ _)
theorem OK {h h':AH} (hb:h'.boxes=h.boxes) (hf:h'.fams=h.fams):h'=h:=by cases h;cases h';simp_all
theorem QR (r:ROp):r.writesB c=true->r.looksB=true:=by cases r<;>simp[ROp.writesB,ROp.looksB]
theorem QT (r:ROp):r.writesF c=true->r.looksF=true:=by cases r<;>simp[ROp.writesF,ROp.looksF]
theorem QZ {f:FuncId} {args:G1} {h h1:AH} {v:AV} (hr:c.raw f=false) (he:Jn O c f args h=some (v,h1)):h1=h:=by
 unfold Jn at he;rw[if_neg (by simp[hr])]at he;split at he
 .cases he
 .split at he
  .cases he
  .split at he
   .cases he;rfl
   .cases he
theorem PN:∀{xs:G1} {h h':AH} {ys:G1},BW h xs=some (ys,h')->h'.fams=h.fams
 | [],h,h',ys,he=>by simp only[BW]at he;cases he;rfl
 |x::xs,h,h',ys,he=>by
  by_cases hp:∃b off,x=.ptr b off
  .obtain⟨b,off,rfl⟩:=hp;simp only[BW]at he;split at he
   case isFalse=>cases he
   split at he
   case h_2=>cases he
   split at he
   case isFalse=>cases he
   simp only[A0D]at he;obtain⟨⟨ys',h''⟩,hr,e⟩:=he;cases e;have q:=PN hr;exact q
  .have hr:BW h (x::xs)=(BW h xs).map λp=>(x::p.1,p.2):=by
    cases x<;>first|rfl|exact absurd ⟨_,_,rfl⟩ hp
   rw[hr]at he;simp only[A0D]at he;obtain⟨⟨ys',h''⟩,hr,e⟩:=he;cases e;exact PN hr
theorem YH {r:ROp} {fr:Fr} {h h1:AH} {v:AV} (he:A8 O c r fr h=some (v,h1)):(r.writesB c=false->h1.boxes=h.boxes)/\(r.writesF c=false->h1.fams=h.fams):=by
 have same:h1=h->(r.writesB c=false->h1.boxes=h.boxes)/\(r.writesF c=false->h1.fams=h.fams):=λe=>by subst e;exact⟨λ_=>rfl,λ_=>rfl⟩
 cases r
 case st n a x=>exact⟨(λh=>nomatch h),(λh=>nomatch h)⟩
 case ste n a x =>
  refine⟨λ_=>?_,(λh=>nomatch h)⟩;simp only[A8,VV,HO]at he
  repeat' (split at he)
  all_goals first
   |(cases he;done)
   |(
     cases he;rename_i Gx
     repeat' (split at Gx)
     all_goals first
      |(cases Gx;done)
      |(
       simp only[A0D]at Gx;obtain⟨y,_,rfl⟩:=Gx;rfl))
 case stb n a x =>
  refine⟨(λh=>nomatch h),λ_=>?_⟩;simp only[A8,VU]at he
  repeat' (split at he)
  all_goals first|(cases he;done)|(cases he;rfl)
 case clr z x =>
  refine⟨λ_=>?_,(λh=>nomatch h)⟩;simp only[A8,SM]at he
  repeat' (split at he)
  all_goals first|(cases he;done)|(cases he;rfl)
 case callv x aas =>
  have key:c.rawv=false->h1=h:=by
   intro hr;simp only[A8]at he;split at he
   .rename_i f caps hg;split at he
    .cases he
    .rename_i hc;exact QZ (O:=O) (c:=c) (by simpa[hr]using hc) he
   .cases he
  exact⟨λhr=>by rw[key hr],λhr=>by rw[key hr]⟩
 case clos f cs =>
  simp only[A8]at he;split at he
  .rename_i hro;refine⟨λhr=>?_,λ_=>?_⟩
   .simp only[ROp.writesB]at hr;rw[hr]at hro;cases hro
   .simp only[A0D]at he;obtain⟨⟨ys,h2⟩,hq,he⟩:=he;cases he;exact PN hq
  .cases he;exact⟨λ_=>rfl,λ_=>rfl⟩
 case mkmap=>simp only[A8]at he;cases he;exact⟨(λh=>nomatch h),(λ_=>rfl)⟩
 case mkv z b l q =>
  refine same ?_;simp only[A8,dM]at he
  repeat' (split at he)
  all_goals first|(cases he;done)|(cases he;rfl)
 case mlook str ok z x k =>
  refine same ?_;simp only[A8,Ht]at he
  repeat' (split at he)
  all_goals first|(cases he;done)|(cases he;rfl)
 case bstr x =>
  refine same ?_;simp only[A8,Sp]at he
  repeat' (split at he)
  all_goals first|(cases he;done)|(cases he;rfl)
 case mup str x k w =>
  refine⟨(λh=>nomatch h),λ_=>?_⟩;simp only[A8,dP]at he
  repeat' (split at he)
  all_goals first|(cases he;done)|(cases he;rfl)
 case box x=>simp only[A8]at he;split at he<;>cases he;exact⟨(λh=>nomatch h),(λ_=>rfl)⟩
 case alloc z=>simp only[A8]at he;cases he;exact⟨(λh=>nomatch h),(λ_=>rfl)⟩
 case mkslice z b l q =>
  simp only[A8]at he;split at he
  .split at he<;>cases he;exact⟨λ_=>rfl,(λh=>nomatch h)⟩
  .cases he
 case app sz b s x =>
  refine⟨λ_=>?_,λh=>nomatch h⟩;simp only[A8,N1]at he
  repeat' (split at he)
  all_goals first|(cases he;done)|(cases he;rfl)
 case len b x =>
  refine same ?_;cases b<;>simp only[A8]at he<;>split at he<;>first|(cases he;done)|(cases he;rfl)
 case call f aas =>
  refine⟨λhr=>?_,λhr=>by rw[QZ (O:=O) hr he]⟩;cases hc:c.raw f with
  |false=>rw[QZ (O:=O) hc he]
  |true =>
   simp only[ROp.writesB,hc,Bool.true_and,Bool.not_eq_false']at hr;simp only[A8,Jn,hc,if_true,hr]at he;exact gi he
 all_goals
  refine same ?_;simp only[A8]at he
  repeat' (split at he)
  all_goals first|(cases he;done)|(cases he;rfl)
theorem bg {h h':AH} (hf:h'.fams=h.fams) {n:Nat} {x:AV} (hx:MC x=true) {k m i q s:Nat}:(HO h' n x k m i q s).map AH.fams=(HO h n x k m i q s).map AH.fams:=by
 unfold HO;rw[Ot h false hx,Ot h' false hx,hf];cases h.fams[k]? with
 |none=>rfl
 |some f =>
  dsimp only;split
  .cases f.xs[i]? with
   |none=>rfl
   |some y =>
    dsimp only;split
    .cases y.reform (L9 y.cells q x.cells)<;>simp
    .rfl
  .rfl
theorem XF {h h':AH} (hf:h'.fams=h.fams) {n:Nat} {p x:AV}:(VV h' n p x).map (λr=>(r.1,r.2.fams))=(VV h n p x).map (λr=>(r.1,r.2.fams)):=by
 cases p<;>try rfl
 rename_i k m i q s;simp only[VV];split
 .rename_i hx;have:=bg hf (n:=n) hx (k:=k) (m:=m) (i:=i) (q:=q) (s:=s);cases h1:HO h' n x k m i q s with
  |none =>
   cases h2:HO h n x k m i q s with
   |none=>rfl
   |some b=>rw[h1,h2]at this;cases this
  |some a =>
   cases h2:HO h n x k m i q s with
   |none=>rw[h1,h2]at this;cases this
   |some b =>
    rw[h1,h2]at this;simp only[A0O,Option.some.injEq]at this ⊢;rw[this]
 .rfl
theorem XE {h h':AH} (hb:h'.boxes=h.boxes) {n:Nat} {p x:AV}:(VU h' n p x).map (λr=>(r.1,r.2.boxes))=(VU h n p x).map (λr=>(r.1,r.2.boxes)):=by
 cases p<;>try rfl
 simp only[VU,hb]
 repeat' split
 all_goals rfl
theorem WJ {h h':AH} (hf:h'.fams=h.fams) {z x:AV}:(SM h' z x).map (λr=>(r.1,r.2.fams))=(SM h z x).map (λr=>(r.1,r.2.fams)):=by
 cases x<;>try rfl
 case vs=>simp only[SM];split<;>simp[hf]
 case sl =>
  simp only[SM,hf]
  repeat' split
  all_goals rfl
theorem cd {α β:Type} {r r':Option (α×AH)} {g:AH->β} (h:r'.map (λx=>(x.1,g x.2))=r.map (λx=>(x.1,g x.2))):r'.map A0E=r.map A0E:=by
 have:=congrArg (Option.map A0E) h;simpa[Option.map_map,Function.comp_def]using this
theorem ma {h h':AH} (hf:h'.fams=h.fams) {n:Nat} {p x:AV}:(VV h' n p x).map A0E=(VV h n p x).map A0E:=cd (g:=AH.fams) (XF hf)
theorem mZ {h h':AH} (hb:h'.boxes=h.boxes) {n:Nat} {p x:AV}:(VU h' n p x).map A0E=(VU h n p x).map A0E:=cd (g:=AH.boxes) (XE hb)
theorem kG {h h':AH} (hf:h'.fams=h.fams) {z x:AV}:(SM h' z x).map A0E=(SM h z x).map A0E:=cd (g:=AH.fams) (WJ hf)
theorem rn {r:ROp} {fr C6:Fr} {h h':AH} (hs:∀t∈r.slots,C6.getD t C3=fr.getD t C3) (hb:r.looksB=true->h'.boxes=h.boxes) (hf:r.looksF=true->h'.fams=h.fams) (hcall:r.isCall=false) :
  ((A8 O c r fr h).isSome=true->(A8 O c r C6 h').map A0E=(A8 O c r fr h).map A0E):=by
 intro hsome;cases r
 case call=>simp[ROp.isCall]at hcall
 case callv=>simp[ROp.isCall]at hcall
 case st n a x=>obtain rfl:h'=h:=OK (hb rfl) (hf rfl);simp only[A8,C5 (x:=a) λt ht=>hs t (by simp[ROp.slots,ht]),C5 (x:=x) λt ht=>hs t (by simp[ROp.slots,ht])]
 case ste n a x =>
  simp only[A8,C5 (x:=a) λt ht=>hs t (by simp[ROp.slots,ht]),C5 (x:=x) λt ht=>hs t (by simp[ROp.slots,ht])];exact ma (hf rfl)
 case stb n a x =>
  simp only[A8,C5 (x:=a) λt ht=>hs t (by simp[ROp.slots,ht]),C5 (x:=x) λt ht=>hs t (by simp[ROp.slots,ht])];exact mZ (hb rfl)
 case clr z x =>
  simp only[A8,C5 (x:=x) λt ht=>hs t (by simp[ROp.slots,ht])];exact kG (hf rfl)
 case ld b n x=>obtain rfl:h'=h:=OK (hb rfl) (hf rfl);simp only[A8,C5 (x:=x) λt ht=>hs t (by simp[ROp.slots,ht])]
 case mov x=>simp only[A8,C5 (x:=x) λt ht=>hs t (by simp[ROp.slots,ht])];rfl
 case pick q x y=>simp only[A8,C5 (x:=q) λt ht=>hs t (by simp[ROp.slots,ht]),C5 (x:=x) λt ht=>hs t (by simp[ROp.slots,ht]),C5 (x:=y) λt ht=>hs t (by simp[ROp.slots,ht])];cases get fr q<;>rfl
 case box x=>simp only[A8,C5 (x:=x) λt ht=>hs t (by simp[ROp.slots,ht]),hb rfl];split<;>rfl
 case alloc z=>simp only[A8,hb rfl];rfl
 case mkmap=>simp only[A8,hb rfl];rfl
 case mlook str ok z x k =>
  simp only[A8,Ht,C5 (x:=x) λt ht=>hs t (by simp[ROp.slots,ht]),C5 (x:=k) λt ht=>hs t (by simp[ROp.slots,ht]),Vn (hb rfl)]
  repeat' split
  all_goals rfl
 case mup str x k w=>obtain rfl:h'=h:=OK (hb rfl) (hf rfl);simp only[A8,C5 (x:=x) λt ht=>hs t (by simp[ROp.slots,ht]),C5 (x:=k) λt ht=>hs t (by simp[ROp.slots,ht]),C5 (x:=w) λt ht=>hs t (by simp[ROp.slots,ht])]
 case build z ps=>simp only[A8,Mz (ps:=ps) λt ht=>hs t (by simpa[ROp.slots]using ht)];cases D2 fr z.cells.length ps<;>rfl
 case bslice n z ps=>obtain rfl:h'=h:=OK (hb rfl) (hf rfl);simp only[A8,JC (ps:=ps) λt ht=>hs t (by simpa[ROp.slots]using ht)]
 case bslicev n z ps =>
  simp only[A8,Su (ps:=ps) λt ht=>hs t (by simpa[ROp.slots]using ht),JC (h:=h') (ps:=ps) λt ht=>hs t (by simpa[ROp.slots]using ht)];by_cases hc:(ps.all λp=>MC (get fr p.2))=true
  .rw[if_pos hc,if_pos hc,OS h h' hc];cases A5 fr h (List.replicate n z) ps<;>rfl
  .rw[if_neg hc,if_neg hc]
 case iaddrv sz x i =>
  simp only[A8,C5 (x:=x) λt ht=>hs t (by simp[ROp.slots,ht]),C5 (x:=i) λt ht=>hs t (by simp[ROp.slots,ht])];cases get fr x<;>first|rfl|(cases get fr i<;>first|rfl|(simp only[];split<;>first|rfl|(split<;>rfl)))
 case ldb b n x =>
  simp only[A8,C5 (x:=x) λt ht=>hs t (by simp[ROp.slots,ht])];cases hx:get fr x<;>simp only[]
  all_goals
   rw[Zo (hb rfl) (by intro k m i q s h;cases h)];split<;>rfl
 case nilck x=>simp only[A8,C5 (x:=x) λt ht=>hs t (by simp[ROp.slots,ht])];cases get fr x<;>rfl
 case bin op x y=>simp only[A8,C5 (x:=x) λt ht=>hs t (by simp[ROp.slots,ht]),C5 (x:=y) λt ht=>hs t (by simp[ROp.slots,ht])];cases G7 op (get fr x) (get fr y)<;>rfl
 case beq n x y =>
  simp only[A8,C5 (x:=x) λt ht=>hs t (by simp[ROp.slots,ht]),C5 (x:=y) λt ht=>hs t (by simp[ROp.slots,ht])];cases get fr x<;>first|rfl|(cases get fr y<;>rfl)
 case nileq n x=>simp only[A8,C5 (x:=x) λt ht=>hs t (by simp[ROp.slots,ht])];cases get fr x<;>rfl
 case un op x=>simp only[A8,C5 (x:=x) λt ht=>hs t (by simp[ROp.slots,ht])];cases Qe op (get fr x)<;>rfl
 case conv k x=>simp only[A8,C5 (x:=x) λt ht=>hs t (by simp[ROp.slots,ht])];cases get fr x<;>rfl
 case cstr x=>simp only[A8,C5 (x:=x) λt ht=>hs t (by simp[ROp.slots,ht])];cases get fr x<;>rfl
 case bstr x=>simp only[A8,Sp,C5 (x:=x) λt ht=>hs t (by simp[ROp.slots,ht]),Qb (hf rfl)];cases y8 h 1 (get fr x)<;>first|rfl|(simp only[];split<;>rfl)
 case clos f cs=>obtain rfl:h'=h:=OK (hb rfl) (hf rfl);simp only[A8,Nf (xs:=cs) λt ht=>hs t (by simpa[ROp.slots]using ht)]
 case mkslice z b l q =>
  simp only[A8,C5 (x:=l) λt ht=>hs t (by simp[ROp.slots,ht]),C5 (x:=q) λt ht=>hs t (by simp[ROp.slots,ht]),hf rfl];cases get fr l<;>first|rfl|(cases get fr q<;>first|rfl|(simp only[];split<;>rfl))
 case mkv z b l q =>
  simp only[A8,dM,C5 (x:=l) λt ht=>hs t (by simp[ROp.slots,ht]),C5 (x:=q) λt ht=>hs t (by simp[ROp.slots,ht])];cases get fr l<;>first|rfl|(cases get fr q<;>first|rfl|(simp only[];split<;>rfl))
 case slc sz x a b m =>
  simp only[A8,C5 (x:=x) λt ht=>hs t (by simp[ROp.slots,ht]),Oi (x:=a) λt ht=>hs t (by simp[ROp.slots,ht]),Oi (x:=b) λt ht=>hs t (by simp[ROp.slots,ht]),Oi (x:=m) λt ht=>hs t (by simp[ROp.slots,ht]),bZ (hf rfl)];cases J6 fr a<;>first|rfl|(cases J6 fr b<;>first|rfl|(cases J6 fr m<;>first|rfl|(simp only[];split<;>rfl)))
 case faddr off x=>simp only[A8,C5 (x:=x) λt ht=>hs t (by simp[ROp.slots,ht])];cases get fr x<;>rfl
 case fld b off n x =>
  simp only[A8,C5 (x:=x) λt ht=>hs t (by simp[ROp.slots,ht])];cases get fr x<;>first|rfl|(simp only[];split<;>rfl)
 case iaddr sz x i =>
  simp only[A8,C5 (x:=x) λt ht=>hs t (by simp[ROp.slots,ht]),C5 (x:=i) λt ht=>hs t (by simp[ROp.slots,ht])];cases get fr x<;>first|rfl|(cases get fr i<;>first|rfl|(simp only[];split<;>first|rfl|(split<;>rfl)))
 case idx x i =>
  simp only[A8,C5 (x:=x) λt ht=>hs t (by simp[ROp.slots,ht]),C5 (x:=i) λt ht=>hs t (by simp[ROp.slots,ht])];cases get fr x<;>first|rfl|(cases get fr i<;>first|rfl|(simp only[];split<;>first|rfl|(split<;>rfl)))
 case ext x i =>
  simp only[A8,C5 (x:=x) λt ht=>hs t (by simp[ROp.slots,ht])];cases get fr x<;>first|rfl|(simp only[];split<;>rfl)
 case len b x=>cases b<;>simp only[A8,C5 (x:=x) λt ht=>hs t (by simp[ROp.slots,ht])]<;>cases get fr x<;>rfl
 case app sz b s x =>
  simp only[A8,N1,C5 (x:=s) λt ht=>hs t (by simp[ROp.slots,ht]),C5 (x:=x) λt ht=>hs t (by simp[ROp.slots,ht]),Qb (hf rfl),hf rfl];split
  .rfl
  .split
   .split
    .rfl
    .split<;>rfl
   .split
    .split<;>rfl
    .rfl
   .rfl
 case max x y =>
  simp only[A8,C5 (x:=x) λt ht=>hs t (by simp[ROp.slots,ht]),C5 (x:=y) λt ht=>hs t (by simp[ROp.slots,ht])];cases get fr x<;>first|rfl|(cases get fr y<;>first|rfl|(simp only[];split<;>rfl))
end
end Go.Abs
namespace Go.Abs
open Go.RowKit (Below)
section
variable {O:Orc} {c:Ctx}
theorem lV {r:ROp} {fr C6:Fr} {h h' h1:AH} {v:AV} (hs:∀t∈r.slots,C6.getD t C3=fr.getD t C3) (hb:r.looksB=true->h'.boxes=h.boxes) (hf:r.looksF=true->h'.fams=h.fams)
  (he:A8 O c r fr h=some (v,h1)):∃Ei,A8 O c r C6 h'=some (v,Ei)/\(r.writesB c=true->Ei.boxes=h1.boxes)/\(r.writesF c=true->Ei.fams=h1.fams):=by
 by_cases hcall:r.isCall=false
 .have h2:=rn (O:=O) hs hb hf hcall (by rw[he];rfl);rw[he]at h2;cases h3:A8 O c r C6 h' with
  |none=>rw[h3]at h2;cases h2
  |some x =>
   obtain⟨v',Ei⟩:=x;rw[h3]at h2;have:v'=v:=by simpa using h2
   subst this;refine⟨Ei,rfl,λhw=>?_,λhw=>?_⟩
   .cases r<;>simp only[ROp.writesB]at hw<;>try (cases hw;done)
    case call=>simp[ROp.isCall]at hcall
    case callv=>simp[ROp.isCall]at hcall
    case st n a x =>
     obtain rfl:h'=h:=OK (hb rfl) (hf rfl);simp only[A8,C5 (x:=a) λt ht=>hs t (by simp[ROp.slots,ht]),C5 (x:=x) λt ht=>hs t (by simp[ROp.slots,ht])]at h3 he;rw[h3]at he;cases he;rfl
    case stb n a x =>
     simp only[A8,C5 (x:=a) λt ht=>hs t (by simp[ROp.slots,ht]),C5 (x:=x) λt ht=>hs t (by simp[ROp.slots,ht])]at h3 he;have:=XE (h:=h) (h':=h') (hb rfl) (n:=n) (p:=get fr a) (x:=get fr x);rw[h3,he]at this;simpa using this
    case box x =>
     simp only[A8,C5 (x:=x) λt ht=>hs t (by simp[ROp.slots,ht]),hb rfl]at h3 he;split at he
     .cases he
     .rename_i ht;rw[if_neg ht]at h3;cases he;cases h3;rfl
    case alloc z=>simp only[A8,hb rfl]at h3 he;cases he;cases h3;rfl
    case clos f cs =>
     obtain rfl:h'=h:=OK (hb rfl) (hf rfl);simp only[A8,Nf (xs:=cs) λt ht=>hs t (by simpa[ROp.slots]using ht)]at h3 he;rw[h3]at he;cases he;rfl
    case mkmap=>simp only[A8,hb rfl]at h3 he;cases he;cases h3;rfl
    case mup str x k w =>
     obtain rfl:h'=h:=OK (hb rfl) (hf rfl);simp only[A8,C5 (x:=x) λt ht=>hs t (by simp[ROp.slots,ht]),C5 (x:=k) λt ht=>hs t (by simp[ROp.slots,ht]),C5 (x:=w) λt ht=>hs t (by simp[ROp.slots,ht])]at h3 he;rw[h3]at he;cases he;rfl
   .cases r<;>simp only[ROp.writesF]at hw<;>try (cases hw;done)
    case call=>simp[ROp.isCall]at hcall
    case callv=>simp[ROp.isCall]at hcall
    case st n a x =>
     obtain rfl:h'=h:=OK (hb rfl) (hf rfl);simp only[A8,C5 (x:=a) λt ht=>hs t (by simp[ROp.slots,ht]),C5 (x:=x) λt ht=>hs t (by simp[ROp.slots,ht])]at h3 he;rw[h3]at he;cases he;rfl
    case ste n a x =>
     simp only[A8,C5 (x:=a) λt ht=>hs t (by simp[ROp.slots,ht]),C5 (x:=x) λt ht=>hs t (by simp[ROp.slots,ht])]at h3 he;have:=XF (h:=h) (h':=h') (hf rfl) (n:=n) (p:=get fr a) (x:=get fr x);rw[h3,he]at this;simpa using this
    case clr z x =>
     simp only[A8,C5 (x:=x) λt ht=>hs t (by simp[ROp.slots,ht])]at h3 he;have:=WJ (h:=h) (h':=h') (hf rfl) (z:=z) (x:=get fr x);rw[h3,he]at this;simpa using this
    case mkslice z b l q =>
     simp only[A8,C5 (x:=l) λt ht=>hs t (by simp[ROp.slots,ht]),C5 (x:=q) λt ht=>hs t (by simp[ROp.slots,ht]),hf rfl]at h3 he;split at he
     .rename_i e1 e2;simp only[e1,e2]at h3;split at he
      .rename_i hc;rw[if_pos hc]at h3;cases he;cases h3;rfl
      .cases he
     .cases he
    case app sz b s x =>
     simp only[A8,N1,C5 (x:=s) λt ht=>hs t (by simp[ROp.slots,ht]),C5 (x:=x) λt ht=>hs t (by simp[ROp.slots,ht]),Qb (hf rfl),hf rfl]at h3 he;cases Rw:y8 h sz (get fr x)with
     |none=>rw[Rw]at he;cases he
     |some ys =>
      rw[Rw]at he h3;dsimp only at he h3;cases hg:get fr s<;>rw[hg]at he h3<;>(try dsimp only at he h3)<;>try (cases he;done)
      case vs full z xs =>
       cases full<;>(try dsimp only at he h3)
       .cases he
       .split at he
        .rename_i hc;rw[if_pos hc]at h3;cases he;cases h3;exact hf rfl
        .rename_i hc;rw[if_neg hc]at h3;split at he
         .rename_i hc2;rw[if_pos hc2]at h3;cases he;cases h3;rfl
         .cases he
      case sl k n off len =>
       cases hk:h.fams[k]? with
       |none=>rw[hk]at he;cases he
       |some f =>
        rw[hk]at he h3;dsimp only at he h3;split at he
        .rename_i hc;rw[if_pos hc]at h3;cases he;cases h3;rfl
        .cases he
 .cases r<;>simp only[ROp.isCall]at hcall<;>try (exact absurd trivial hcall)
  case callv x aas =>
   obtain rfl:h'=h:=OK (hb rfl) (hf rfl);refine⟨h1,?_,λ_=>rfl,λ_=>rfl⟩;rw[←he];simp only[A8,C5 (x:=x) λt ht=>hs t (by simp only[ROp.slots,A0C];exact .inl ht),Nf (xs:=aas) λt ht=>hs t (by simp only[ROp.slots,A0C];exact .inr ht)]
  case call f aas =>
   have ha:aas.map (get C6)=aas.map (get fr):=Nf (xs:=aas) λt ht=>hs t (by simpa[ROp.slots]using ht);obtain rfl:h'=h:=OK (hb rfl) (hf rfl);exact⟨h1,by rw[←he];simp only[A8,ha],λ_=>rfl,λ_=>rfl⟩
def kN (o:Oper) (D7:List Nat):Nat:=o.after.toList.foldl (λs e=>if Region.binds .any e then s ||| 2 ^ e.on ||| D7.getD e.on 0 else s) 0
theorem So:∀(l:List Oper) (D7:List Nat),∃ext,j7 l D7=D7++ext/\ext.length=l.length/\∀(k:Nat) (o:Oper),l[k]?=some o->ext[k]?=some (kN o (D7++ext.take k))
 | [],D7=>⟨[],by simp[j7],rfl,λk o h=>by simp at h⟩
 |o::l,D7=>by
  obtain⟨ext,h1,h2,h3⟩:=So l (D7++[kN o D7]);refine⟨kN o D7::ext,?_,by simp[h2],λk o' hk=>?_⟩
  .rw[j7];show j7 l (D7++[kN o D7])=_;rw[h1];simp
  .cases k with
   |zero=>simp at hk;subst hk;simp
   |succ k =>
    have:=h3 k o' (by simpa using hk);simpa using this
theorem WR {D7:List Nat} {i:Nat}:∀(l:List Edge) (s:Nat),(l.foldl (λs e=>if Region.binds .any e then s ||| 2 ^ e.on ||| D7.getD e.on 0 else s) s).testBit i=true ->
  s.testBit i=true\/∃e∈l,Region.binds .any e=true/\(e.on=i\/(D7.getD e.on 0).testBit i=true)
 | [],s,h=>.inl h
 |e::l,s,h=>by
  simp only[List.foldl_cons]at h;rcases WR l _ h with h1|⟨e',he',h1⟩
  .split at h1
   .rename_i hb;rw[A0S,A0S]at h1;simp only[Bool.or_eq_true]at h1;rcases h1 with (h1|h1)|h1
    .exact .inl h1
    .rw[Nat.testBit_two_pow]at h1;exact .inr ⟨e,by simp,hb,.inl (by simpa using h1)⟩
    .exact .inr ⟨e,by simp,hb,.inr h1⟩
   .exact .inl h1
  .exact .inr ⟨e',by simp[he'],h1⟩
def fw (ops:List Oper) (i j:Nat):Prop:=((j7 ops []).getD j 0).testBit i=true
theorem kL {ops:List Oper} {i j:Nat} (h:fw ops i j):∃o e,ops[j]?=some o/\e∈o.after.toList/\Region.binds .any e=true/\(e.on=i\/fw ops i e.on):=by
 obtain⟨ext,h1,h2,h3⟩:=So ops [];simp only[List.nil_append]at h1 h3;unfold fw at h;rw[h1]at h;cases ho:ops[j]? with
 |none =>
  have:ext[j]?=none:=by
   rw[List.getElem?_eq_none_iff]at ho ⊢;omega
  simp[A0J,this]at h
 |some o =>
  have h4:=h3 j o ho;rw[A0J,h4]at h;simp only[A0N]at h;unfold kN at h;rcases WR _ _ h with h5|⟨e,he,hb,h5⟩
  .simp at h5
  .refine⟨o,e,rfl,he,hb,?_⟩;rcases h5 with h5|h5
   .exact .inl h5
   .right;unfold fw;rw[h1];have:(ext.take j).getD e.on 0=ext.getD e.on 0\/(ext.take j).getD e.on 0=0:=by
     simp only[A0J,List.getElem?_take];split
     .exact .inl rfl
     .exact .inr rfl
    rcases this with h6|h6
    .rw[←h6];exact h5
    .rw[h6]at h5;simp at h5
theorem ZS:∀{ops:List Oper} {k:Nat},RN ops k=true->∀{j:Nat} {o:Oper} {e:Edge},ops[j]?=some o->e∈o.after.toList->Region.binds .any e=true->e.on<k+j
 | [],_,_,j,o,e,h,_,_=>by simp at h
 |o'::ops,k,h,j,o,e,ho,he,hb=>by
  simp only[RN,A0F]at h;cases j with
  |zero =>
   simp at ho;subst ho;have:=(A0M.1 h.1) e he;simp[hb]at this;omega
  |succ j =>
   have:=ZS h.2 (j:=j) (o:=o) (by simpa using ho) he hb;omega
end
section
variable {P:Program} {O:Orc} {c:Ctx}
theorem bp:∀{M5:List RO} {fr C6:Fr} {h h':AH},J7 O c M5 fr h=some (C6,h') ->
  ∃(F:Nat->Fr) (H:Nat->AH) (V:Nat->AV),F 0=fr/\H 0=h/\F M5.length=C6/\H M5.length=h' /\
   ∀(i:Nat) (ro:RO),M5[i]?=some ro->PQ O c ro (F i) (H i)=some (V i,H (i+1))/\F (i+1)=put (F i) ro.dst (V i)
 | [],fr,C6,h,h',he=>by
  simp only[J7]at he;cases he;exact⟨λ_=>fr,λ_=>h,λ_=>.junk,rfl,rfl,rfl,rfl,λi ro hr=>by simp at hr⟩
 |o::M5,fr,C6,h,h',he=>by
  rw[RQ,Option.bind_eq_some_iff]at he;obtain⟨⟨v,h1⟩,Gx,hrest⟩:=he;obtain⟨F,H,V,f0,f1,f2,f3,f4⟩:=bp hrest;refine⟨λi=>if i=0 then fr else F (i-1),λi=>if i=0 then h else H (i-1),λi=>if i=0 then v else V (i-1),by simp,by simp,by simpa using f2,by simpa using f3,λi ro hr=>?_⟩
  cases i with
  |zero =>
   simp at hr;subst hr;simp[f0,f1,Gx]
  |succ i =>
   have:=f4 i ro (by simpa using hr);simpa using this
theorem fZ (fr:Fr) (d:Option Nat) (v:AV):(put fr d v).length=fr.length:=by cases d<;>simp[put]
theorem QP {fr:Fr} {t:Nat} {v:AV} (h:t<fr.length):(put fr (some t) v).getD t C3=v:=by simp[put,A0J,h]
theorem IM {fr:Fr} {d:Option Nat} {t:Nat} {v:AV} (h:d≠some t):(put fr d v).getD t C3=fr.getD t C3:=by
 cases d with
 |none=>rfl
 |some d =>
  have:d≠t:=λe=>h (by rw[e]);simp[put,A0J,List.getElem?_set_ne this]
theorem eF {ro:RO} {fr C6:Fr} {h h' h1:AH} {v:AV} (hs:∀t∈ro.slots,C6.getD t C3=fr.getD t C3) (hb:ro.op.looksB=true->h'.boxes=h.boxes) (hf:ro.op.looksF=true->h'.fams=h.fams)
  (he:PQ O c ro fr h=some (v,h1)) :
  ∃Ei,PQ O c ro C6 h'=some (v,Ei)/\(ro.op.writesB c=true->Ei.boxes=h1.boxes)/\(ro.op.writesB c=false->Ei.boxes=h'.boxes)/\(ro.op.writesF c=true->Ei.fams=h1.fams)/\(ro.op.writesF c=false->Ei.fams=h'.fams):=by
 have hw:Ep C6 ro.guard=Ep fr ro.guard:=by
  cases hg:ro.guard with
  |none=>rfl
  |some g =>
   obtain⟨s,want⟩:=g;have:=hs s (by simp[RO.slots,hg]);simp only[Ep,this]
 unfold PQ at he ⊢;rw[hw];split at he
 .obtain⟨Ei,e1,e2,e3⟩:=lV (λt ht=>hs t (by simp only[RO.slots,A0C];exact .inl ht)) hb hf he;exact⟨Ei,e1,e2,(YH e1).1,e3,(YH e1).2⟩
 .cases he;exact⟨h',rfl,λw=>hb (QR _ w),λ_=>rfl,λw=>hf (QT _ w),λ_=>rfl⟩
 .cases he
theorem XG {ro:RO} {fr:Fr} {h h1:AH} {v:AV} (he:PQ O c ro fr h=some (v,h1)):(ro.op.writesB c=false->h1.boxes=h.boxes)/\(ro.op.writesF c=false->h1.fams=h.fams):=by
 unfold PQ at he;split at he
 .exact YH he
 .cases he;exact⟨λ_=>rfl,λ_=>rfl⟩
 .cases he
theorem IK {bs:List Nat} {M5:List RO} (h:Rd c bs M5=true) {i j:Nat} {oi oj:RO} (hij:i<j) (hi:M5[i]?=some oi) (hj:M5[j]?=some oj) :
  dS c (bs.getD j 0) i oi oj=true/\(∀d,oi.dst=some d->oj.dst≠some d):=by
 unfold Rd at h;have hjl:=(A0H.1 hj).1;have h1:=(A0M.1 h) j (A0Q.2 hjl);have h2:=(A0M.1 h1) i (A0Q.2 hij);simp only[hi,hj,A0F]at h2;refine⟨h2.1,λd hd hd'=>?_⟩;have:=h2.2;rw[hd,hd']at this;simp at this
theorem Kw {ops:List Oper} {M5:List RO} (h:Rd c (j7 ops []) M5=true) {i j:Nat} {oi oj:RO} (hij:i<j) (hi:M5[i]?=some oi) (hj:M5[j]?=some oj) (hd:¬fw ops i j) :
  (∀d,oi.dst=some d->d∉oj.slots)/\(∀d,oj.dst=some d->d∉oi.slots)/\(oi.op.writesB c=true->oj.op.looksB=false)/\(oi.op.looksB=true->oj.op.writesB c=false) /\
   (oi.op.writesF c=true->oj.op.looksF=false)/\(oi.op.looksF=true->oj.op.writesF c=false):=by
 obtain⟨h1,_⟩:=IK h hij hi hj;unfold dS at h1;have hd':((j7 ops []).getD j 0).testBit i=false:=by simpa[fw]using hd
 rw[hd',Bool.false_or]at h1;simp only[A0F,A0R,Bool.and_eq_false_iff]at h1;obtain⟨⟨⟨⟨⟨a1,a2⟩,a3⟩,a4⟩,a5⟩,a6⟩:=h1;refine⟨λd hd=>?_,λd hd=>?_,λhw=>?_,λhw=>?_,λhw=>?_,λhw=>?_⟩
 .rw[hd]at a1;simp at a1;exact a1.1
 .rw[hd]at a2;simpa using a2
 .rcases a3 with h|h
  .rw[hw]at h;cases h
  .exact h
 .rcases a4 with h|h
  .rw[hw]at h;cases h
  .exact h
 .rcases a5 with h|h
  .rw[hw]at h;cases h
  .exact h
 .rcases a6 with h|h
  .rw[hw]at h;cases h
  .exact h
def Qy (listed:Array Bool) (i:Nat):Prop:=listed.getD i false=true
theorem JS {listed:Array Bool} {j i:Nat} (hj:j<listed.size):Qy (listed.setIfInBounds j true) i↔i=j\/Qy listed i:=by
 unfold Qy;by_cases h:i=j
 .subst h;simp[A0B,hj]
 .simp[A0B,Array.getElem?_setIfInBounds_ne (Ne.symm h),h]
theorem Sb {ops:Array Oper} {listed:Array Bool} (hl:listed.size=ops.size) {j:Nat}:j∈Region.ready .any ops listed↔∃o,ops[j]?=some o/\¬Qy listed j/\∀e∈o.after.toList,Region.binds .any e=true->Qy listed e.on:=by
 unfold Region.ready Qy;simp only[List.mem_filter,A0Q,A0F,A0R];constructor
 .rintro⟨h1,h2,h3⟩;have ho:ops[j]?=some ops[j]:=A0G h1;refine⟨ops[j],ho,?_,λe he hb=>?_⟩
  .rw[A0B]at h2 ⊢;rw[A0G (by omega)]at h2 ⊢;simpa using h2
  .rw[ho]at h3;simp only[A0O,A0N,A0I]at h3;have:=h3 e (by simpa using he);simpa[hb]using this
 .rintro⟨o,h1,h2,h3⟩;have A7:=(Array.getElem?_eq_some_iff.1 h1).1;refine⟨A7,?_,?_⟩
  .rw[A0B]at h2 ⊢;rw[A0G (by omega)]at h2 ⊢;simpa using h2
  .rw[h1];simp only[A0O,A0N,A0I];intro e he;cases hb:Region.binds .any e with
   |false=>rfl
   |true=>simpa using h3 e (by simpa using he) hb
structure Tr (O:Orc) (c:Ctx) (ops:Array Oper) (M5:List RO) (F:Nat->Fr) (H:Nat->AH) (V:Nat->AV):Prop where
 len:M5.length=ops.size
 rel:∀(i:Nat) (o:Oper) (ro:RO),ops[i]?=some o->M5[i]?=some ro->RORel P ops.toList o ro
 edges:RN ops.toList 0=true
 pairs:Rd c (j7 ops.toList []) M5=true
 step:∀(i:Nat) (ro:RO),M5[i]?=some ro->PQ O c ro (F i) (H i)=some (V i,H (i+1))/\F (i+1)=put (F i) ro.dst (V i)
section
variable {ops:Array Oper} {M5:List RO} {F:Nat->Fr} {H:Nat->AH} {V:Nat->AV}
theorem Tr.flen (T:Tr (P:=P) O c ops M5 F H V):∀i,i<=M5.length->(F i).length=(F 0).length
 |0,_=>rfl
 |i+1,h=>by
  rw[(T.step i _ (A0A (by omega))).2,fZ];exact T.flen i (by omega)
theorem Tr.ghost (T:Tr (P:=P) O c ops M5 F H V) {t:Nat}:∀j,j<=M5.length->(∀(i:Nat) (ro:RO),i<j->M5[i]?=some ro->ro.dst≠some t)->(F j).getD t C3=(F 0).getD t C3
 |0,_,_=>rfl
 |j+1,h,hn=>by
  have hj:M5[j]?=some M5[j]:=A0A (by omega);rw[(T.step j _ hj).2,IM (hn j _ (by omega) hj)];exact T.ghost j (by omega) λi ro hi=>hn i ro (by omega)
theorem Tr.written (T:Tr (P:=P) O c ops M5 F H V) {t i:Nat} {ri:RO} (hi:M5[i]?=some ri) (hd:ri.dst=some t) (ht:t<(F 0).length):∀j,j<=M5.length->i<j->(F j).getD t C3=V i
 |0,_,h=>by omega
 |j+1,h,hij=>by
  have hj:M5[j]?=some M5[j]:=A0A (by omega);rw[(T.step j _ hj).2];by_cases he:i=j
  .subst he;rw[hi]at hj;have:M5[i]=ri:=by simpa using hj.symm
   rw[this,hd];exact QP (by rw[T.flen i (by omega)];exact ht)
  .rw[IM ((IK T.pairs (show i<j by omega) hi hj).2 t hd)];exact T.written hi hd ht j (by omega) (by omega)
theorem Tr.boxes (T:Tr (P:=P) O c ops M5 F H V) {i:Nat}:∀k,k<=M5.length->i<=k->(∀(m:Nat) (rm:RO),i<=m->m<k->M5[m]?=some rm->rm.op.writesB c=false)->(H k).boxes=(H i).boxes
 |0,_,h,_=>by
           have:i=0:=by omega
           subst this;rfl
 |k+1,h,hik,hn=>by
  by_cases he:i=k+1
  .subst he;rfl
  .have hk:M5[k]?=some M5[k]:=A0A (by omega);rw[(XG (T.step k _ hk).1).1 (hn k _ (by omega) (by omega) hk)];exact T.boxes k (by omega) (by omega) λm rm h1 h2=>hn m rm h1 (by omega)
theorem Tr.fams (T:Tr (P:=P) O c ops M5 F H V) {i:Nat}:∀k,k<=M5.length->i<=k->(∀(m:Nat) (rm:RO),i<=m->m<k->M5[m]?=some rm->rm.op.writesF c=false)->(H k).fams=(H i).fams
 |0,_,h,_=>by
           have:i=0:=by omega
           subst this;rfl
 |k+1,h,hik,hn=>by
  by_cases he:i=k+1
  .subst he;rfl
  .have hk:M5[k]?=some M5[k]:=A0A (by omega);rw[(XG (T.step k _ hk).1).2 (hn k _ (by omega) (by omega) hk)];exact T.fams k (by omega) (by omega) λm rm h1 h2=>hn m rm h1 (by omega)
structure Inv (ops:Array Oper) (M5:List RO) (F:Nat->Fr) (H:Nat->AH) (V:Nat->AV) (c:Ctx) (listed:Array Bool) (E:Env) (frS:Fr):Prop where
 size:listed.size=ops.size
 closed:∀j,Qy listed j->∀i,fw ops.toList i j->Qy listed i
 flen:frS.length=(F 0).length
 wrote:∀(i t:Nat) (ro:RO),M5[i]?=some ro->Qy listed i->ro.dst=some t->t<(F 0).length->frS.getD t C3=V i
 kept:∀t:Nat,(∀(i:Nat) (ro:RO),M5[i]?=some ro->Qy listed i->ro.dst≠some t)->frS.getD t C3=(F 0).getD t C3
 boxes:∀k,k<=M5.length->(∀(m:Nat) (rm:RO),M5[m]?=some rm->rm.op.writesB c=true->(Qy listed m↔m<k))->E.h.boxes=(H k).boxes
 fams:∀k,k<=M5.length->(∀(m:Nat) (rm:RO),M5[m]?=some rm->rm.op.writesF c=true->(Qy listed m↔m<k))->E.h.fams=(H k).fams
theorem Inv.view (T:Tr (P:=P) O c ops M5 F H V) {listed:Array Bool} {E:Env} {frS:Fr} (I:Inv ops M5 F H V c listed E frS) {j:Nat} {rj:RO} (hj:M5[j]?=some rj) (hnl:¬Qy listed j) (hdeps:∀i,fw ops.toList i j->Qy listed i) :
  (∀t∈rj.slots,frS.getD t C3=(F j).getD t C3)/\(rj.op.looksB=true->E.h.boxes=(H j).boxes)/\(rj.op.looksF=true->E.h.fams=(H j).fams):=by
 have hjl:=(A0H.1 hj).1;have side:∀(m:Nat) (rm:RO),M5[m]?=some rm->m≠j->((m<j->fw ops.toList m j)/\(j<m->fw ops.toList j m))->(Qy listed m↔m<j):=by
  intro m rm hm P1 hd;constructor
  .intro hl;rcases Nat.lt_or_gt_of_ne P1 with h|h
   .exact h
   .exact absurd (I.closed m hl j (hd.2 h)) hnl
  .intro h;exact hdeps m (hd.1 h)
 refine⟨λt ht=>?_,λhB=>?_,λhF=>?_⟩
 .by_cases hw:∃(m:Nat) (rm:RO),M5[m]?=some rm/\rm.dst=some t
  .obtain⟨m,rm,hm,hd⟩:=hw;have hml:=(A0H.1 hm).1;by_cases hmj:m=j
   ·-- it writes the slot itself: not yet
    subst hmj;have h1:frS.getD t C3=(F 0).getD t C3:=I.kept t λi ro hi hl hdi=>by
     rcases A0L i m with h|h|h
     .exact(IK T.pairs h hi hm).2 t hdi hd
     .subst h;exact hnl hl
     .exact(IK T.pairs h hm hi).2 t hd hdi
    have h2:(F m).getD t C3=(F 0).getD t C3:=T.ghost m (by omega) λi ro h hi hdi=>(IK T.pairs h hi hm).2 t hdi hd;rw[h1,h2]
   .have hs:Qy listed m↔m<j:=by
     refine side m rm hm hmj ⟨λh=>?_,λh=>?_⟩
     .exact Classical.byContradiction λhn=>(Kw T.pairs h hm hj hn).1 t hd ht
     .exact Classical.byContradiction λhn=>(Kw T.pairs h hj hm hn).2.1 t hd ht
    by_cases htl:t<(F 0).length
    .by_cases A7:m<j
     .rw[I.wrote m t rm hm (hs.2 A7) hd htl,T.written hm hd htl j (by omega) A7]
     .have h1:frS.getD t C3=(F 0).getD t C3:=I.kept t λi ro hi hl hdi=>by
       rcases A0L i m with h|h|h
       .exact(IK T.pairs h hi hm).2 t hdi hd
       .subst h;exact A7 (hs.1 hl)
       .exact(IK T.pairs h hm hi).2 t hd hdi
      have h2:(F j).getD t C3=(F 0).getD t C3:=T.ghost j (by omega) λi ro h hi hdi=>by
       rcases A0L i m with h' | h' | h'
       .exact(IK T.pairs h' hi hm).2 t hdi hd
       .omega
       .exact(IK T.pairs h' hm hi).2 t hd hdi
      rw[h1,h2]
    .have h1:frS.getD t C3=C3:=by simp[A0J,A0P (show frS.length<=t by rw[I.flen];omega)]
     have h2:(F j).getD t C3=C3:=by simp[A0J,A0P (show (F j).length<=t by rw[T.flen j (by omega)];omega)]
     rw[h1,h2]
  .have hw':∀(i:Nat) (ro:RO),M5[i]?=some ro->ro.dst≠some t:=λi ro hi hd=>hw ⟨i,ro,hi,hd⟩;rw[I.kept t λi ro hi _=>hw' i ro hi,T.ghost j (by omega) λi ro _ hi=>hw' i ro hi]
 .refine I.boxes j (by omega) λm rm hm hwm=>?_;by_cases hmj:m=j
  .subst hmj;exact⟨λh=>absurd h hnl,λh=>by omega⟩
  .refine side m rm hm hmj ⟨λh=>?_,λh=>?_⟩
   .exact Classical.byContradiction λhn=>by have:=(Kw T.pairs h hm hj hn).2.2.1 hwm;rw[hB]at this;cases this
   .exact Classical.byContradiction λhn=>by have:=(Kw T.pairs h hj hm hn).2.2.2.1 hB;rw[hwm]at this;cases this
 .refine I.fams j (by omega) λm rm hm hwm=>?_;by_cases hmj:m=j
  .subst hmj;exact⟨λh=>absurd h hnl,λh=>by omega⟩
  .refine side m rm hm hmj ⟨λh=>?_,λh=>?_⟩
   .exact Classical.byContradiction λhn=>by have:=(Kw T.pairs h hm hj hn).2.2.2.2.1 hwm;rw[hF]at this;cases this
   .exact Classical.byContradiction λhn=>by have:=(Kw T.pairs h hj hm hn).2.2.2.2.2 hF;rw[hwm]at this;cases this
end
end
end Go.Abs
