/- A part of the proof. -/
import Derived.Test.YtohjdamplbhdpaaGreatDoorSG7
import Derived.Orders
set_option linter.all false
open Option renaming map_eq_some_iff->xk,bind_eq_some_iff->xl
open Prod renaming fst->xm
open List renaming mem_append->xn,flatMap_cons->xp,getD->xt,all_cons->xu
open Array renaming getD_eq_getD_getElem?->xo
open Bool renaming and_eq_true->xq
open Nat renaming testBit_or->xr
namespace Go.Abs
open Go.RowKit (Below)
def Ln (O:Orc) (c:Ctx) (o:RO) (fr:Fr) (h:AH):Option (AV×AH) :=
 match DO fr o.guard with
 |some true=>A2 O c o.op fr h
 |some false=>some (A9,h)
 |none=>none
theorem Oo (O:Orc) (c:Ctx) (o:RO) (rest:List RO) (fr:Fr) (h:AH) :
  J2 O c (o::rest) fr h=(Ln O c o fr h).bind λx=>J2 O c rest (put fr o.dst x.1) x.2:=by
 unfold Ln;simp only[J2];cases DO fr o.guard with
 |none=>rfl
 |some b =>
  cases b with
  |false=>rfl
  |true =>
   dsimp only;cases A2 O c o.op fr h with
   |none=>rfl
   |some x=>rfl
structure RORel (P:Program) (ops:List Oper) (o:Oper) (ro:RO):Prop where
 dst:ro.dst=o.dst
 guard:PK ops o.guard=some ro.guard
 op:∃r0,V0 P o.op=some r0/\((ro.op=r0\/∃m,ro.op=r0.lax m)\/(ro.op=r0.bxd\/∃m,ro.op=r0.bxd.lax m))
theorem ed {P:Program} {ops:List Oper} {o:Oper} {ro0 ro:RO} (h:Uk P ops o=some ro0) (hro:ro=ro0\/ro=ro0.bxd):RORel P ops o ro:=by
 unfold Uk at h;split at h
 .rename_i r g h1 h2;cases h;rcases hro with rfl|rfl
  .exact⟨rfl,h2,r,h1,.inl (.inl rfl)⟩
  .exact⟨rfl,h2,r,h1,.inr (.inl rfl)⟩
 .cases h
theorem RORel.lax {P:Program} {ops:List Oper} {o:Oper} {ro0 ro:RO} (m:Option Bool×Bool) (h:Uk P ops o=some ro0) (hro:ro=ro0\/ro=ro0.bxd):RORel P ops o (ro.lax m):=by
 unfold Uk at h;split at h
 .rename_i r g h1 h2;cases h;rcases hro with rfl|rfl
  .exact⟨rfl,h2,r,h1,.inl (.inr ⟨m,rfl⟩)⟩
  .exact⟨rfl,h2,r,h1,.inr (.inr ⟨m,rfl⟩)⟩
 .cases h
theorem jk {b:Bool} {ros0:List RO} {i:Nat} {ro:RO} (h:(uK b ros0)[i]?=some ro):∃ro0,ros0[i]?=some ro0/\(ro=ro0\/ro=ro0.bxd):=by
 cases b with
 |false=>exact⟨ro,h,.inl rfl⟩
 |true =>
  have h':(ros0.map RO.bxd)[i]?=some ro:=h;rw[List.getElem?_map,xk]at h';obtain⟨ro0,h1,h2⟩:=h';exact⟨ro0,h1,.inr h2.symm⟩
theorem jl (b:Bool) (ros0:List RO):(uK b ros0).length=ros0.length:=by cases b<;>simp[uK]
section
variable {P:Program} {O:Orc} {c:Ctx}
theorem PS {E:Env} {fr:Fr} {a:Act} (hf:FR E fr a.tmps) {ops:Array Oper} {o:Oper} {g:Option (Nat×Bool)} (hg:PK ops.toList o.guard=some g) {b:Bool} (hw:DO fr g=some b) :
  Region.wanted o (yielded ops a.tmps)=b:=by
 unfold PK at hg;unfold Region.wanted;split at hg
 .rename_i h0;cases hg;simp[DO]at hw;simp[h0,hw]
 .rename_i j want h0;split at hg
  .rename_i o' ho';split at hg
   .rename_i d hd;cases hg;have hv:=hf.val d;have hy:((ops[j]?).bind (·.dst))=some d:=by
     have:ops[j]?=some o':=by simpa using ho'
     simp[this,hd]
    simp only[h0];simp only[DO]at hw;unfold yielded;simp only[hy,Option.bind_some];split at hw
    .rename_i b' hb;cases hw;rw[hb]at hv;simp only[VR]at hv;have:a.tmps[d]?=some (.bool b'):=by
      rw[xo]at hv;cases h1:a.tmps[d]? with
      |none=>rw[h1]at hv;simp[undef]at hv
      |some u=>rw[h1]at hv;simpa using hv
     simp only[this];cases b'<;>cases want<;>rfl
    .rename_i vs hb;cases hw;rw[hb]at hv;simp only[VR]at hv;obtain⟨us,e,_⟩:=hv;have:∀b',a.tmps[d]?≠some (.bool b'):=by
      intro b' h1;rw[xo,h1]at e;simp at e
     cases h1:a.tmps[d]? with
     |none=>rfl
     |some u =>
      cases u<;>first|rfl|exact absurd h1 (this _)
    .cases hw
   .cases hg
  .cases hg
theorem bq (hP:Ld P O) (hR:TI P O) {E:Env} {fr:Fr} {a:Act} (hS:SR E) (hf:FR E fr a.tmps) {ops:Array Oper} {o:Oper} {ro:RO} (hr:RORel P ops.toList o ro) {v:AV} {h':AH} (E1:Ln O c ro fr E.h=some (v,h'))
  {K:Act->World->Prop} {Q:Exit->Act->World->Prop} (hK:∀u E',Ext E E'->SR E'->E'.h=h'->VR E' v u->K (a.put o.dst u) E'.w) :
  if Region.wanted o (yielded ops a.tmps)then o.wp P a E.w K Q else K (a.put o.dst undef) E.w:=by
 unfold Ln at E1;split at E1
 .rename_i hw;rw[if_pos (PS hf hr.guard hw)];obtain⟨r0,h1,h2⟩:=hr.op;exact sr hP hR hS hf h1 h2 E1 hK
 .rename_i hw;cases E1;have:=PS hf hr.guard hw;rw[if_neg (by simp[this])];exact hK undef E (Ext.refl E) hS rfl (Cd E)
 .cases E1
theorem Xi (hP:Ld P O) (hR:TI P O) {ops:Array Oper} {Q:Exit->Act->World->Prop} :
  ∀(l:List Oper) (I6:List RO),I6.length=l.length->(∀(i:Nat) (o:Oper) (ro:RO),l[i]?=some o->I6[i]?=some ro->RORel P ops.toList o ro) ->
   ∀(E:Env) (fr:Fr) (a:Act) (D4:Fr) (h':AH),SR E->FR E fr a.tmps->J2 O c I6 fr E.h=some (D4,h') ->
    (∀a' E',Ext E E'->SR E'->E'.h=h'->FR E' D4 a'.tmps->a'.defers=a.defers->Q .normal a' E'.w)->wpList P ops Q l a E.w
 | [],I6,hl,_,E,fr,a,D4,h',hS,hf,E1,hQ=>by
  have:I6=[]:=List.eq_nil_of_length_eq_zero (by simpa using hl);subst this;simp only[J2]at E1;cases E1;exact hQ a E (Ext.refl E) hS rfl hf rfl
 |o::l,I6,hl,hrel,E,fr,a,D4,h',hS,hf,E1,hQ=>by
  cases I6 with
  |nil=>simp at hl
  |cons ro I6 =>
   rw[Oo,xl]at E1;obtain⟨⟨v,h1⟩,DH,hrest⟩:=E1;have hr:=hrel 0 o ro rfl rfl;have:=bq (Q:=Q) hP hR hS hf hr DH (K:=wpList P ops Q l) (λu E' hx hS' he hv=>by
    refine Xi hP hR l I6 (by simpa using hl) (λi o' ro' h1 h2=>hrel (i+1) o' ro' (by simpa using h1) (by simpa using h2)) E' (put fr ro.dst v) (a.put o.dst u) D4 h' hS' ?_ (by rw[he];exact hrest) λa' E'' hx' hS'' he' hf' hd=>?_
    .rw[hr.dst];exact FR.put (FR.ext hx hf) o.dst hv
    .refine hQ a' E'' (hx.trans hx') hS'' he' hf' (hd.trans ?_);cases o.dst<;>rfl)
   unfold wpList;split
   .rename_i hw;rw[if_pos hw]at this;exact .inl this
   .rename_i hw;rw[if_neg hw]at this;exact this
end
end Go.Abs
namespace Go.Abs
section
variable {O:Orc} {c:Ctx}
theorem A7 {fr D4:Fr} {x:Opd} (h:∀t∈x.slots,D4.getD t A9=fr.getD t A9):get D4 x=get fr x:=by
 cases x with
 |t n=>exact h n (by simp[Opd.slots])
 |c v=>rfl
theorem IJ {fr D4:Fr} {xs:List Opd} (h:∀t∈xs.flatMap Opd.slots,D4.getD t A9=fr.getD t A9):xs.map (get D4)=xs.map (get fr) :=
 List.map_congr_left λx hx=>A7 λt ht=>h t (List.mem_flatMap.2 ⟨x,hx,ht⟩)
theorem KE {fr D4:Fr} {n:Nat}:∀{ps:List (Nat×Nat×Opd)},(∀t∈ps.flatMap (λp=>p.2.2.slots),D4.getD t A9=fr.getD t A9)->D2 D4 n ps=D2 fr n ps
 | [],_=>rfl
 |(off,k,x)::ps,h=>by
  have hx:get D4 x=get fr x:=A7 λt ht=>h t (by simp[ht]);have hr:=KE (n:=n) (ps:=ps) λt ht=>h t (by simp only[xp,xn];exact .inr ht);simp only[D2,hx,hr]
theorem Ki {h h':AH} (he:h'.fams=h.fams) (sz:Nat) (x:AV):elems h' sz x=elems h sz x:=by cases x<;>simp only[elems,he]
theorem Dx {fr D4:Fr} {h:AH}:∀{ps:List (Nat×Opd)} {xs:E6},(∀t∈ps.flatMap (λp=>p.2.slots),D4.getD t A9=fr.getD t A9)->A4 D4 h xs ps=A4 fr h xs ps
 | [],xs,_=>rfl
 |(i,x)::ps,xs,hh=>by
  have hx:get D4 x=get fr x:=A7 λt ht=>hh t (by simp[ht]);simp only[A4,hx];split
  .split
   .exact Dx λt ht=>hh t (by simp only[xp,xn];exact .inr ht)
   .rfl
  .rfl
theorem Ll {fr:Fr} (h h':AH):∀{ps:List (Nat×Opd)} {xs:E6},ps.all (λp=>KI (get fr p.2))=true->A4 fr h' xs ps=A4 fr h xs ps
 | [],xs,_=>rfl
 |(i,x)::ps,xs,hp=>by
  simp only[xu,xq]at hp;simp only[A4,MN h false hp.1,MN h' false hp.1];split
  .split
   .exact Ll h h' hp.2
   .rfl
  .rfl
theorem QR {fr D4:Fr}:∀{ps:List (Nat×Opd)},(∀t∈ps.flatMap (λp=>p.2.slots),D4.getD t A9=fr.getD t A9)->ps.all (λp=>KI (get D4 p.2))=ps.all (λp=>KI (get fr p.2))
 | [],_=>rfl
 |(i,x)::ps,hh=>by
  have hx:get D4 x=get fr x:=A7 λt ht=>hh t (by simp[ht]);simp only[xu,hx];rw[QR (ps:=ps) λt ht=>hh t (by simp only[xp,xn];exact .inr ht)]
theorem TR {h h':AH} (hb:h'.boxes=h.boxes) (x:AV):CN h' x=CN h x:=by cases x<;>simp only[CN,hb]
theorem MD {fr D4:Fr} {x:Option Opd} (h:∀t∈PB x,D4.getD t A9=fr.getD t A9):O8 D4 x=O8 fr x:=by
 cases x with
 |none=>rfl
 |some x=>simp only[O8,A7 (x:=x) h]
theorem YZ {h h':AH} (he:h'.fams=h.fams) (sz:Nat) (x:AV) (l u m:Option Int):Jn h' sz x l u m=Jn h sz x l u m:=by
 unfold Jn;rw[he]
theorem XP {h h':AH} (hb:h'.boxes=h.boxes) {b:Bool} {n:Nat} {x:AV} (hx:∀k m i q s,x≠.ep k m i q s):DS h' b n x=DS h b n x:=by
 cases x<;>simp only[DS,hb];exact absurd rfl (hx _ _ _ _ _)
theorem Lc {h h':AH} (hb:h'.boxes=h.boxes) (hf:h'.fams=h.fams):h'=h:=by cases h;cases h';simp_all
theorem Jq (r:ROp):r.writesB c=true->r.looksB=true:=by cases r<;>simp[ROp.writesB,ROp.looksB]
theorem Nn (r:ROp):r.writesF c=true->r.looksF=true:=by cases r<;>simp[ROp.writesF,ROp.looksF]
theorem Nu {f:FuncId} {args:E6} {h h1:AH} {v:AV} (hr:c.raw f=false) (he:GM O c f args h=some (v,h1)):h1=h:=by
 unfold GM at he;rw[if_neg (by simp[hr])]at he;split at he
 .cases he
 .split at he
  .cases he
  .split at he
   .cases he;rfl
   .cases he
theorem Mi:∀{xs:E6} {h h':AH} {ys:E6},Ak h xs=some (ys,h')->h'.fams=h.fams
 | [],h,h',ys,he=>by simp only[Ak]at he;cases he;rfl
 |x::xs,h,h',ys,he=>by
  by_cases hp:∃b off,x=.ptr b off
  .obtain⟨b,off,rfl⟩:=hp;simp only[Ak]at he;split at he
   case isFalse=>cases he
   split at he
   case h_2=>cases he
   split at he
   case isFalse=>cases he
   simp only[xk]at he;obtain⟨⟨ys',h''⟩,hr,e⟩:=he;cases e;have q:=Mi hr;exact q
  .have hr:Ak h (x::xs)=(Ak h xs).map λp=>(x::p.1,p.2):=by
    cases x<;>first|rfl|exact absurd ⟨_,_,rfl⟩ hp
   rw[hr]at he;simp only[xk]at he;obtain⟨⟨ys',h''⟩,hr,e⟩:=he;cases e;exact Mi hr
theorem Ve {r:ROp} {fr:Fr} {h h1:AH} {v:AV} (he:A2 O c r fr h=some (v,h1)):(r.writesB c=false->h1.boxes=h.boxes)/\(r.writesF c=false->h1.fams=h.fams):=by
 have same:h1=h->(r.writesB c=false->h1.boxes=h.boxes)/\(r.writesF c=false->h1.fams=h.fams):=λe=>by subst e;exact⟨λ_=>rfl,λ_=>rfl⟩
 cases r
 case st n a x=>exact⟨(λh=>nomatch h),(λh=>nomatch h)⟩
 case ste n a x =>
  refine⟨λ_=>?_,(λh=>nomatch h)⟩;simp only[A2,Sx,Ew]at he
  repeat' (split at he)
  all_goals first
   |(cases he;done)
   |(
     cases he;rename_i DH
     repeat' (split at DH)
     all_goals first
      |(cases DH;done)
      |(
       simp only[xk]at DH;obtain⟨y,_,rfl⟩:=DH;rfl))
 case stb n a x =>
  refine⟨(λh=>nomatch h),λ_=>?_⟩;simp only[A2,Sw]at he
  repeat' (split at he)
  all_goals first|(cases he;done)|(cases he;rfl)
 case clr z x =>
  refine⟨λ_=>?_,(λh=>nomatch h)⟩;simp only[A2,Pg]at he
  repeat' (split at he)
  all_goals first|(cases he;done)|(cases he;rfl)
 case callv x aas =>
  have key:c.rawv=false->h1=h:=by
   intro hr;simp only[A2]at he;split at he
   .rename_i f caps hg;split at he
    .cases he
    .rename_i hc;exact Nu (O:=O) (c:=c) (by simpa[hr]using hc) he
   .cases he
  exact⟨λhr=>by rw[key hr],λhr=>by rw[key hr]⟩
 case clos f cs =>
  simp only[A2]at he;split at he
  .rename_i hro;refine⟨λhr=>?_,λ_=>?_⟩
   .simp only[ROp.writesB]at hr;rw[hr]at hro;cases hro
   .simp only[xk]at he;obtain⟨⟨ys,h2⟩,hq,he⟩:=he;cases he;exact Mi hq
  .cases he;exact⟨λ_=>rfl,λ_=>rfl⟩
 case mkmap=>simp only[A2]at he;cases he;exact⟨(λh=>nomatch h),(λ_=>rfl)⟩
 case mkb z b l q =>
  refine⟨(λh=>nomatch h),λ_=>?_⟩;simp only[A2,Vc]at he
  repeat' (split at he)
  all_goals first|(cases he;done)|(cases he;rfl)
 case mkv z b l q =>
  refine same ?_;simp only[A2,Zc]at he
  repeat' (split at he)
  all_goals first|(cases he;done)|(cases he;rfl)
 case mlook str ok z x k =>
  refine same ?_;simp only[A2,Es]at he
  repeat' (split at he)
  all_goals first|(cases he;done)|(cases he;rfl)
 case bstr x =>
  refine same ?_;simp only[A2,Ts]at he
  repeat' (split at he)
  all_goals first|(cases he;done)|(cases he;rfl)
 case mup str x k w =>
  refine⟨(λh=>nomatch h),λ_=>?_⟩;simp only[A2,Ze]at he
  repeat' (split at he)
  all_goals first|(cases he;done)|(cases he;rfl)
 case box x=>simp only[A2]at he;split at he<;>cases he;exact⟨(λh=>nomatch h),(λ_=>rfl)⟩
 case alloc z=>simp only[A2]at he;cases he;exact⟨(λh=>nomatch h),(λ_=>rfl)⟩
 case mkslice z b l q =>
  simp only[A2]at he;split at he
  .split at he<;>cases he;exact⟨λ_=>rfl,(λh=>nomatch h)⟩
  .cases he
 case app sz b s x =>
  refine⟨λ_=>?_,λh=>nomatch h⟩;simp only[A2,L5]at he
  repeat' (split at he)
  all_goals first|(cases he;done)|(cases he;rfl)
 case len b x =>
  refine same ?_;cases b<;>simp only[A2]at he<;>split at he<;>first|(cases he;done)|(cases he;rfl)
 case call f aas =>
  refine⟨λhr=>?_,λhr=>by rw[Nu (O:=O) hr he]⟩;cases hc:c.raw f with
  |false=>rw[Nu (O:=O) hc he]
  |true =>
   simp only[ROp.writesB,hc,Bool.true_and,Bool.not_eq_false']at hr;simp only[A2,GM,hc,if_true,hr]at he;exact dJ he
 all_goals
  refine same ?_;simp only[A2]at he
  repeat' (split at he)
  all_goals first|(cases he;done)|(cases he;rfl)
theorem Ye {h h':AH} (hf:h'.fams=h.fams) {n:Nat} {x:AV} (hx:KI x=true) {k m i q s:Nat}:(Ew h' n x k m i q s).map AH.fams=(Ew h n x k m i q s).map AH.fams:=by
 unfold Ew;rw[MN h false hx,MN h' false hx,hf];cases h.fams[k]? with
 |none=>rfl
 |some f =>
  dsimp only;split
  .cases f.xs[i]? with
   |none=>rfl
   |some y =>
    dsimp only;split
    .cases y.reform (I9 y.cells q x.cells)<;>simp[hf]
    .rfl
  .rfl
theorem Ur {h h':AH} (hf:h'.fams=h.fams) {n:Nat} {p x:AV}:(Sx h' n p x).map (λr=>(r.1,r.2.fams))=(Sx h n p x).map (λr=>(r.1,r.2.fams)):=by
 cases p<;>try rfl
 rename_i k m i q s;simp only[Sx];split
 .rename_i hx;have:=Ye hf (n:=n) hx (k:=k) (m:=m) (i:=i) (q:=q) (s:=s);cases h1:Ew h' n x k m i q s with
  |none =>
   cases h2:Ew h n x k m i q s with
   |none=>rfl
   |some b=>rw[h1,h2]at this;cases this
  |some a =>
   cases h2:Ew h n x k m i q s with
   |none=>rw[h1,h2]at this;cases this
   |some b =>
    rw[h1,h2]at this;simp only[Option.map_some,Option.some.injEq]at this ⊢;rw[this]
 .rfl
theorem Uq {h h':AH} (hb:h'.boxes=h.boxes) {n:Nat} {p x:AV}:(Sw h' n p x).map (λr=>(r.1,r.2.boxes))=(Sw h n p x).map (λr=>(r.1,r.2.boxes)):=by
 cases p<;>try rfl
 simp only[Sw,hb]
 repeat' split
 all_goals rfl
theorem Tw {h h':AH} (hf:h'.fams=h.fams) {z x:AV}:(Pg h' z x).map (λr=>(r.1,r.2.fams))=(Pg h z x).map (λr=>(r.1,r.2.fams)):=by
 cases x<;>try rfl
 case vs=>simp only[Pg];split<;>simp[hf]
 case sl =>
  simp only[Pg,hf]
  repeat' split
  all_goals rfl
theorem ZP {α β:Type} {r r':Option (α×AH)} {g:AH->β} (h:r'.map (λx=>(x.1,g x.2))=r.map (λx=>(x.1,g x.2))):r'.map xm=r.map xm:=by
 have:=congrArg (Option.map xm) h;simpa[Option.map_map,Function.comp_def]using this
theorem jA {h h':AH} (hf:h'.fams=h.fams) {n:Nat} {p x:AV}:(Sx h' n p x).map xm=(Sx h n p x).map xm:=ZP (g:=AH.fams) (Ur hf)
theorem iz {h h':AH} (hb:h'.boxes=h.boxes) {n:Nat} {p x:AV}:(Sw h' n p x).map xm=(Sw h n p x).map xm:=ZP (g:=AH.boxes) (Uq hb)
theorem fh {h h':AH} (hf:h'.fams=h.fams) {z x:AV}:(Pg h' z x).map xm=(Pg h z x).map xm:=ZP (g:=AH.fams) (Tw hf)
theorem RC (h:AH) (b:Nat):y8 h false (.mp b)=none:=by
 simp only[y8];split
 .rfl
 .rfl
theorem XF (h:AH) (b sz off len:Nat):y8 h false (.bsl b sz off len)=none:=by
 simp only[y8,gD];split
 .rw[if_neg (by simp)]
 .rfl
theorem dB {h h':AH} (hf:h'.fams=h.fams) (x:AV):frz h' false x=frz h false x:=by
 have h1:∀y:AV,y8 h' false y=y8 h false y:=by
  intro y;cases y
  case mp b=>rw[RC,RC]
  case bsl b sz off len=>rw[XF,XF]
  all_goals simp only[y8,hf]
 have h2:∀l:List AV,Ja h' false l=Ja h false l:=by
  intro l
  induction l with
  |nil=>rfl
  |cons a l ih=>simp only[Ja,h1,ih]
 unfold frz;split
 .rw[h2]
 .exact h1 _
theorem Lk {h h':AH} (hf:h'.fams=h.fams) {fr:Fr}:∀{ps:List (Nat×Opd)} {xs:E6},A4 fr h' xs ps=A4 fr h xs ps
 | [],xs=>rfl
 |(i,x)::ps,xs=>by
  simp only[A4,dB hf];split
  .split
   .exact Lk hf
   .rfl
  .rfl
theorem Oh {h h':AH} {ext:List (List AV)} (hb:h'.boxes=h.boxes++ext) {b:Nat} {cs:E6} (hc:h.boxes[b]?=some cs):h'.boxes[b]?=some cs:=by
 rw[hb,List.getElem?_append_left (List.getElem?_eq_some_iff.1 hc).1];exact hc
section
variable {h h':AH} {ext:List (List AV)} (hb:h'.boxes=h.boxes++ext) (hf:h'.fams=h.fams)
include hb hf
theorem XE {am:Bool} {x y:AV} (he:ZN h am x=some y):ZN h' am x=some y:=by
 cases x<;>simp only[ZN,hf]at he⊢<;>try exact he
 split at he
 .rename_i hq;rw[Oh hb hq];exact he
 .cases he
theorem UH {am:Bool}:∀{xs ys:E6},QT h am xs=some ys->QT h' am xs=some ys
 | [],ys,he=>he
 |x::xs,ys,he=>by
  simp only[QT,xl,xk]at he ⊢;obtain⟨y,hy,zs,hz,e⟩:=he;exact⟨y,XE hb hf hy,zs,UH hz,e⟩
theorem XG {am:Bool} {x y:AV} (he:y8 h am x=some y):y8 h' am x=some y:=by
 by_cases hx:∃b sz off len,x=.bsl b sz off len
 .obtain⟨b,sz,off,len,rfl⟩:=hx;simp only[y8,gD]at he ⊢;split at he
  .rename_i hq;rw[Oh hb hq];simp only;split at he
   .rename_i hc;rw[if_pos hc];rw[xk]at he ⊢;obtain⟨ys,hy,e⟩:=he;exact⟨ys,UH hb hf hy,e⟩
   .cases he
  .cases he
 .rw[UI _ _ λb sz off len e=>hx ⟨b,sz,off,len,e⟩]at he ⊢;exact XE hb hf he
theorem XH {am:Bool}:∀{xs ys:E6},Ja h am xs=some ys->Ja h' am xs=some ys
 | [],ys,he=>he
 |x::xs,ys,he=>by
  simp only[Ja,xl,xk]at he ⊢;obtain⟨y,hy,zs,hz,e⟩:=he;exact⟨y,XG hb hf hy,zs,XH hz,e⟩
theorem kC {am:Bool} {x y:AV} (he:frz h am x=some y):frz h' am x=some y:=by
 unfold frz at he ⊢;split at he
 .rw[xk]at he ⊢;obtain⟨ys,hy,e⟩:=he;exact⟨ys,XH hb hf hy,e⟩
 .exact XG hb hf he
theorem Rl {am:Bool}:∀{xs ys:E6},f8 h am xs=some ys->f8 h' am xs=some ys
 | [],ys,he=>he
 |x::xs,ys,he=>by
  simp only[f8,xl,xk]at he ⊢;obtain⟨y,hy,zs,hz,e⟩:=he;exact⟨y,kC hb hf hy,zs,Rl hz,e⟩
omit hb in
theorem eo (x:AV):tame h' x=tame h x:=by
 have h1:∀y:AV,GQ h' y=GQ h y:=by intro y;cases y<;>simp only[GQ,hf]
 unfold tame;split
 .congr 1;funext y;exact h1 y
 .exact h1 _
end
theorem eX {r:ROp} {fr D4:Fr} {h h' h1:AH} {v:AV} (hr:r.rdr c=true) (hs:∀t∈r.slots,D4.getD t A9=fr.getD t A9) {ext:List (List AV)} (hb:h'.boxes=h.boxes++ext) (hf:r.looksF=true->h'.fams=h.fams)
  (he:A2 O c r fr h=some (v,h1)):A2 O c r D4 h'=some (v,h'):=by
 cases r<;>simp only[ROp.rdr]at hr<;>try (cases hr;done)
 case ld b n x =>
  have hf:=hf rfl;simp only[A2,A7 (x:=x) λt ht=>hs t (by simp[ROp.slots,ht])]at he ⊢;have key:∀w,DS h b n (get fr x)=some w->DS h' b n (get fr x)=some w:=by
   intro w hw;cases hx:get fr x<;>rw[hx]at hw<;>simp only[DS,hf]at hw⊢<;>try exact hw
   split at hw
   .rename_i hq;rw[Oh hb hq];exact hw
   .cases hw
  split at he
  .rename_i _ w hw;cases he;rw[key _ hw]
  .cases he
 case ldb b n x =>
  simp only[A2,A7 (x:=x) λt ht=>hs t (by simp[ROp.slots,ht])]at he ⊢;cases hx:get fr x<;>rw[hx]at he<;>simp only[DS]at he⊢<;>try (cases he;done)
  case pv cs =>
   split at he
   .rename_i w hw;cases he;rfl
   .cases he
  case ptr p q =>
   split at he
   .rename_i w hw;cases he;split at hw
    .rename_i hq;rw[Oh hb hq];simp only;rw[hw]
    .cases hw
   .cases he
 case bslice n z ps =>
  have hf:=hf rfl;simp only[A2,Dx (h:=h') (ps:=ps) λt ht=>hs t (by simpa[ROp.slots]using ht),Lk hf]at he ⊢;split at he
  .cases he;rfl
  .cases he
 case mlook str ok z x k =>
  simp only[A2,Es,A7 (x:=x) λt ht=>hs t (by simp[ROp.slots,ht]),A7 (x:=k) λt ht=>hs t (by simp[ROp.slots,ht])]at he ⊢;split at he
  case isFalse=>cases he
  rename_i hk;rw[if_pos hk];have key:∀p,CN h (get fr x)=some p->CN h' (get fr x)=some p:=by
   intro p hp;cases hx:get fr x<;>rw[hx]at hp<;>simp only[CN]at hp⊢<;>try exact hp
   split at hp
   .rename_i hq;rw[Oh hb hq];exact hp
   .cases hp
  split at he
  .rename_i ks vs hm;rw[key _ hm];simp only;split at he
   .rename_i i h2;split at he
    .rename_i w h3;cases he;simp only[h2,h3]
    .cases he
   .rename_i h2;cases he;simp only[h2]
   .cases he
  .cases he
 case call f aas =>
  have hf:=hf rfl;have ha:aas.map (get D4)=aas.map (get fr):=IJ (xs:=aas) λt ht=>hs t (by simpa[ROp.slots]using ht);have hr':c.raw f=false:=by simpa using hr
  simp only[A2,ha,GM,hr',Bool.false_eq_true,if_false]at he ⊢;split at he
  .cases he
  .rename_i ys OQ;rw[Rl hb hf OQ];simp only;split at he
   .cases he
   .rename_i q hq;have et:(aas.map (get fr)).all (tame h')=(aas.map (get fr)).all (tame h):=by
     congr 1;funext x;exact eo hf x
    rw[et];split at he
    .rename_i hc;cases he;rw[if_pos hc]
    .cases he
theorem jh {r:ROp} {fr:Fr} {h h1:AH} {v:AV} (hr:r.apd=true) (he:A2 O c r fr h=some (v,h1)):∃ext,h1.boxes=h.boxes++ext:=by
 cases r<;>simp only[ROp.apd]at hr<;>try (cases hr;done)
 case box x=>simp only[A2]at he;split at he<;>cases he;exact⟨_,rfl⟩
 case mkmap=>simp only[A2]at he;cases he;exact⟨_,rfl⟩
 case alloc z=>simp only[A2]at he;cases he;exact⟨_,rfl⟩
 case mkb z b l q =>
  simp only[A2,Vc]at he
  repeat' (split at he)
  all_goals first|(cases he;done)|(cases he;exact⟨_,rfl⟩)
theorem OI {r:ROp} (h:r.rdr c=true):r.writesB c=false/\r.writesF c=false:=by
 cases r<;>simp only[ROp.rdr]at h<;>first|(cases h;done)|exact⟨rfl,rfl⟩|skip
 rename_i f _;have:c.raw f=false:=by simpa using h
 simp[ROp.writesB,ROp.writesF,this]
theorem nR {r:ROp} {fr D4:Fr} {h h':AH} (hs:∀t∈r.slots,D4.getD t A9=fr.getD t A9) (hb:r.looksB=true->h'.boxes=h.boxes) (hf:r.looksF=true->h'.fams=h.fams) (hcall:r.isCall=false) :
  ((A2 O c r fr h).isSome=true->(A2 O c r D4 h').map xm=(A2 O c r fr h).map xm):=by
 intro hsome;cases r
 case call=>simp[ROp.isCall]at hcall
 case callv=>simp[ROp.isCall]at hcall
 case st n a x=>obtain rfl:h'=h:=Lc (hb rfl) (hf rfl);simp only[A2,A7 (x:=a) λt ht=>hs t (by simp[ROp.slots,ht]),A7 (x:=x) λt ht=>hs t (by simp[ROp.slots,ht])]
 case ste n a x =>
  simp only[A2,A7 (x:=a) λt ht=>hs t (by simp[ROp.slots,ht]),A7 (x:=x) λt ht=>hs t (by simp[ROp.slots,ht])];exact jA (hf rfl)
 case stb n a x =>
  simp only[A2,A7 (x:=a) λt ht=>hs t (by simp[ROp.slots,ht]),A7 (x:=x) λt ht=>hs t (by simp[ROp.slots,ht])];exact iz (hb rfl)
 case clr z x =>
  simp only[A2,A7 (x:=x) λt ht=>hs t (by simp[ROp.slots,ht])];exact fh (hf rfl)
 case ld b n x=>obtain rfl:h'=h:=Lc (hb rfl) (hf rfl);simp only[A2,A7 (x:=x) λt ht=>hs t (by simp[ROp.slots,ht])]
 case mov x=>simp only[A2,A7 (x:=x) λt ht=>hs t (by simp[ROp.slots,ht])];rfl
 case pick q x y=>simp only[A2,A7 (x:=q) λt ht=>hs t (by simp[ROp.slots,ht]),A7 (x:=x) λt ht=>hs t (by simp[ROp.slots,ht]),A7 (x:=y) λt ht=>hs t (by simp[ROp.slots,ht])];cases get fr q<;>rfl
 case box x=>simp only[A2,A7 (x:=x) λt ht=>hs t (by simp[ROp.slots,ht]),hb rfl];split<;>rfl
 case alloc z=>simp only[A2,hb rfl];rfl
 case mkmap=>simp only[A2,hb rfl];rfl
 case mlook str ok z x k =>
  simp only[A2,Es,A7 (x:=x) λt ht=>hs t (by simp[ROp.slots,ht]),A7 (x:=k) λt ht=>hs t (by simp[ROp.slots,ht]),TR (hb rfl)]
  repeat' split
  all_goals rfl
 case mup str x k w=>obtain rfl:h'=h:=Lc (hb rfl) (hf rfl);simp only[A2,A7 (x:=x) λt ht=>hs t (by simp[ROp.slots,ht]),A7 (x:=k) λt ht=>hs t (by simp[ROp.slots,ht]),A7 (x:=w) λt ht=>hs t (by simp[ROp.slots,ht])]
 case build z ps=>simp only[A2,KE (ps:=ps) λt ht=>hs t (by simpa[ROp.slots]using ht)];cases D2 fr z.cells.length ps<;>rfl
 case bslice n z ps=>obtain rfl:h'=h:=Lc (hb rfl) (hf rfl);simp only[A2,Dx (ps:=ps) λt ht=>hs t (by simpa[ROp.slots]using ht)]
 case bslicev n z ps =>
  simp only[A2,QR (ps:=ps) λt ht=>hs t (by simpa[ROp.slots]using ht),Dx (h:=h') (ps:=ps) λt ht=>hs t (by simpa[ROp.slots]using ht)];by_cases hc:(ps.all λp=>KI (get fr p.2))=true
  .rw[if_pos hc,if_pos hc,Ll h h' hc];cases A4 fr h (List.replicate n z) ps<;>rfl
  .rw[if_neg hc,if_neg hc]
 case iaddrv sz x i =>
  simp only[A2,A7 (x:=x) λt ht=>hs t (by simp[ROp.slots,ht]),A7 (x:=i) λt ht=>hs t (by simp[ROp.slots,ht])];cases get fr x<;>first|rfl|(cases get fr i<;>first|rfl|(simp only[];split<;>first|rfl|(split<;>rfl)))
 case ldb b n x =>
  simp only[A2,A7 (x:=x) λt ht=>hs t (by simp[ROp.slots,ht])];cases hx:get fr x<;>simp only[]
  all_goals
   rw[XP (hb rfl) (by intro k m i q s h;cases h)];split<;>rfl
 case nilck x=>simp only[A2,A7 (x:=x) λt ht=>hs t (by simp[ROp.slots,ht])];cases get fr x<;>rfl
 case bin op x y=>simp only[A2,A7 (x:=x) λt ht=>hs t (by simp[ROp.slots,ht]),A7 (x:=y) λt ht=>hs t (by simp[ROp.slots,ht])];cases D6 op (get fr x) (get fr y)<;>rfl
 case beq n x y =>
  simp only[A2,A7 (x:=x) λt ht=>hs t (by simp[ROp.slots,ht]),A7 (x:=y) λt ht=>hs t (by simp[ROp.slots,ht])];cases get fr x<;>first|rfl|(cases get fr y<;>rfl)
 case nileq n x=>simp only[A2,A7 (x:=x) λt ht=>hs t (by simp[ROp.slots,ht])];cases get fr x<;>rfl
 case un op x=>simp only[A2,A7 (x:=x) λt ht=>hs t (by simp[ROp.slots,ht])];cases Ny op (get fr x)<;>rfl
 case conv k x=>simp only[A2,A7 (x:=x) λt ht=>hs t (by simp[ROp.slots,ht])];cases get fr x<;>rfl
 case cstr x=>simp only[A2,A7 (x:=x) λt ht=>hs t (by simp[ROp.slots,ht])];cases get fr x<;>rfl
 case bstr x=>simp only[A2,Ts,A7 (x:=x) λt ht=>hs t (by simp[ROp.slots,ht]),Ki (hf rfl)];cases elems h 1 (get fr x)<;>first|rfl|(simp only[];split<;>rfl)
 case clos f cs=>obtain rfl:h'=h:=Lc (hb rfl) (hf rfl);simp only[A2,IJ (xs:=cs) λt ht=>hs t (by simpa[ROp.slots]using ht)]
 case mkslice z b l q =>
  simp only[A2,A7 (x:=l) λt ht=>hs t (by simp[ROp.slots,ht]),A7 (x:=q) λt ht=>hs t (by simp[ROp.slots,ht]),hf rfl];cases get fr l<;>first|rfl|(cases get fr q<;>first|rfl|(simp only[];split<;>rfl))
 case mkv z b l q =>
  simp only[A2,Zc,A7 (x:=l) λt ht=>hs t (by simp[ROp.slots,ht]),A7 (x:=q) λt ht=>hs t (by simp[ROp.slots,ht])];cases get fr l<;>first|rfl|(cases get fr q<;>first|rfl|(simp only[];split<;>rfl))
 case mkb z b l q =>
  simp only[A2,Vc,A7 (x:=l) λt ht=>hs t (by simp[ROp.slots,ht]),A7 (x:=q) λt ht=>hs t (by simp[ROp.slots,ht]),hb rfl];cases get fr l<;>first|rfl|(cases get fr q<;>first|rfl|(simp only[];split<;>rfl))
 case slc sz x a b m =>
  simp only[A2,A7 (x:=x) λt ht=>hs t (by simp[ROp.slots,ht]),MD (x:=a) λt ht=>hs t (by simp[ROp.slots,ht]),MD (x:=b) λt ht=>hs t (by simp[ROp.slots,ht]),MD (x:=m) λt ht=>hs t (by simp[ROp.slots,ht]),YZ (hf rfl)];cases O8 fr a<;>first|rfl|(cases O8 fr b<;>first|rfl|(cases O8 fr m<;>first|rfl|(simp only[];split<;>rfl)))
 case faddr off x=>simp only[A2,A7 (x:=x) λt ht=>hs t (by simp[ROp.slots,ht])];cases get fr x<;>rfl
 case fld b off n x =>
  simp only[A2,A7 (x:=x) λt ht=>hs t (by simp[ROp.slots,ht])];cases get fr x<;>first|rfl|(simp only[];split<;>rfl)
 case iaddr sz x i =>
  simp only[A2,A7 (x:=x) λt ht=>hs t (by simp[ROp.slots,ht]),A7 (x:=i) λt ht=>hs t (by simp[ROp.slots,ht])];cases get fr x<;>first|rfl|(cases get fr i<;>first|rfl|(simp only[];split<;>first|rfl|(split<;>rfl)))
 case idx x i =>
  simp only[A2,A7 (x:=x) λt ht=>hs t (by simp[ROp.slots,ht]),A7 (x:=i) λt ht=>hs t (by simp[ROp.slots,ht])];cases get fr x<;>first|rfl|(cases get fr i<;>first|rfl|(simp only[];split<;>first|rfl|(split<;>rfl)))
 case ext x i =>
  simp only[A2,A7 (x:=x) λt ht=>hs t (by simp[ROp.slots,ht])];cases get fr x<;>first|rfl|(simp only[];split<;>rfl)
 case len b x=>cases b<;>simp only[A2,A7 (x:=x) λt ht=>hs t (by simp[ROp.slots,ht])]<;>cases get fr x<;>rfl
 case app sz b s x =>
  simp only[A2,L5,A7 (x:=s) λt ht=>hs t (by simp[ROp.slots,ht]),A7 (x:=x) λt ht=>hs t (by simp[ROp.slots,ht]),Ki (hf rfl),hf rfl];split
  .rfl
  .split
   .split
    .rfl
    .split<;>rfl
   .split
    .split<;>rfl
    .rfl
   .rfl
 case max x y =>
  simp only[A2,A7 (x:=x) λt ht=>hs t (by simp[ROp.slots,ht]),A7 (x:=y) λt ht=>hs t (by simp[ROp.slots,ht])];cases get fr x<;>first|rfl|(cases get fr y<;>first|rfl|(simp only[];split<;>rfl))
end
end Go.Abs
namespace Go.Abs
open Go.RowKit (Below)
section
variable {O:Orc} {c:Ctx}
theorem iA {r:ROp} {fr D4:Fr} {h h' h1:AH} {v:AV} (hs:∀t∈r.slots,D4.getD t A9=fr.getD t A9) (hb:r.looksB=true->h'.boxes=h.boxes) (hf:r.looksF=true->h'.fams=h.fams)
  (he:A2 O c r fr h=some (v,h1)):∃Jb,A2 O c r D4 h'=some (v,Jb)/\(r.writesB c=true->Jb.boxes=h1.boxes)/\(r.writesF c=true->Jb.fams=h1.fams):=by
 by_cases hcall:r.isCall=false
 .have h2:=nR (O:=O) hs hb hf hcall (by rw[he];rfl);rw[he]at h2;cases h3:A2 O c r D4 h' with
  |none=>rw[h3]at h2;cases h2
  |some x =>
   obtain⟨v',Jb⟩:=x;rw[h3]at h2;have:v'=v:=by simpa using h2
   subst this;refine⟨Jb,rfl,λhw=>?_,λhw=>?_⟩
   .cases r<;>simp only[ROp.writesB]at hw<;>try (cases hw;done)
    case call=>simp[ROp.isCall]at hcall
    case callv=>simp[ROp.isCall]at hcall
    case st n a x =>
     obtain rfl:h'=h:=Lc (hb rfl) (hf rfl);simp only[A2,A7 (x:=a) λt ht=>hs t (by simp[ROp.slots,ht]),A7 (x:=x) λt ht=>hs t (by simp[ROp.slots,ht])]at h3 he;rw[h3]at he;cases he;rfl
    case stb n a x =>
     simp only[A2,A7 (x:=a) λt ht=>hs t (by simp[ROp.slots,ht]),A7 (x:=x) λt ht=>hs t (by simp[ROp.slots,ht])]at h3 he;have:=Uq (h:=h) (h':=h') (hb rfl) (n:=n) (p:=get fr a) (x:=get fr x);rw[h3,he]at this;simpa using this
    case box x =>
     simp only[A2,A7 (x:=x) λt ht=>hs t (by simp[ROp.slots,ht]),hb rfl]at h3 he;split at he
     .cases he
     .rename_i ht;rw[if_neg ht]at h3;cases he;cases h3;rfl
    case alloc z=>simp only[A2,hb rfl]at h3 he;cases he;cases h3;rfl
    case clos f cs =>
     obtain rfl:h'=h:=Lc (hb rfl) (hf rfl);simp only[A2,IJ (xs:=cs) λt ht=>hs t (by simpa[ROp.slots]using ht)]at h3 he;rw[h3]at he;cases he;rfl
    case mkmap=>simp only[A2,hb rfl]at h3 he;cases he;cases h3;rfl
    case mkb z b l q =>
     simp only[A2,Vc,A7 (x:=l) λt ht=>hs t (by simp[ROp.slots,ht]),A7 (x:=q) λt ht=>hs t (by simp[ROp.slots,ht]),hb rfl]at h3 he;split at he
     .rename_i e1 e2;simp only[e1,e2]at h3;split at he
      .rename_i hc;rw[if_pos hc]at h3;cases he;cases h3;rfl
      .cases he
     .cases he
    case mup str x k w =>
     obtain rfl:h'=h:=Lc (hb rfl) (hf rfl);simp only[A2,A7 (x:=x) λt ht=>hs t (by simp[ROp.slots,ht]),A7 (x:=k) λt ht=>hs t (by simp[ROp.slots,ht]),A7 (x:=w) λt ht=>hs t (by simp[ROp.slots,ht])]at h3 he;rw[h3]at he;cases he;rfl
   .cases r<;>simp only[ROp.writesF]at hw<;>try (cases hw;done)
    case call=>simp[ROp.isCall]at hcall
    case callv=>simp[ROp.isCall]at hcall
    case st n a x =>
     obtain rfl:h'=h:=Lc (hb rfl) (hf rfl);simp only[A2,A7 (x:=a) λt ht=>hs t (by simp[ROp.slots,ht]),A7 (x:=x) λt ht=>hs t (by simp[ROp.slots,ht])]at h3 he;rw[h3]at he;cases he;rfl
    case ste n a x =>
     simp only[A2,A7 (x:=a) λt ht=>hs t (by simp[ROp.slots,ht]),A7 (x:=x) λt ht=>hs t (by simp[ROp.slots,ht])]at h3 he;have:=Ur (h:=h) (h':=h') (hf rfl) (n:=n) (p:=get fr a) (x:=get fr x);rw[h3,he]at this;simpa using this
    case clr z x =>
     simp only[A2,A7 (x:=x) λt ht=>hs t (by simp[ROp.slots,ht])]at h3 he;have:=Tw (h:=h) (h':=h') (hf rfl) (z:=z) (x:=get fr x);rw[h3,he]at this;simpa using this
    case mkslice z b l q =>
     simp only[A2,A7 (x:=l) λt ht=>hs t (by simp[ROp.slots,ht]),A7 (x:=q) λt ht=>hs t (by simp[ROp.slots,ht]),hf rfl]at h3 he;split at he
     .rename_i e1 e2;simp only[e1,e2]at h3;split at he
      .rename_i hc;rw[if_pos hc]at h3;cases he;cases h3;rfl
      .cases he
     .cases he
    case app sz b s x =>
     simp only[A2,L5,A7 (x:=s) λt ht=>hs t (by simp[ROp.slots,ht]),A7 (x:=x) λt ht=>hs t (by simp[ROp.slots,ht]),Ki (hf rfl),hf rfl]at h3 he;cases Pj:elems h sz (get fr x)with
     |none=>rw[Pj]at he;cases he
     |some ys =>
      rw[Pj]at he h3;dsimp only at he h3;cases hg:get fr s<;>rw[hg]at he h3<;>(try dsimp only at he h3)<;>try (cases he;done)
      case vs full z xs =>
       cases full<;>(try dsimp only at he h3)
       .cases he
       .split at he
        .rename_i hc;rw[if_pos hc]at h3;cases he;cases h3;exact hf rfl
        .rename_i hc;rw[if_neg hc]at h3;split at he
         .rename_i hc2;rw[if_pos hc2]at h3;cases he;cases h3;rfl
         .cases he
      case sl k n off len =>
       cases hk:h.fams[k]? with
       |none=>rw[hk]at he;cases he
       |some f =>
        rw[hk]at he h3;dsimp only at he h3;split at he
        .rename_i hc;rw[if_pos hc]at h3;cases he;cases h3;rfl
        .cases he
 .cases r<;>simp only[ROp.isCall]at hcall<;>try (exact absurd trivial hcall)
  case callv x aas =>
   obtain rfl:h'=h:=Lc (hb rfl) (hf rfl);refine⟨h1,?_,λ_=>rfl,λ_=>rfl⟩;rw[←he];simp only[A2,A7 (x:=x) λt ht=>hs t (by simp only[ROp.slots,xn];exact .inl ht),IJ (xs:=aas) λt ht=>hs t (by simp only[ROp.slots,xn];exact .inr ht)]
  case call f aas =>
   have ha:aas.map (get D4)=aas.map (get fr):=IJ (xs:=aas) λt ht=>hs t (by simpa[ROp.slots]using ht);obtain rfl:h'=h:=Lc (hb rfl) (hf rfl);exact⟨h1,by rw[←he];simp only[A2,ha],λ_=>rfl,λ_=>rfl⟩
def fq (o:Oper) (G1:List Nat):Nat:=o.after.toList.foldl (λs e=>if Region.binds .any e then s ||| 2 ^ e.on ||| G1.getD e.on 0 else s) 0
theorem QN:∀(l:List Oper) (G1:List Nat),∃ext,Y2 l G1=G1++ext/\ext.length=l.length/\∀(k:Nat) (o:Oper),l[k]?=some o->ext[k]?=some (fq o (G1++ext.take k))
 | [],G1=>⟨[],by simp[Y2],rfl,λk o h=>by simp at h⟩
 |o::l,G1=>by
  obtain⟨ext,h1,h2,h3⟩:=QN l (G1++[fq o G1]);refine⟨fq o G1::ext,?_,by simp[h2],λk o' hk=>?_⟩
  .rw[Y2];show Y2 l (G1++[fq o G1])=_;rw[h1];simp
  .cases k with
   |zero=>simp at hk;subst hk;simp
   |succ k =>
    have:=h3 k o' (by simpa using hk);simpa using this
theorem UG {G1:List Nat} {i:Nat}:∀(l:List Edge) (s:Nat),(l.foldl (λs e=>if Region.binds .any e then s ||| 2 ^ e.on ||| G1.getD e.on 0 else s) s).testBit i=true ->
  s.testBit i=true\/∃e∈l,Region.binds .any e=true/\(e.on=i\/(G1.getD e.on 0).testBit i=true)
 | [],s,h=>.inl h
 |e::l,s,h=>by
  simp only[List.foldl_cons]at h;rcases UG l _ h with h1|⟨e',he',h1⟩
  .split at h1
   .rename_i hb;rw[xr,xr]at h1;simp only[Bool.or_eq_true]at h1;rcases h1 with (h1|h1)|h1
    .exact .inl h1
    .rw[Nat.testBit_two_pow]at h1;exact .inr ⟨e,by simp,hb,.inl (by simpa using h1)⟩
    .exact .inr ⟨e,by simp,hb,.inr h1⟩
   .exact .inl h1
  .exact .inr ⟨e',by simp[he'],h1⟩
def Yq (ops:List Oper) (i j:Nat):Prop:=((Y2 ops []).getD j 0).testBit i=true
theorem fo {ops:List Oper} {i j:Nat} (h:Yq ops i j):∃o e,ops[j]?=some o/\e∈o.after.toList/\Region.binds .any e=true/\(e.on=i\/Yq ops i e.on):=by
 obtain⟨ext,h1,h2,h3⟩:=QN ops [];simp only[List.nil_append]at h1 h3;unfold Yq at h;rw[h1]at h;cases ho:ops[j]? with
 |none =>
  have:ext[j]?=none:=by
   rw[List.getElem?_eq_none_iff]at ho ⊢;omega
  simp[xt,this]at h
 |some o =>
  have h4:=h3 j o ho;rw[xt,h4]at h;simp only[Option.getD_some]at h;unfold fq at h;rcases UG _ _ h with h5|⟨e,he,hb,h5⟩
  .simp at h5
  .refine⟨o,e,rfl,he,hb,?_⟩;rcases h5 with h5|h5
   .exact .inl h5
   .right;unfold Yq;rw[h1];have:(ext.take j).getD e.on 0=ext.getD e.on 0\/(ext.take j).getD e.on 0=0:=by
     simp only[xt,List.getElem?_take];split
     .exact .inl rfl
     .exact .inr rfl
    rcases this with h6|h6
    .rw[←h6];exact h5
    .rw[h6]at h5;simp at h5
theorem Wp:∀{ops:List Oper} {k:Nat},NI ops k=true->∀{j:Nat} {o:Oper} {e:Edge},ops[j]?=some o->e∈o.after.toList->Region.binds .any e=true->e.on<k+j
 | [],_,_,j,o,e,h,_,_=>by simp at h
 |o'::ops,k,h,j,o,e,ho,he,hb=>by
  simp only[NI,xq]at h;cases j with
  |zero =>
   simp at ho;subst ho;have:=(List.all_eq_true.1 h.1) e he;simp[hb]at this;omega
  |succ j =>
   have:=Wp h.2 (j:=j) (o:=o) (by simpa using ho) he hb;omega
end
end Go.Abs
