/- A part of the proof. -/
import Derived.Test.YtjhgilockkmniaaGreatDoorSJ22
set_option linter.all false
open List renaming getElem?_eq_getElem->zf0z,drop_eq_getElem_cons->zf1z,drop_eq_nil_of_le->zf2z,length_singleton->zf4z,cons_append->zf5z,getElem_mem->zf6z,nil_append->zf7z,map_append->zf8z,getElem?_set_self->zf9z,getElem?_set_ne->zg0z,any_cons->zg1z,map_cons->zg2z
open Option renaming bind_some->zf3z
open Nat renaming mul_le_mul_left->zg3z
namespace Go.Abs.Q
open Go.Proofs
attribute [local simp] C8 D5 fin H6 G0
theorem WZ (m:U8) (l:List Ste) (hs:∀s∈l,s.frm.size<=1099511627776/\s.to.size<=1099511627776/\s.msg.size<=1099511627776) (C4:l.length<=1099511627776) (B:C6)
  (fr:Fr) (h:AH) (hh:h=⟨[B],[]⟩) (hl:fr.length=50) (h16:A2 fr 16=sl m 7 (l.map Q2)) (h17:A2 fr 17=.int .i64 l.length) (h18:A2 fr 18=.int .i64 0) :
  C3 (lp (A4 (N5 Q) (B9 BQ) S3) (fr,h)) λe fr' h'=>Kp S3.wr fr fr'/\(∃bx,h'=⟨B::bx,[]⟩)/\(e=.exit 0/\C0 FA l=0\/e=.ret/\A2 fr' 2=.int .i64 (C0 FA l)/\C0 FA l≠0):=by
 refine C1 rfl fr (λn fr h'=>∃(i:Nat),i+n=l.length/\A2 fr 18=.int .i64 (i:Nat)/\(∃bx,h'=⟨B::bx,[]⟩)/\C0 FA (l.drop i)=C0 FA l) ?_ l.length h ⟨0,by omega,h18,⟨[],hh⟩,rfl⟩;rintro J Φ hJ hΦ n E4 X7 K ⟨i,hi,k18,⟨bx,rfl⟩,hr⟩;have A6:=K.1.trans hl;have k16:=B8 K 16 h16;have k17:=B8 K 17 h17;by_cases A9:i<l.length
 .have hx:=E5 (f:=Q2) (zf0z A9);have hw:=C9 i (by omega);obtain⟨s1,s2,s3⟩:=hs _ (zf6z A9);have hR:=Ig l[i].frm s1;have hN:=Ig l[i].to s2;have hM:=Ox l[i].msg s3;rw[zf1z A9]at hr;simp only[C0]at hr;generalize l[i]=f at *
  have hfe:FA f=if L6 f.frm=false\/L6 f.to=false then 2 else DT f.msg:=rfl
  generalize FA f=e at *
  obtain⟨r,nm,t,ln⟩:=f;simp only at *
  generalize L6 r=rb at *
  generalize L6 nm=nb at *
  generalize DT t=me at *
  obtain⟨tk,tn,ts,tm,tl⟩:=t;simp only[Q2,I1,FO,zf5z,zf7z]at hx hM;generalize C0 FA l=tot at *
  have fin2:e≠0->e=tot:=λq=>by rw[if_pos q]at hr;exact hr
  cases rb with
  |false =>
   rw[if_pos (.inl rfl)]at hfe;have:=fin2 (by omega);simp[S3,A6,k16,k17,k18,A9,hx,hw,hR];exact hΦ _ _ _ ⟨⟨_,rfl⟩,.inr ⟨rfl,by simp[A6];omega,by omega⟩⟩
  |true =>
   cases nb with
   |false =>
    rw[if_pos (.inr rfl)]at hfe;have:=fin2 (by omega);simp[S3,A6,k16,k17,k18,A9,hx,hw,hR,hN];exact hΦ _ _ _ ⟨⟨_,rfl⟩,.inr ⟨rfl,by simp[A6];omega,by omega⟩⟩
   |true =>
    rw[if_neg (by simp)]at hfe;by_cases hz:me=0
    .rw[if_neg (by simp[hfe,hz])]at hr;simp[S3,A6,k16,k17,k18,A9,hx,hw,hR,hN,hM,hz];exact H0 hJ ⟨i+1,by omega,by simp[A6],⟨_,rfl⟩,hr⟩
    .have:=fin2 (by omega);simp[S3,A6,k16,k17,k18,A9,hx,hw,hR,hN,hM,hz];exact hΦ _ _ _ ⟨⟨_,rfl⟩,.inr ⟨rfl,by simp[A6];omega,by omega⟩⟩
 .rw[zf2z (by omega)]at hr;simp[S3,A6,k16,k17,k18,A9];exact hΦ _ _ _ ⟨⟨_,rfl⟩,.inl ⟨rfl,hr.symm⟩⟩
theorem WO (m:U8) (l:List Gol) (hs:∀g∈l,g.role.size<=1099511627776/\g.wth.size<=1099511627776/\Tm.sizes g.data<=1099511627776) (C4:l.length<=1099511627776)
  (fr:Fr) (h:AH) (hl:fr.length=50) (h16:A2 fr 38=sl m 5 (l.map Be)) (h17:A2 fr 39=.int .i64 l.length) (h18:A2 fr 40=.int .i64 0) :
  C3 (lp (A4 (N5 Q) (B9 BQ) r6) (fr,h)) λe fr' h'=>Kp r6.wr fr fr'/\(e=.exit 2/\C0 Gf l=0\/e=.ret/\A2 fr' 2=.int .i64 (C0 Gf l)):=by
 refine C1 rfl fr (λn fr h'=>∃(i:Nat),i+n=l.length/\A2 fr 40=.int .i64 (i:Nat)/\C0 Gf (l.drop i)=C0 Gf l) ?_ l.length h ⟨0,by omega,h18,rfl⟩;rintro J Φ hJ hΦ n E4 X7 K ⟨i,hi,k18,hr⟩;have A6:=K.1.trans hl;have k16:=B8 K 38 h16;have k17:=B8 K 39 h17;by_cases A9:i<l.length
 .have hx:=E5 (f:=Be) (zf0z A9);have hw:=C9 i (by omega);obtain⟨s1,s2,s3⟩:=hs _ (zf6z A9);have hM:=Wp l[i] s1 s2 s3;rw[zf1z A9]at hr;simp only[C0]at hr;generalize l[i]=f at *
  generalize Gf f=e at *
  simp only[Be]at hx hM;by_cases hz:e=0
  .rw[if_neg (by simp[hz])]at hr;simp[r6,A6,k16,k17,k18,A9,hx,hw,hM,hz];exact H0 hJ ⟨i+1,by omega,by simp[A6],hr⟩
  .rw[if_pos hz]at hr;simp[r6,A6,k16,k17,k18,A9,hx,hw,hM,hz];exact hΦ _ _ _ (.inr ⟨rfl,by simp[A6,hr]⟩)
 .rw[zf2z (by omega)]at hr;simp[r6,A6,k16,k17,k18,A9];exact hΦ _ _ _ (.inl ⟨rfl,hr.symm⟩)
theorem UZ (n:Nar) (F:Fine n):pc Q BQ [D2 n]=some (.int .i64 (JB n)):=by
 have hH:=gM n F;have hS:=WZ n.sm n.steps F.steps F.stepsL;have hG:=WO n.gm n.goals F.goals F.goalsL;refine Bu FJ λfr hl h0=>?_;have hv:JB n=if Eg n≠0 then Eg n else if C0 FA n.steps≠0 then C0 FA n.steps else C0 Gf n.goals:=rfl
 generalize JB n=v at *
 generalize Eg n=q at *
 clear F;obtain⟨name,rm,roles,fm,fresh,tm,tags,sm,steps,gm,goals⟩:=n;simp only[D2]at *
 generalize C0 FA steps=se at *
 generalize C0 Gf goals=ge at *
 simp[FJ]at hl h0;by_cases hq:q=0
 .subst hq;rw[if_neg (by simp)]at hv;simp[FJ,hl,h0,hH];refine C3.mono (hS _ _ _ rfl ?_ ?_ ?_ ?_) ?_<;>first|(simp[hl];done)|skip
  rintro e E4 h1 ⟨K,⟨bx,rfl⟩,⟨rfl,hz⟩|⟨rfl,k2,hz⟩⟩
  .have A6:E4.length=50:=K.1.trans (by simp[hl]);have k1:A2 E4 1=.ptr 0 0:=B8 K 1 (by simp[hl]);rw[if_neg (by omega)]at hv;clear K;simp[A6,k1];refine C3.mono (hG _ _ ?_ ?_ ?_ ?_) ?_<;>first|(simp[A6];done)|skip
   rintro e T9 h2 ⟨K,⟨rfl,hz⟩|⟨rfl,k2⟩⟩
   .have FN:T9.length=50:=K.1.trans (by simp[A6]);simp[FN,hv,hz]
   .simp[k2,hv]
  .rw[if_pos hz]at hv;simp[k2,hv]
 .rw[if_pos hq]at hv;subst hv;simp[FJ,hl,h0,hH,hq]
theorem Wm (n:Nar):pc Q Dr [D2 n]=some (.int .i64 (JV n)):=by
 refine Bu O7 λfr hl h0=>?_;have hq:JV n=if n.roles.length<2 then 8 else if 4<n.roles.length\/12<n.fresh.length\/8<n.tags.length then 3 else if n.steps.length=0 then 8 else if 8<n.steps.length\/8<n.goals.length then 3 else 0:=rfl
 generalize JV n=q at *
 obtain⟨name,rm,roles,fm,fresh,tm,tags,sm,steps,gm,goals⟩:=n;simp only[D2]at *
 simp[O7]at hl h0;by_cases c1:(roles.length:Int)<2
 .rw[if_pos (by omega)]at hq;subst hq;simp[O7,hl,h0,A7 c1]
 rw[if_neg (by omega)]at hq;by_cases c2:(4:Int)<(roles.length:Int)
 .rw[if_pos (.inl (by omega))]at hq;subst hq;simp[O7,hl,h0,A0 c1,A7 c2]
 by_cases c3:(12:Int)<(fresh.length:Int)
 .rw[if_pos (.inr (.inl (by omega)))]at hq;subst hq;simp[O7,hl,h0,A0 c1,A0 c2,A7 c3]
 by_cases c4:(8:Int)<(tags.length:Int)
 .rw[if_pos (.inr (.inr (by omega)))]at hq;subst hq;simp[O7,hl,h0,A0 c1,A0 c2,A0 c3,A7 c4]
 rw[if_neg (by omega)]at hq;by_cases c5:(steps.length:Int)=0
 .rw[if_pos (by omega)]at hq;subst hq;have c5':steps=[]:=List.eq_nil_of_length_eq_zero (by omega);subst c5';simp[O7,hl,h0,A0 c1,A0 c2,A0 c3,A0 c4]
 rw[if_neg (by omega)]at hq;have c5n:¬steps=[]:=λe=>c5 (by rw[e];rfl);by_cases c6:(8:Int)<(steps.length:Int)
 .rw[if_pos (.inl (by omega))]at hq;subst hq;simp[O7,hl,h0,A0 c1,A0 c2,A0 c3,A0 c4,c5n,A7 c6]
 by_cases c7:(8:Int)<(goals.length:Int)
 .rw[if_pos (.inr (by omega))]at hq;subst hq;simp[O7,hl,h0,A0 c1,A0 c2,A0 c3,A0 c4,c5n,A0 c6,A7 c7]
 rw[if_neg (by omega)]at hq;subst hq;simp[O7,hl,h0,A0 c1,A0 c2,A0 c3,A0 c4,c5n,A0 c6,A0 c7]
theorem Qs (a b:R7):pc Q X0 [sl (true,true) 1 [.str a,.str b]]=some (.bool (L6 a&&L6 b)):=by
 have h:=Oy (true,true) [a,b] (by simp);simp only[EV,zg2z,List.map_nil,zg1z,List.any_nil,FC,Bool.or_false,Bool.not_or,Bool.not_not]at h;exact h
theorem Us (m:U8) (l:List Fre) (C4:l.length<=1099511627776) (b0 b1 b3 b4 b5:AV)
  (fr:Fr) (h:AH) (hh:h=⟨[[b0,b1,sl m 3 (l.map Gq),b3,b4,b5]],[]⟩) (hl:fr.length=107) (h1:A2 fr 1=.ptr 0 0) (h4:A2 fr 4=.int .i64 0) :
  C3 (lp (A4 (N5 Q) (B9 Ar) R2) (fr,h)) λe fr' h'=>Kp R2.wr fr fr'/\(∃bx,h'=⟨[b0,b1,sl m 3 (l.map Gq),b3,b4,b5]::bx,[]⟩)/\(e=.exit 0/\C0 Gd l=0\/e=.ret/\A2 fr' 2=.int .i64 (C0 Gd l)/\C0 Gd l≠0):=by
 refine C1 rfl fr (λn fr h'=>∃(i:Nat),i+n=l.length/\A2 fr 4=.int .i64 (i:Nat)/\(∃bx,h'=⟨[b0,b1,sl m 3 (l.map Gq),b3,b4,b5]::bx,[]⟩)/\C0 Gd (l.drop i)=C0 Gd l) ?_ l.length h ⟨0,by omega,h4,⟨[],hh⟩,rfl⟩;rintro J Φ hJ hΦ n E4 X7 K ⟨i,hi,k4,⟨bx,rfl⟩,hr⟩;have A6:=K.1.trans hl;have k1:=B8 K 1 h1;by_cases A9:i<l.length
 .have hx:=E5 (f:=Gq) (zf0z A9);have hw:=C9 i (by omega);have hN:=Qs l[i].role l[i].name;rw[zf1z A9]at hr;simp only[C0]at hr;generalize l[i]=f at *
  have hfe:Gd f=if L6 f.role=false\/L6 f.name=false then 2 else if f.sort<2\/4<f.sort then 10 else 0:=rfl
  generalize Gd f=e at *
  obtain⟨r,nm,so⟩:=f;simp only[Gq]at *
  have hrb:(L6 r&&L6 nm)=false↔(L6 r=false\/L6 nm=false):=by cases L6 r<;>cases L6 nm<;>decide
  generalize L6 r=rb at *
  generalize L6 nm=nb at *
  generalize (rb&&nb)=ab at *
  generalize C0 Gd l=tot at *
  have fin2:e≠0->e=tot:=λq=>by rw[if_pos q]at hr;exact hr
  cases ab with
  |false =>
   rw[if_pos (hrb.1 rfl)]at hfe;have:=fin2 (by omega);simp[R2,A6,k1,k4,A9,hx,hw,B5,hN];exact hΦ _ _ _ ⟨⟨_,rfl⟩,.inr ⟨rfl,by simp[A6];omega,by omega⟩⟩
  |true =>
   rw[if_neg (λq=>by simpa using hrb.2 q)]at hfe;by_cases c1:so=2
   .rw[if_neg (by omega)]at hfe;rw[if_neg (by simp[hfe])]at hr;simp[R2,A6,k1,k4,A9,hx,hw,B5,hN,A7 c1];exact H0 hJ ⟨i+1,by omega,by simp[A6],⟨_,rfl⟩,hr⟩
   .by_cases c2:so=3
    .rw[if_neg (by omega)]at hfe;rw[if_neg (by simp[hfe])]at hr;simp[R2,A6,k1,k4,A9,hx,hw,B5,hN,A0 c1,A7 c2];exact H0 hJ ⟨i+1,by omega,by simp[A6],⟨_,rfl⟩,hr⟩
    .by_cases c3:so=4
     .rw[if_neg (by omega)]at hfe;rw[if_neg (by simp[hfe])]at hr;simp[R2,A6,k1,k4,A9,hx,hw,B5,hN,A0 c1,A0 c2,A7 c3];exact H0 hJ ⟨i+1,by omega,by simp[A6],⟨_,rfl⟩,hr⟩
     .rw[if_pos (by omega)]at hfe;have:=fin2 (by omega);simp[R2,A6,k1,k4,A9,hx,hw,B5,hN,A0 c1,A0 c2,A0 c3];exact hΦ _ _ _ ⟨⟨_,rfl⟩,.inr ⟨rfl,by simp[A6];omega,by omega⟩⟩
 .rw[zf2z (by omega)]at hr;simp[R2,A6,k1,k4,A9];exact hΦ _ _ _ ⟨⟨_,rfl⟩,.inl ⟨rfl,hr.symm⟩⟩
theorem Uu (m:U8) (l:List Ste) (hs:∀s∈l,s.frm.size<=1099511627776/\s.to.size<=1099511627776/\s.msg.size<=1099511627776) (C4:l.length<=1099511627776) (b0 b1 b2 b3 b5:AV) (bx:List (List AV))
  (fr:Fr) (h:AH) (hh:h=⟨[b0,b1,b2,b3,sl m 7 (l.map Q2),b5]::bx,[]⟩) (hl:fr.length=107) (h1:A2 fr 1=.ptr 0 0) (h6:A2 fr 6=.int .i64 0) :
  C3 (lp (A4 (N5 Q) (B9 Ar) i7) (fr,h)) λe fr' h'=>Kp i7.wr fr fr'/\h'=h/\(e=.exit 2/\C0 FA l=0\/e=.ret/\A2 fr' 2=.int .i64 (C0 FA l)/\C0 FA l≠0):=by
 refine C1 rfl fr (λn fr h'=>∃(i:Nat),i+n=l.length/\A2 fr 6=.int .i64 (i:Nat)/\h'=h/\C0 FA (l.drop i)=C0 FA l) ?_ l.length h ⟨0,by omega,h6,rfl,rfl⟩;rintro J Φ hJ hΦ n E4 X7 K ⟨i,hi,k6,rfl,hr⟩;subst hh;have A6:=K.1.trans hl;have k1:=B8 K 1 h1;by_cases A9:i<l.length
 .have hx:=E5 (f:=Q2) (zf0z A9);have hw:=C9 i (by omega);obtain⟨s1,s2,s3⟩:=hs _ (zf6z A9);have hN:=Qs l[i].frm l[i].to;have hM:=Kh l[i].msg s3;rw[zf1z A9]at hr;simp only[C0]at hr;generalize l[i]=f at *
  have hfe:FA f=if L6 f.frm=false\/L6 f.to=false then 2 else DT f.msg:=rfl
  generalize FA f=e at *
  obtain⟨r,nm,t,ln⟩:=f;simp only at *
  have hrb:(L6 r&&L6 nm)=false↔(L6 r=false\/L6 nm=false):=by cases L6 r<;>cases L6 nm<;>decide
  generalize L6 r=rb at *
  generalize L6 nm=nb at *
  generalize (rb&&nb)=ab at *
  generalize DT t=me at *
  obtain⟨tk,tn,ts,tm,tl⟩:=t;simp only[Q2,I1,FO,zf5z,zf7z]at hx hM;generalize C0 FA l=tot at *
  have fin2:e≠0->e=tot:=λq=>by rw[if_pos q]at hr;exact hr
  cases ab with
  |false =>
   rw[if_pos (hrb.1 rfl)]at hfe;have:=fin2 (by omega);simp[i7,A6,k1,k6,A9,hx,hw,B5,hN];exact hΦ _ _ _ ⟨rfl,.inr ⟨rfl,by simp[A6];omega,by omega⟩⟩
  |true =>
   rw[if_neg (λq=>by simpa using hrb.2 q)]at hfe;by_cases hz:me=0
   .rw[if_neg (by simp[hfe,hz])]at hr;simp[i7,A6,k1,k6,A9,hx,hw,B5,hN,hM,hz];exact H0 hJ ⟨i+1,by omega,by simp[A6],rfl,hr⟩
   .have:=fin2 (by omega);simp[i7,A6,k1,k6,A9,hx,hw,B5,hN,hM,hz];exact hΦ _ _ _ ⟨rfl,.inr ⟨rfl,by simp[A6];omega,by omega⟩⟩
 .rw[zf2z (by omega)]at hr;simp[i7,A6,k1,k6,A9];exact hΦ _ _ _ ⟨rfl,.inl ⟨rfl,hr.symm⟩⟩
theorem Ut (m:U8) (l:List Gol) (hs:∀g∈l,Tm.sizes g.data<=1099511627776) (C4:l.length<=1099511627776) (b0 b1 b2 b3 b4:AV) (bx:List (List AV))
  (fr:Fr) (h:AH) (hh:h=⟨[b0,b1,b2,b3,b4,sl m 5 (l.map Be)]::bx,[]⟩) (hl:fr.length=107) (h1:A2 fr 1=.ptr 0 0) (h8:A2 fr 8=.int .i64 0) :
  C3 (lp (A4 (N5 Q) (B9 Ar) AB) (fr,h)) λe fr' h'=>Kp AB.wr fr fr'/\(e=.exit 4/\C0 Gf l=0\/e=.ret/\A2 fr' 2=.int .i64 (C0 Gf l)):=by
 refine C1 rfl fr (λn fr h'=>∃(i:Nat),i+n=l.length/\A2 fr 8=.int .i64 (i:Nat)/\h'=h/\C0 Gf (l.drop i)=C0 Gf l) ?_ l.length h ⟨0,by omega,h8,rfl,rfl⟩;rintro J Φ hJ hΦ n E4 X7 K ⟨i,hi,k8,rfl,hr⟩;subst hh;have A6:=K.1.trans hl;have k1:=B8 K 1 h1;by_cases A9:i<l.length
 .have hx:=E5 (f:=Be) (zf0z A9);have hw:=C9 i (by omega);have hM:=Wo l[i] (hs _ (zf6z A9));rw[zf1z A9]at hr;simp only[C0]at hr;generalize l[i]=f at *
  generalize Gf f=e at *
  simp only[Be]at hx hM;by_cases hz:e=0
  .rw[if_neg (by simp[hz])]at hr;simp[AB,A6,k1,k8,A9,hx,hw,hM,hz];exact H0 hJ ⟨i+1,by omega,by simp[A6],rfl,hr⟩
  .rw[if_pos hz]at hr;simp[AB,A6,k1,k8,A9,hx,hw,hM,hz];exact hΦ _ _ _ (.inr ⟨rfl,by simp[A6,hr]⟩)
 .rw[zf2z (by omega)]at hr;simp[AB,A6,k1,k8,A9];exact hΦ _ _ _ (.inl ⟨rfl,hr.symm⟩)
theorem PB (n:Nar) (F:Fine n):pc Q Ar [D2 n]=some (.int .i64 (JB n)):=by
 have hN:=Ew n.name;have hU:=Wm n;have hR:=Oy n.rm n.roles F.rolesL;have hT:=Oy n.tm n.tags F.tagsL;have hS:=Uu n.sm n.steps F.steps F.stepsL;have hG:=Ut n.gm n.goals (λg hg=>(F.goals g hg).2.2) F.goalsL;have hFr:=Us n.fm n.fresh F.freshL;refine Bu CQ λfr hl h0=>?_;have hv:JB n=if Eg n≠0 then Eg n else if C0 FA n.steps≠0 then C0 FA n.steps else C0 Gf n.goals:=rfl
 have hhd:Eg n=if L6 n.name=false then 2 else if JV n≠0 then JV n else if n.roles.any FC=true then 2 else if C0 Gd n.fresh≠0 then C0 Gd n.fresh else if n.tags.any FC=true then 2 else 0:=rfl
 generalize JB n=v at *
 generalize Eg n=q at *
 generalize JV n=u at *
 clear F;obtain⟨name,rm,roles,fm,fresh,tm,tags,sm,steps,gm,goals⟩:=n;simp only[D2,EV]at *
 generalize L6 name=nb at *
 generalize roles.any FC=rb at *
 generalize tags.any FC=tb at *
 generalize C0 Gd fresh=fe at *
 generalize C0 FA steps=se at *
 generalize C0 Gf goals=ge at *
 simp[CQ]at hl h0;cases nb with
 |false =>
  rw[if_pos rfl]at hhd;rw[if_pos (by omega)]at hv;subst hv hhd;simp[CQ,hl,h0,hN]
 |true =>
  rw[if_neg (by simp)]at hhd;by_cases hu:u=0
  .subst hu;rw[if_neg (by simp)]at hhd;cases rb with
   |true =>
    rw[if_pos rfl]at hhd;rw[if_pos (by omega)]at hv;subst hv hhd;simp[CQ,hl,h0,hN,hU,hR]
   |false =>
    rw[if_neg (by simp)]at hhd;simp[CQ,hl,h0,hN,hU,hR];refine C3.mono (hFr _ _ _ _ _ _ _ rfl ?_ ?_ ?_) ?_<;>first|(simp[hl];done)|skip
    rintro e E4 h1 ⟨K,⟨bx,rfl⟩,⟨rfl,hz⟩|⟨rfl,k2,hz⟩⟩
    .have A6:E4.length=107:=K.1.trans (by simp[hl]);have k1:A2 E4 1=.ptr 0 0:=B8 K 1 (by simp[hl]);clear K;rw[if_neg (by omega)]at hhd;cases tb with
     |true =>
      rw[if_pos rfl]at hhd;rw[if_pos (by omega)]at hv;subst hv hhd;simp[A6,k1,hT]
     |false =>
      rw[if_neg (by simp)]at hhd;rw[if_neg (by omega)]at hv;simp[A6,k1,hT];refine C3.mono (hS _ _ _ _ _ bx _ _ rfl ?_ ?_ ?_) ?_<;>first|(simp[A6,k1];done)|skip
      rintro e T9 h2 ⟨K,rfl,⟨rfl,hz⟩|⟨rfl,k2,hz⟩⟩
      .have FN:T9.length=107:=K.1.trans (by simp[A6]);have k1':A2 T9 1=.ptr 0 0:=B8 K 1 (by simp[A6,k1]);clear K;rw[if_neg (by omega)]at hv;simp[FN];refine C3.mono (hG _ _ _ _ _ bx _ _ rfl ?_ ?_ ?_) ?_<;>first|(simp[FN,k1'];done)|skip
       rintro e fr3 h3 ⟨K,⟨rfl,hz⟩|⟨rfl,k2⟩⟩
       .have hl3:fr3.length=107:=K.1.trans (by simp[FN]);simp[hl3,hv,hz]
       .simp[k2,hv]
      .rw[if_pos hz]at hv;simp[k2,hv]
    .rw[if_pos hz]at hhd;rw[if_pos (by omega)]at hv;simp[k2,hv,hhd]
  .rw[if_pos hu]at hhd;rw[if_pos (by omega)]at hv;subst hv hhd;simp[CQ,hl,h0,hN,hU,hu]
def Ik:List Ste->Nat
 | []=>0
 |s::l=>s.msg.size+Ik l
def KY:List Gol->Nat
 | []=>0
 |g::l=>Tm.sizes g.data+KY l
theorem Il (a:Hg) (t:Tm):D1 (a++[t])=D1 a++[I1 t]:=by simp[j2]
theorem RI (a b:Hg):D1 (a++b)=D1 a++D1 b:=by simp[j2]
theorem WK (m:U8) (l:List Ste) (C4:l.length<=1099511627776) (L4:Ik l<=1099511627776) (b0 b1 b2 b3 b5:AV)
  (fr:Fr) (h:AH) (hh:h.boxes=[[b0,b1,b2,b3,sl m 7 (l.map Q2),b5]]) (hl:fr.length=67) (h1:A2 fr 1=.ptr 0 0) (h3:A2 fr 3=.vs true 0 []) (h4:A2 fr 4=.int .i64 0) :
  C3 (lp (A4 (N5 Q) (B9 AZ) Dm) (fr,h)) λe fr' h'=>Kp Dm.wr fr fr'/\h'.boxes=h.boxes/\e=.exit 0/\∃L5:List Tm,EY 4 (D1 L5) (A2 fr' 3) h'/\Tm.sizes L5<=Ik l:=by
 refine C1 rfl fr (λn fr h'=>∃(i:Nat) (L5:List Tm),i+n=l.length/\A2 fr 4=.int .i64 (i:Nat)/\h'.boxes=h.boxes/\EY 4 (D1 L5) (A2 fr 3) h'/\Tm.sizes L5+Ik (l.drop i)<=Ik l) ?_ l.length h ⟨0,[],by omega,h4,rfl,by rw[h3];exact Fk _ _,by simp[Tm.sizes]⟩;rintro J Φ hJ hΦ n E4 ⟨bx,fams⟩ K ⟨i,L5,hi,k4,hb,hg,hs⟩;rw[hh]at hb;simp only at hb;subst hb;have A6:=K.1.trans hl;have k1:=B8 K 1 h1;have hal:=Tm.length_le L5;by_cases A9:i<l.length
 .have hx:=E5 (f:=Q2) (zf0z A9);have hw:=C9 i (by omega);rw[zf1z A9]at hs;simp only[Ik]at hs;generalize l[i]=f at *
  obtain⟨r,nm,t,ln⟩:=f;simp only at hs;obtain⟨v',h',ha,Ch,JU⟩:=Eb (c:=B9 AZ) (bytes:=56) (x:=I1 t) hg rfl (true,true) (by simp;omega) (by simp;omega);have hts:=t.size_pos;obtain⟨tk,tn,ts,tm,tl⟩:=t;have hg2:EY 4 (D1 (L5++[.mk tk tn ts tm tl])) v' h':=by rw[Il];exact Ch
  simp only[Q2,I1,FO,zf5z,zf7z]at hx ha;simp[Dm,A6,k1,k4,A9,hx,hw,B5,ha];exact H0 hJ ⟨i+1,L5++[.mk tk tn ts tm tl],by omega,by simp[A6],by rw[JU,hh],by simp[A6];exact hg2,by rw[Tm.sizes_append];simp only[Tm.sizes];omega⟩
 .rw[zf2z (by omega)]at hs;simp only[Ik]at hs;simp[Dm,A6,k1,k4,A9];exact hΦ _ _ _ ⟨hh.symm,rfl,L5,by simp[A6];exact hg,by omega⟩
theorem WJ (m:U8) (l:List Gol) (C4:l.length<=1099511627776) (acc0:Hg) (L4:Tm.sizes acc0+KY l<=1099511627776) (b0 b1 b2 b3 b4:AV)
  (fr:Fr) (h:AH) (hh:h.boxes=[[b0,b1,b2,b3,b4,sl m 5 (l.map Be)]]) (hl:fr.length=67) (h1:A2 fr 1=.ptr 0 0) (h3:EY 4 (D1 acc0) (A2 fr 3) h) (h5:A2 fr 5=.int .i64 0) :
  C3 (lp (A4 (N5 Q) (B9 AZ) Dl) (fr,h)) λe fr' h'=>Kp Dl.wr fr fr'/\e=.exit 2/\∃L5:List Tm,EY 4 (D1 L5) (A2 fr' 3) h'/\Tm.sizes L5<=1099511627776:=by
 refine C1 rfl fr (λn fr h'=>∃(i:Nat) (L5:List Tm),i+n=l.length/\A2 fr 5=.int .i64 (i:Nat)/\h'.boxes=h.boxes/\EY 4 (D1 L5) (A2 fr 3) h'/\Tm.sizes L5+KY (l.drop i)<=1099511627776) ?_ l.length h ⟨0,acc0,by omega,h5,rfl,h3,L4⟩;rintro J Φ hJ hΦ n E4 ⟨bx,fams⟩ K ⟨i,L5,hi,k5,hb,hg,hs⟩;rw[hh]at hb;simp only at hb;subst hb;have A6:=K.1.trans hl;have k1:=B8 K 1 h1;have hal:=Tm.length_le L5;by_cases A9:i<l.length
 .have hx:=E5 (f:=Be) (zf0z A9);have hw:=C9 i (by omega);rw[zf1z A9]at hs;simp only[KY]at hs;generalize l[i]=g at *
  have Gr:=Tm.length_le g.data;obtain⟨v',h',ha,Ch,JU⟩:=Nb (c:=B9 AZ) (bytes:=56) (x:=sl g.dm 4 (D1 g.data)) (ys:=D1 g.data) hg rfl (Ad _ _ _ _) (by simp[I0,maxLen];omega);have hg2:EY 4 (D1 (L5++g.data)) v' h':=by rw[RI];exact Ch
  simp only[Be]at hx;simp[Dl,A6,k1,k5,A9,hx,hw,ha];exact H0 hJ ⟨i+1,L5++g.data,by omega,by simp[A6],by rw[JU,hh],by simp[A6];exact hg2,by rw[Tm.sizes_append];omega⟩
 .rw[zf2z (by omega)]at hs;simp only[KY]at hs;simp[Dl,A6,k1,k5,A9];exact hΦ _ _ _ ⟨rfl,L5,by simp[A6];exact hg,by omega⟩
theorem Rv (m:U8) (l:List Ste) (C4:l.length<=1099511627776) (L4:Ik l<=1099511627776) (b0 b1 b2 b3 b5:AV)
  (fr:Fr) (h:AH) (hh:h.boxes=[[b0,b1,b2,b3,sl m 7 (l.map Q2),b5]]) (hl:fr.length=54) (h1:A2 fr 1=.ptr 0 0) (h3:A2 fr 3=.vs true 0 []) (h4:A2 fr 4=.int .i64 0) :
  C3 (lp (A4 (N5 Q) (B9 W9) CD) (fr,h)) λe fr' h'=>Kp CD.wr fr fr'/\h'.boxes=h.boxes/\e=.exit 0/\∃L5:List Tm,EY 4 (D1 L5) (A2 fr' 3) h'/\Tm.sizes L5<=Ik l:=by
 refine C1 rfl fr (λn fr h'=>∃(i:Nat) (L5:List Tm),i+n=l.length/\A2 fr 4=.int .i64 (i:Nat)/\h'.boxes=h.boxes/\EY 4 (D1 L5) (A2 fr 3) h'/\Tm.sizes L5+Ik (l.drop i)<=Ik l) ?_ l.length h ⟨0,[],by omega,h4,rfl,by rw[h3];exact Fk _ _,by simp[Tm.sizes]⟩;rintro J Φ hJ hΦ n E4 ⟨bx,fams⟩ K ⟨i,L5,hi,k4,hb,hg,hs⟩;rw[hh]at hb;simp only at hb;subst hb;have A6:=K.1.trans hl;have k1:=B8 K 1 h1;have hal:=Tm.length_le L5;by_cases A9:i<l.length
 .have hx:=E5 (f:=Q2) (zf0z A9);have hw:=C9 i (by omega);rw[zf1z A9]at hs;simp only[Ik]at hs;generalize l[i]=f at *
  obtain⟨r,nm,t,ln⟩:=f;simp only at hs;obtain⟨v',h',ha,Ch,JU⟩:=Eb (c:=B9 W9) (bytes:=56) (x:=I1 t) hg rfl (true,true) (by simp;omega) (by simp;omega);have hts:=t.size_pos;obtain⟨tk,tn,ts,tm,tl⟩:=t;have hg2:EY 4 (D1 (L5++[.mk tk tn ts tm tl])) v' h':=by rw[Il];exact Ch
  simp only[Q2,I1,FO,zf5z,zf7z]at hx ha;simp[CD,A6,k1,k4,A9,hx,hw,B5,ha];exact H0 hJ ⟨i+1,L5++[.mk tk tn ts tm tl],by omega,by simp[A6],by rw[JU,hh],by simp[A6];exact hg2,by rw[Tm.sizes_append];simp only[Tm.sizes];omega⟩
 .rw[zf2z (by omega)]at hs;simp only[Ik]at hs;simp[CD,A6,k1,k4,A9];exact hΦ _ _ _ ⟨hh.symm,rfl,L5,by simp[A6];exact hg,by omega⟩
theorem Ru (m:U8) (l:List Gol) (C4:l.length<=1099511627776) (acc0:Hg) (L4:Tm.sizes acc0+KY l<=1099511627776) (b0 b1 b2 b3 b4:AV)
  (fr:Fr) (h:AH) (hh:h.boxes=[[b0,b1,b2,b3,b4,sl m 5 (l.map Be)]]) (hl:fr.length=54) (h1:A2 fr 1=.ptr 0 0) (h3:EY 4 (D1 acc0) (A2 fr 3) h) (h5:A2 fr 5=.int .i64 0) :
  C3 (lp (A4 (N5 Q) (B9 W9) CC) (fr,h)) λe fr' h'=>Kp CC.wr fr fr'/\e=.exit 2/\∃L5:List Tm,EY 4 (D1 L5) (A2 fr' 3) h'/\Tm.sizes L5<=1099511627776:=by
 refine C1 rfl fr (λn fr h'=>∃(i:Nat) (L5:List Tm),i+n=l.length/\A2 fr 5=.int .i64 (i:Nat)/\h'.boxes=h.boxes/\EY 4 (D1 L5) (A2 fr 3) h'/\Tm.sizes L5+KY (l.drop i)<=1099511627776) ?_ l.length h ⟨0,acc0,by omega,h5,rfl,h3,L4⟩;rintro J Φ hJ hΦ n E4 ⟨bx,fams⟩ K ⟨i,L5,hi,k5,hb,hg,hs⟩;rw[hh]at hb;simp only at hb;subst hb;have A6:=K.1.trans hl;have k1:=B8 K 1 h1;have hal:=Tm.length_le L5;by_cases A9:i<l.length
 .have hx:=E5 (f:=Be) (zf0z A9);have hw:=C9 i (by omega);rw[zf1z A9]at hs;simp only[KY]at hs;generalize l[i]=g at *
  have Gr:=Tm.length_le g.data;obtain⟨v',h',ha,Ch,JU⟩:=Nb (c:=B9 W9) (bytes:=56) (x:=sl g.dm 4 (D1 g.data)) (ys:=D1 g.data) hg rfl (Ad _ _ _ _) (by simp[I0,maxLen];omega);have hg2:EY 4 (D1 (L5++g.data)) v' h':=by rw[RI];exact Ch
  simp only[Be]at hx;simp[CC,A6,k1,k5,A9,hx,hw,ha];exact H0 hJ ⟨i+1,L5++g.data,by omega,by simp[A6],by rw[JU,hh],by simp[A6];exact hg2,by rw[Tm.sizes_append];omega⟩
 .rw[zf2z (by omega)]at hs;simp only[KY]at hs;simp[CC,A6,k1,k5,A9];exact hΦ _ _ _ ⟨rfl,L5,by simp[A6];exact hg,by omega⟩
theorem Xe (h:AH) {L5:Hg} {v:AV} (hg:EY 4 (D1 L5) v h) (hs:Tm.sizes L5<=1099511627776) (a b:Int) (hb:b<=9223372036854775807):∃u r,frz h true v=some u/\pc Q EQ [u,.int .i64 a,.int .i64 b]=some (.bool r):=by
 obtain⟨m,hm⟩:=Nc hg;exact⟨_,_,hm,kD m L5 a b hs hb⟩
theorem gL (n:Nar) (F:Fine n) (hS:Ik n.steps+KY n.goals<=1099511627776):∃b,pc Q AZ [D2 n]=some (.bool b):=by
 suffices h:∃r,pc Q AZ [D2 n]=some r/\∃b,r=.bool b by
  obtain⟨r,h1,b,rfl⟩:=h;exact⟨b,h1⟩
 have l1:=F.stepsL;have l2:=F.goalsL;clear F;obtain⟨name,rm,roles,fm,fresh,tm,tags,sm,steps,gm,goals⟩:=n;simp only at hS l1 l2;refine Ka Bn λΨ hΨ fr hl h0=>?_;simp[Bn,D2]at hl h0;by_cases c1:(16:Int)<(roles.length:Int)
 .simp[Bn,hl,h0,A7 c1];exact hΨ _ ⟨_,rfl⟩
 by_cases c2:(16:Int)<(fresh.length:Int)
 .simp[Bn,hl,h0,A0 c1,A7 c2];exact hΨ _ ⟨_,rfl⟩
 by_cases c3:(16:Int)<(tags.length:Int)
 .simp[Bn,hl,h0,A0 c1,A0 c2,A7 c3];exact hΨ _ ⟨_,rfl⟩
 by_cases c4:(16:Int)<(steps.length:Int)
 .simp[Bn,hl,h0,A0 c1,A0 c2,A0 c3,A7 c4];exact hΨ _ ⟨_,rfl⟩
 by_cases c5:(16:Int)<(goals.length:Int)
 .simp[Bn,hl,h0,A0 c1,A0 c2,A0 c3,A0 c4,A7 c5];exact hΨ _ ⟨_,rfl⟩
 simp[Bn,hl,h0,A0 c1,A0 c2,A0 c3,A0 c4,A0 c5];refine C3.mono (WK sm steps l1 (by omega) _ _ _ _ _ _ _ rfl ?_ ?_ ?_ ?_) ?_<;>first|(simp[hl];done)|skip
 rintro e E4 ⟨bx,fams⟩ ⟨K,hb,rfl,L5,hg,hs⟩;simp only at hb;subst hb;have A6:E4.length=67:=K.1.trans (by simp[hl]);have k1:A2 E4 1=.ptr 0 0:=B8 K 1 (by simp[hl]);clear K;simp[A6];refine C3.mono (WJ gm goals l2 L5 (by omega) _ _ _ _ _ _ _ rfl ?_ ?_ ?_ ?_) ?_<;>first|(simp[A6,k1];done)|skip
 .simp[A6];exact hg
 rintro e T9 h2 ⟨K,rfl,L5,hg,hs⟩;have FN:T9.length=67:=K.1.trans (by simp[A6]);obtain⟨u,r,hu,hp⟩:=Xe h2 hg hs 100 900 (by omega);simp[FN,hu,hp];exact hΨ _ ⟨_,rfl⟩
theorem dL (n:Nar) (F:Fine n) (hS:Ik n.steps+KY n.goals<=1099511627776):∃b,pc Q W9 [D2 n]=some (.bool b):=by
 suffices h:∃r,pc Q W9 [D2 n]=some r/\∃b,r=.bool b by
  obtain⟨r,h1,b,rfl⟩:=h;exact⟨b,h1⟩
 obtain⟨bf,hF⟩:=gL n F hS;have l1:=F.stepsL;have l2:=F.goalsL;clear F;obtain⟨name,rm,roles,fm,fresh,tm,tags,sm,steps,gm,goals⟩:=n;simp only at hS l1 l2;refine Ka CP λΨ hΨ fr hl h0=>?_;simp[CP,D2]at hl h0 hF;cases bf with
 |false =>
  simp[CP,hl,h0,hF];exact hΨ _ ⟨_,rfl⟩
 |true =>
  by_cases c4:(5:Int)<(steps.length:Int)
  .simp[CP,hl,h0,hF,A7 c4];exact hΨ _ ⟨_,rfl⟩
  by_cases c5:(5:Int)<(goals.length:Int)
  .simp[CP,hl,h0,hF,A0 c4,A7 c5];exact hΨ _ ⟨_,rfl⟩
  simp[CP,hl,h0,hF,A0 c4,A0 c5];refine C3.mono (Rv sm steps l1 (by omega) _ _ _ _ _ _ _ rfl ?_ ?_ ?_ ?_) ?_<;>first|(simp[hl];done)|skip
  rintro e E4 ⟨bx,fams⟩ ⟨K,hb,rfl,L5,hg,hs⟩;simp only at hb;subst hb;have A6:E4.length=54:=K.1.trans (by simp[hl]);have k1:A2 E4 1=.ptr 0 0:=B8 K 1 (by simp[hl]);clear K;simp[A6];refine C3.mono (Ru gm goals l2 L5 (by omega) _ _ _ _ _ _ _ rfl ?_ ?_ ?_ ?_) ?_<;>first|(simp[A6,k1];done)|skip
  .simp[A6];exact hg
  rintro e T9 h2 ⟨K,rfl,L5,hg,hs⟩;have FN:T9.length=54:=K.1.trans (by simp[A6]);obtain⟨u,r,hu,hp⟩:=Xe h2 hg hs 25 60 (by omega);simp[FN,hu,hp];exact hΨ _ ⟨_,rfl⟩
@[simp] theorem rF (h:AH) (am:Bool) (ks vs:C6):AS h am (.vm ks vs)=some (.vm ks vs):=_root_.id rfl
@[simp] theorem sd (h:AH) (am:Bool) (ks vs:C6):frz h am (.vm ks vs)=some (.vm ks vs):=_root_.id rfl
@[simp] theorem qZ (h:AH) (ks vs:C6):DQ h (.vm ks vs)=true:=_root_.id rfl
@[simp] theorem oo (ks vs:C6):(AV.vm ks vs).isTup=false:=_root_.id rfl
@[simp] theorem mu (ks vs:C6):(AV.vm ks vs).cells=[.vm ks vs]:=_root_.id rfl
@[simp] theorem ol (b:Nat):(AV.mp b).isTup=false:=_root_.id rfl
@[simp] theorem mt (b:Nat):(AV.mp b).cells=[.mp b]:=_root_.id rfl
theorem QU (a b:R7):TW true (.str a) (.str b)=some (V4 a b):=by
 have:(a == b)=V4 a b:=by
  rw[Bool.eq_iff_iff,Rb];obtain⟨a⟩:=a;obtain⟨b⟩:=b;show (a == b)=true↔_;rw[beq_iff_eq,ByteArray.mk.injEq]
 simp[TW,this]
theorem Kv (a:R7):∀(l:List ByteArray) (i:Nat),l.any (V4 a)=true->Kf true (.str a) (l.map AV.str) i=some (some (j9 (V4 a) i l).toNat)
 | [],i,h=>by cases h
 |b::l,i,h=>by
  simp only[zg2z,Kf,QU,j9];cases hb:V4 a b with
  |true=>simp
  |false =>
   rw[zg1z,hb,Bool.false_or]at h;simp only[Kv a l (i+1) h];simp
theorem Iu (a:R7):∀(l:List ByteArray) (i:Nat),l.any (V4 a)=false->Kf true (.str a) (l.map AV.str) i=some none
 | [],i,_=>rfl
 |b::l,i,h=>by
  rw[zg1z,Bool.or_eq_false_iff]at h;simp only[zg2z,Kf,QU,h.1];exact Iu a l (i+1) h.2
theorem WP (m:U8) (l:List ByteArray) (x:R7) (C4:l.length<=1099511627776) (fr:Fr) (h:AH) (hl:fr.length=19)
  (h0:A2 fr 0=sl m 1 (l.map AV.str)) (h1:A2 fr 1=.str x) (h5:A2 fr 5=.int .i64 0) :
  C3 (lp (A4 (N5 Q) (B9 K0) AG) (fr,h)) λe fr' h'=>Kp AG.wr fr fr'/\(e=.exit 0/\idx (V4 x) l=-1\/e=.ret/\A2 fr' 4=.int .i64 (idx (V4 x) l)):=by
 refine C1 rfl fr (λn fr h=>∃i,i+n=l.length/\A2 fr 5=.int .i64 (i:Nat)/\j9 (V4 x) i (l.drop i)=idx (V4 x) l) ?_ l.length h ⟨0,by omega,h5,rfl⟩;rintro J Φ hJ hΦ n E4 X7 K ⟨i,hi,k5,hr⟩;have A6:=K.1.trans hl;have k0:=B8 K 0 h0;have k1:=B8 K 1 h1;by_cases A9:i<l.length
 .have hx:=E5 (f:=AV.str) (zf0z A9);have hw:=C9 i (by omega);rw[zf1z A9]at hr;simp only[j9,V4,decide_eq_true_eq]at hr;generalize l[i]=a at *
  by_cases hc:x.toList=a.toList
  .rw[if_pos hc]at hr;simp[AG,A6,k0,k1,k5,A9,hx,hw,hc];exact hΦ _ _ _ (.inr ⟨rfl,by simp[A6];exact hr⟩)
  .have hc':¬a.toList=x.toList:=λe=>hc e.symm;rw[if_neg hc]at hr;simp[AG,A6,k0,k1,k5,A9,hx,hw,hc'];exact H0 hJ ⟨i+1,by omega,by simp[A6],hr⟩
 .rw[zf2z (by omega)]at hr;simp[AG,A6,k0,k5,A9];exact hΦ _ _ _ (.inl ⟨rfl,hr.symm⟩)
theorem dK (m:U8) (l:List ByteArray) (x:R7) (C4:l.length<=1099511627776):pc Q K0 [EV m l,.str x]=some (.int .i64 (idx (V4 x) l)):=by
 refine Fe IN λfr hl h0 h1=>?_;simp[IN,EV]at hl h0 h1;simp[IN,hl];refine(WP m l x C4 _ _ (by simp[hl]) (by simp[hl,h0]) (by simp[hl,h1]) (by simp[hl])).mono ?_;rintro e fr' h' ⟨K,⟨rfl,he⟩|⟨rfl,h4⟩⟩
 .have hl':fr'.length=19:=K.1.trans (by simp[hl]);simp[hl',he]
 .simp[h4]
def B4 (n:Nar):List ByteArray:=n.roles++n.fresh.map Fre.name++n.tags
def J7 (n:Nar):List Int:=n.roles.map (λ_=>1)++n.fresh.map Fre.sort++n.tags.map (λ_=>5)
def Pf (a b:List AV) (v w:AV) (h:AH):Prop:=(a=[]/\v=.vs true 0 []/\b=[]/\w=.vs true 0 [])\/(a≠[]/\b≠[]/\∃j k,j≠k/\v=.sl j a.length 0 a.length/\h.fams[j]?=some ⟨a,1,false⟩/\w=.sl k b.length 0 b.length/\h.fams[k]?=some ⟨b,1,false⟩)
theorem RQ {c:Ctx} {a b:C6} {v w x y:AV} {h:AH} (hg:Pf a b v w h) (hm:c.mutApp=false) (m m':U8) (p q:Nat) (hp:p<=16) (hq:q<=16) (ha:a.length<=1099511627776) (hb:b.length<=1099511627776) :
  ∃v' h1 w' h2,N7 c h 1 p v (sl m 1 [x])=some (v',h1)/\N7 c h1 1 q w (sl m' 1 [y])=some (w',h2)/\Pf (a++[x]) (b++[y]) v' w' h2/\h1.boxes=h.boxes/\h2.boxes=h.boxes:=by
 have r0:(1:Nat)*p<=I0/\1<=maxLen:=by simp only[I0,maxLen];omega
 have r1:(1:Nat)*q<=I0/\1<=maxLen:=by simp only[I0,maxLen];omega
 have ra:(a.length+1)*p<=I0/\a.length+1<=maxLen:=by
  simp only[I0,maxLen];have:=zg3z (a.length+1) hp;omega
 have rb:(b.length+1)*q<=I0/\b.length+1<=maxLen:=by
  simp only[I0,maxLen];have:=zg3z (b.length+1) hq;omega
 rcases hg with ⟨rfl,rfl,rfl,rfl⟩|⟨hna,hnb,j,k,hjk,rfl,hj,rfl,hk⟩
 .refine⟨.sl h.fams.length 1 0 1,⟨h.boxes,h.fams++[⟨[x],1,false⟩]⟩,.sl (h.fams.length+1) 1 0 1,⟨h.boxes,h.fams++[⟨[x],1,false⟩]++[⟨[y],1,false⟩]⟩,?_,?_,?_,rfl,rfl⟩
  .rw[LO,Ad,zf3z,if_neg (by simp),zf4z,if_pos r0,hm]
  .rw[LO,Ad,zf3z,if_neg (by simp),zf4z,if_pos r1,hm];simp
  .refine .inr ⟨by simp,by simp,h.fams.length,h.fams.length+1,by omega,by simp,by simp,by simp,by simp⟩
 .have hj':=Q6 hj;have Bz:=Q6 hk;refine⟨.sl j (a.length+1) 0 (a.length+1),⟨h.boxes,h.fams.set j ⟨a++[x],1,false⟩⟩,.sl k (b.length+1) 0 (b.length+1),⟨h.boxes,(h.fams.set j ⟨a++[x],1,false⟩).set k ⟨b++[y],1,false⟩⟩,?_,?_,?_,rfl,rfl⟩
  .rw[Jd,Ad,zf3z,hj,zf3z,zf4z,if_pos ⟨rfl,rfl,by omega,ra⟩]
  .rw[Jd,Ad,zf3z];simp only;rw[zg0z hjk,hk,zf3z,zf4z,if_pos ⟨rfl,rfl,by omega,rb⟩]
  .refine .inr ⟨by simp,by simp,j,k,hjk,by simp,?_,by simp,?_⟩
   .simp only;rw[zg0z (λe=>hjk e.symm),zf9z hj']
   .simp only;rw[zf9z (by simpa using Bz)]
theorem fG {a b:C6} {v w:AV} {h:AH} (hg:Pf a b v w h):∃m m',frz h true v=some (sl m 1 a)/\frz h true w=some (sl m' 1 b):=by
 rcases hg with ⟨rfl,rfl,rfl,rfl⟩|⟨hna,hnb,j,k,hjk,rfl,hj,rfl,hk⟩
 .exact⟨(true,false),(true,false),Rj _ _,Rj _ _⟩
 .refine⟨(false,true),(false,true),?_,?_⟩
  .rw[Jo,EM,hj,zf3z,if_pos ⟨rfl,by omega,rfl⟩];simp
  .rw[Jo,EM,hk,zf3z,if_pos ⟨rfl,by omega,rfl⟩];simp
theorem UE (m:U8) (l:List ByteArray) (C4:l.length<=1099511627776) (b0 b2 b3 b4 b5:AV) (fr:Fr) (h:AH) (hh:h.boxes=[[b0,sl m 1 (l.map AV.str),b2,b3,b4,b5]]) (hl:fr.length=72) (h1:A2 fr 1=.ptr 0 0)
  (h4:A2 fr 4=.vs true 0 []) (h5:A2 fr 5=.vs true 0 []) (h6:A2 fr 6=.int .i64 0) :
  C3 (lp (A4 (N5 Q) (B9 O6) CH) (fr,h)) λe fr' h'=>Kp CH.wr fr fr'/\e=.exit 0/\h'.boxes=h.boxes/\Pf (l.map AV.str) ((l.map λ_=>(1:Int)).map (AV.int .i64)) (A2 fr' 4) (A2 fr' 5) h':=by
 refine C1 rfl fr (λn fr h'=>∃i,i+n=l.length/\A2 fr 6=.int .i64 (i:Nat)/\h'.boxes=h.boxes/\Pf ((l.take i).map AV.str) (((l.take i).map λ_=>(1:Int)).map (AV.int .i64)) (A2 fr 4) (A2 fr 5) h') ?_ l.length h ⟨0,by omega,h6,rfl,.inl ⟨rfl,h4,rfl,h5⟩⟩;rintro J Φ hJ hΦ n E4 ⟨bx,fams⟩ K ⟨i,hi,k6,hb,hg⟩;rw[hh]at hb;simp only at hb;subst hb;have A6:=K.1.trans hl;have k1:=B8 K 1 h1;by_cases A9:i<l.length
 .have hx:=E5 (f:=AV.str) (zf0z A9);have hw:=C9 i (by omega);obtain⟨v',X7,w',h2',ha1,ha2,Ch,hb1,hb2⟩:=RQ (c:=B9 O6) (x:=.str l[i]) (y:=.int .i64 1) hg rfl (true,true) (true,true) 16 8 (by omega) (by omega) (by simp;omega) (by simp;omega);have hg2:Pf ((l.take (i+1)).map AV.str) (((l.take (i+1)).map λ_=>(1:Int)).map (AV.int .i64)) v' w' h2':=by
   rw[List.take_succ_eq_append_getElem A9,zf8z,zf8z,zf8z];exact Ch
  have tw:∀F:Fr,A2 F 4=v'->A2 F 5=w'->Pf ((l.take (i+1)).map AV.str) (((l.take (i+1)).map λ_=>(1:Int)).map (AV.int .i64)) (A2 F 4) (A2 F 5) h2':=λF e4 e5=>by rw[e4,e5];exact hg2
  generalize l[i]=a at *
  simp[CH,A6,k1,k6,A9,hx,hw,B5,ha1,ha2];exact H0 hJ ⟨i+1,by omega,by simp[A6],by rw[hb2,hh],tw _ (by simp[A6]) (by simp[A6])⟩
 .have e:l.take i=l:=List.take_of_length_le (by omega);rw[e]at hg;have tw:∀F:Fr,A2 F 4=A2 E4 4->A2 F 5=A2 E4 5->Pf (l.map AV.str) ((l.map λ_=>(1:Int)).map (AV.int .i64)) (A2 F 4) (A2 F 5) _:=λF e4 e5=>by rw[e4,e5];exact hg
  simp[CH,A6,k1,k6,A9];exact hΦ _ _ _ ⟨rfl,by rw[hh],tw _ (by simp[A6]) (by simp[A6])⟩
end Go.Abs.Q
