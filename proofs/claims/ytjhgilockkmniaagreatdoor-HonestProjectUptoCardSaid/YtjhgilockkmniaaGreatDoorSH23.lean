/- A part of the proof. -/
import Derived.Test.YtjhgilockkmniaaGreatDoorSH22
set_option linter.all false
open List renaming getElem?_eq_getElem->zf0z,drop_eq_getElem_cons->zf1z,drop_eq_nil_of_le->zf2z,length_singleton->zf4z,cons_append->zf5z,getElem_mem->zf6z,nil_append->zf7z,map_append->zf8z,getElem?_set_self->zf9z,getElem?_set_ne->zg0z,any_cons->zg1z,map_cons->zg2z
open Option renaming bind_some->zf3z
open Nat renaming mul_le_mul_left->zg3z
namespace Go.Abs.Q
open Go.Proofs
attribute [local simp] D3 D6 fin H4 G2
theorem Vx (m:W8) (l:List Ste) (hs:∀s∈l,s.frm.size<=1099511627776/\s.to.size<=1099511627776/\s.msg.size<=1099511627776) (C4:l.length<=1099511627776) (B:C6)
  (fr:Fr) (h:AH) (hh:h=⟨[B],[]⟩) (hl:fr.length=50) (h16:A2 fr 16=sl m 7 (l.map P3)) (h17:A2 fr 17=.int .i64 l.length) (h18:A2 fr 18=.int .i64 0) :
  C3 (lp (A4 (M3 Q) (B8 Av) R3) (fr,h)) λe fr' h'=>Kp R3.wr fr fr'/\(∃bx,h'=⟨B::bx,[]⟩)/\(e=.exit 0/\B9 FA l=0\/e=.ret/\A2 fr' 2=.int .i64 (B9 FA l)/\B9 FA l≠0):=by
 refine C1 rfl fr (λn fr h'=>∃(i:Nat),i+n=l.length/\A2 fr 18=.int .i64 (i:Nat)/\(∃bx,h'=⟨B::bx,[]⟩)/\B9 FA (l.drop i)=B9 FA l) ?_ l.length h ⟨0,by omega,h18,⟨[],hh⟩,rfl⟩;rintro J Φ hJ hΦ n E3 U1 K ⟨i,hi,k18,⟨bx,rfl⟩,hr⟩;have A6:=K.1.trans hl;have k16:=C0 K 16 h16;have k17:=C0 K 17 h17;by_cases A9:i<l.length
 .have hx:=D5 (f:=P3) (zf0z A9);have hw:=C8 i (by omega);obtain⟨s1,s2,s3⟩:=hs _ (zf6z A9);have hR:=IY l[i].frm s1;have hN:=IY l[i].to s2;have hM:=Oj l[i].msg s3;rw[zf1z A9]at hr;simp only[B9]at hr;generalize l[i]=f at *
  have hfe:FA f=if K4 f.frm=false\/K4 f.to=false then 2 else DT f.msg:=rfl
  generalize FA f=e at *
  obtain⟨r,nm,t,ln⟩:=f;simp only at *
  generalize K4 r=rb at *
  generalize K4 nm=nb at *
  generalize DT t=me at *
  obtain⟨tk,tn,ts,tm,tl⟩:=t;simp only[P3,H2,FC,zf5z,zf7z]at hx hM;generalize B9 FA l=tot at *
  have fin2:e≠0->e=tot:=λq=>by rw[if_pos q]at hr;exact hr
  cases rb with
  |false =>
   rw[if_pos (.inl rfl)]at hfe;have:=fin2 (by omega);simp[R3,A6,k16,k17,k18,A9,hx,hw,hR];exact hΦ _ _ _ ⟨⟨_,rfl⟩,.inr ⟨rfl,by simp[A6];omega,by omega⟩⟩
  |true =>
   cases nb with
   |false =>
    rw[if_pos (.inr rfl)]at hfe;have:=fin2 (by omega);simp[R3,A6,k16,k17,k18,A9,hx,hw,hR,hN];exact hΦ _ _ _ ⟨⟨_,rfl⟩,.inr ⟨rfl,by simp[A6];omega,by omega⟩⟩
   |true =>
    rw[if_neg (by simp)]at hfe;by_cases hz:me=0
    .rw[if_neg (by simp[hfe,hz])]at hr;simp[R3,A6,k16,k17,k18,A9,hx,hw,hR,hN,hM,hz];exact F7 hJ ⟨i+1,by omega,by simp[A6],⟨_,rfl⟩,hr⟩
    .have:=fin2 (by omega);simp[R3,A6,k16,k17,k18,A9,hx,hw,hR,hN,hM,hz];exact hΦ _ _ _ ⟨⟨_,rfl⟩,.inr ⟨rfl,by simp[A6];omega,by omega⟩⟩
 .rw[zf2z (by omega)]at hr;simp[R3,A6,k16,k17,k18,A9];exact hΦ _ _ _ ⟨⟨_,rfl⟩,.inl ⟨rfl,hr.symm⟩⟩
theorem Vm (m:W8) (l:List Gol) (hs:∀g∈l,g.role.size<=1099511627776/\g.wth.size<=1099511627776/\Tm.sizes g.data<=1099511627776) (C4:l.length<=1099511627776)
  (fr:Fr) (h:AH) (hl:fr.length=50) (h16:A2 fr 38=sl m 5 (l.map Bz)) (h17:A2 fr 39=.int .i64 l.length) (h18:A2 fr 40=.int .i64 0) :
  C3 (lp (A4 (M3 Q) (B8 Av) n5) (fr,h)) λe fr' h'=>Kp n5.wr fr fr'/\(e=.exit 2/\B9 GY l=0\/e=.ret/\A2 fr' 2=.int .i64 (B9 GY l)):=by
 refine C1 rfl fr (λn fr h'=>∃(i:Nat),i+n=l.length/\A2 fr 40=.int .i64 (i:Nat)/\B9 GY (l.drop i)=B9 GY l) ?_ l.length h ⟨0,by omega,h18,rfl⟩;rintro J Φ hJ hΦ n E3 U1 K ⟨i,hi,k18,hr⟩;have A6:=K.1.trans hl;have k16:=C0 K 38 h16;have k17:=C0 K 39 h17;by_cases A9:i<l.length
 .have hx:=D5 (f:=Bz) (zf0z A9);have hw:=C8 i (by omega);obtain⟨s1,s2,s3⟩:=hs _ (zf6z A9);have hM:=WN l[i] s1 s2 s3;rw[zf1z A9]at hr;simp only[B9]at hr;generalize l[i]=f at *
  generalize GY f=e at *
  simp only[Bz]at hx hM;by_cases hz:e=0
  .rw[if_neg (by simp[hz])]at hr;simp[n5,A6,k16,k17,k18,A9,hx,hw,hM,hz];exact F7 hJ ⟨i+1,by omega,by simp[A6],hr⟩
  .rw[if_pos hz]at hr;simp[n5,A6,k16,k17,k18,A9,hx,hw,hM,hz];exact hΦ _ _ _ (.inr ⟨rfl,by simp[A6,hr]⟩)
 .rw[zf2z (by omega)]at hr;simp[n5,A6,k16,k17,k18,A9];exact hΦ _ _ _ (.inl ⟨rfl,hr.symm⟩)
theorem UD (n:Nar) (F:Fine n):pc Q Av [D1 n]=some (.int .i64 (JN n)):=by
 have hH:=fX n F;have hS:=Vx n.sm n.steps F.steps F.stepsL;have hG:=Vm n.gm n.goals F.goals F.goalsL;refine BN Ew λfr hl h0=>?_;have hv:JN n=if GP n≠0 then GP n else if B9 FA n.steps≠0 then B9 FA n.steps else B9 GY n.goals:=rfl
 generalize JN n=v at *
 generalize GP n=q at *
 clear F;obtain⟨name,rm,roles,fm,fresh,tm,tags,sm,steps,gm,goals⟩:=n;simp only[D1]at *
 generalize B9 FA steps=se at *
 generalize B9 GY goals=ge at *
 simp[Ew]at hl h0;by_cases hq:q=0
 .subst hq;rw[if_neg (by simp)]at hv;simp[Ew,hl,h0,hH];refine C3.mono (hS _ _ _ rfl ?_ ?_ ?_ ?_) ?_<;>first|(simp[hl];done)|skip
  rintro e E3 h1 ⟨K,⟨bx,rfl⟩,⟨rfl,hz⟩|⟨rfl,k2,hz⟩⟩
  .have A6:E3.length=50:=K.1.trans (by simp[hl]);have k1:A2 E3 1=.ptr 0 0:=C0 K 1 (by simp[hl]);rw[if_neg (by omega)]at hv;clear K;simp[A6,k1];refine C3.mono (hG _ _ ?_ ?_ ?_ ?_) ?_<;>first|(simp[A6];done)|skip
   rintro e X2 h2 ⟨K,⟨rfl,hz⟩|⟨rfl,k2⟩⟩
   .have If:X2.length=50:=K.1.trans (by simp[A6]);simp[If,hv,hz]
   .simp[k2,hv]
  .rw[if_pos hz]at hv;simp[k2,hv]
 .rw[if_pos hq]at hv;subst hv;simp[Ew,hl,h0,hH,hq]
theorem WK (n:Nar):pc Q Dg [D1 n]=some (.int .i64 (Jk n)):=by
 refine BN N6 λfr hl h0=>?_;have hq:Jk n=if n.roles.length<2 then 8 else if 4<n.roles.length\/12<n.fresh.length\/8<n.tags.length then 3 else if n.steps.length=0 then 8 else if 8<n.steps.length\/8<n.goals.length then 3 else 0:=rfl
 generalize Jk n=q at *
 obtain⟨name,rm,roles,fm,fresh,tm,tags,sm,steps,gm,goals⟩:=n;simp only[D1]at *
 simp[N6]at hl h0;by_cases c1:(roles.length:Int)<2
 .rw[if_pos (by omega)]at hq;subst hq;simp[N6,hl,h0,A7 c1]
 rw[if_neg (by omega)]at hq;by_cases c2:(4:Int)<(roles.length:Int)
 .rw[if_pos (.inl (by omega))]at hq;subst hq;simp[N6,hl,h0,A0 c1,A7 c2]
 by_cases c3:(12:Int)<(fresh.length:Int)
 .rw[if_pos (.inr (.inl (by omega)))]at hq;subst hq;simp[N6,hl,h0,A0 c1,A0 c2,A7 c3]
 by_cases c4:(8:Int)<(tags.length:Int)
 .rw[if_pos (.inr (.inr (by omega)))]at hq;subst hq;simp[N6,hl,h0,A0 c1,A0 c2,A0 c3,A7 c4]
 rw[if_neg (by omega)]at hq;by_cases c5:(steps.length:Int)=0
 .rw[if_pos (by omega)]at hq;subst hq;have c5':steps=[]:=List.eq_nil_of_length_eq_zero (by omega);subst c5';simp[N6,hl,h0,A0 c1,A0 c2,A0 c3,A0 c4]
 rw[if_neg (by omega)]at hq;have c5n:¬steps=[]:=λe=>c5 (by rw[e];rfl);by_cases c6:(8:Int)<(steps.length:Int)
 .rw[if_pos (.inl (by omega))]at hq;subst hq;simp[N6,hl,h0,A0 c1,A0 c2,A0 c3,A0 c4,c5n,A7 c6]
 by_cases c7:(8:Int)<(goals.length:Int)
 .rw[if_pos (.inr (by omega))]at hq;subst hq;simp[N6,hl,h0,A0 c1,A0 c2,A0 c3,A0 c4,c5n,A0 c6,A7 c7]
 rw[if_neg (by omega)]at hq;subst hq;simp[N6,hl,h0,A0 c1,A0 c2,A0 c3,A0 c4,c5n,A0 c6,A0 c7]
theorem Qc (a b:Q1):pc Q V9 [sl (true,true) 1 [.str a,.str b]]=some (.bool (K4 a&&K4 b)):=by
 have h:=Ol (true,true) [a,b] (by simp);simp only[EL,zg2z,List.map_nil,zg1z,List.any_nil,Eo,Bool.or_false,Bool.not_or,Bool.not_not]at h;exact h
theorem UU (m:W8) (l:List Fre) (C4:l.length<=1099511627776) (b0 b1 b3 b4 b5:AV)
  (fr:Fr) (h:AH) (hh:h=⟨[[b0,b1,sl m 3 (l.map Hp),b3,b4,b5]],[]⟩) (hl:fr.length=107) (h1:A2 fr 1=.ptr 0 0) (h4:A2 fr 4=.int .i64 0) :
  C3 (lp (A4 (M3 Q) (B8 Ad) P9) (fr,h)) λe fr' h'=>Kp P9.wr fr fr'/\(∃bx,h'=⟨[b0,b1,sl m 3 (l.map Hp),b3,b4,b5]::bx,[]⟩)/\(e=.exit 0/\B9 GW l=0\/e=.ret/\A2 fr' 2=.int .i64 (B9 GW l)/\B9 GW l≠0):=by
 refine C1 rfl fr (λn fr h'=>∃(i:Nat),i+n=l.length/\A2 fr 4=.int .i64 (i:Nat)/\(∃bx,h'=⟨[b0,b1,sl m 3 (l.map Hp),b3,b4,b5]::bx,[]⟩)/\B9 GW (l.drop i)=B9 GW l) ?_ l.length h ⟨0,by omega,h4,⟨[],hh⟩,rfl⟩;rintro J Φ hJ hΦ n E3 U1 K ⟨i,hi,k4,⟨bx,rfl⟩,hr⟩;have A6:=K.1.trans hl;have k1:=C0 K 1 h1;by_cases A9:i<l.length
 .have hx:=D5 (f:=Hp) (zf0z A9);have hw:=C8 i (by omega);have hN:=Qc l[i].role l[i].name;rw[zf1z A9]at hr;simp only[B9]at hr;generalize l[i]=f at *
  have hfe:GW f=if K4 f.role=false\/K4 f.name=false then 2 else if f.sort<2\/4<f.sort then 10 else 0:=rfl
  generalize GW f=e at *
  obtain⟨r,nm,so⟩:=f;simp only[Hp]at *
  have hrb:(K4 r&&K4 nm)=false↔(K4 r=false\/K4 nm=false):=by cases K4 r<;>cases K4 nm<;>decide
  generalize K4 r=rb at *
  generalize K4 nm=nb at *
  generalize (rb&&nb)=ab at *
  generalize B9 GW l=tot at *
  have fin2:e≠0->e=tot:=λq=>by rw[if_pos q]at hr;exact hr
  cases ab with
  |false =>
   rw[if_pos (hrb.1 rfl)]at hfe;have:=fin2 (by omega);simp[P9,A6,k1,k4,A9,hx,hw,B4,hN];exact hΦ _ _ _ ⟨⟨_,rfl⟩,.inr ⟨rfl,by simp[A6];omega,by omega⟩⟩
  |true =>
   rw[if_neg (λq=>by simpa using hrb.2 q)]at hfe;by_cases c1:so=2
   .rw[if_neg (by omega)]at hfe;rw[if_neg (by simp[hfe])]at hr;simp[P9,A6,k1,k4,A9,hx,hw,B4,hN,A7 c1];exact F7 hJ ⟨i+1,by omega,by simp[A6],⟨_,rfl⟩,hr⟩
   .by_cases c2:so=3
    .rw[if_neg (by omega)]at hfe;rw[if_neg (by simp[hfe])]at hr;simp[P9,A6,k1,k4,A9,hx,hw,B4,hN,A0 c1,A7 c2];exact F7 hJ ⟨i+1,by omega,by simp[A6],⟨_,rfl⟩,hr⟩
    .by_cases c3:so=4
     .rw[if_neg (by omega)]at hfe;rw[if_neg (by simp[hfe])]at hr;simp[P9,A6,k1,k4,A9,hx,hw,B4,hN,A0 c1,A0 c2,A7 c3];exact F7 hJ ⟨i+1,by omega,by simp[A6],⟨_,rfl⟩,hr⟩
     .rw[if_pos (by omega)]at hfe;have:=fin2 (by omega);simp[P9,A6,k1,k4,A9,hx,hw,B4,hN,A0 c1,A0 c2,A0 c3];exact hΦ _ _ _ ⟨⟨_,rfl⟩,.inr ⟨rfl,by simp[A6];omega,by omega⟩⟩
 .rw[zf2z (by omega)]at hr;simp[P9,A6,k1,k4,A9];exact hΦ _ _ _ ⟨⟨_,rfl⟩,.inl ⟨rfl,hr.symm⟩⟩
theorem UW (m:W8) (l:List Ste) (hs:∀s∈l,s.frm.size<=1099511627776/\s.to.size<=1099511627776/\s.msg.size<=1099511627776) (C4:l.length<=1099511627776) (b0 b1 b2 b3 b5:AV) (bx:List (List AV))
  (fr:Fr) (h:AH) (hh:h=⟨[b0,b1,b2,b3,sl m 7 (l.map P3),b5]::bx,[]⟩) (hl:fr.length=107) (h1:A2 fr 1=.ptr 0 0) (h6:A2 fr 6=.int .i64 0) :
  C3 (lp (A4 (M3 Q) (B8 Ad) a7) (fr,h)) λe fr' h'=>Kp a7.wr fr fr'/\h'=h/\(e=.exit 2/\B9 FA l=0\/e=.ret/\A2 fr' 2=.int .i64 (B9 FA l)/\B9 FA l≠0):=by
 refine C1 rfl fr (λn fr h'=>∃(i:Nat),i+n=l.length/\A2 fr 6=.int .i64 (i:Nat)/\h'=h/\B9 FA (l.drop i)=B9 FA l) ?_ l.length h ⟨0,by omega,h6,rfl,rfl⟩;rintro J Φ hJ hΦ n E3 U1 K ⟨i,hi,k6,rfl,hr⟩;subst hh;have A6:=K.1.trans hl;have k1:=C0 K 1 h1;by_cases A9:i<l.length
 .have hx:=D5 (f:=P3) (zf0z A9);have hw:=C8 i (by omega);obtain⟨s1,s2,s3⟩:=hs _ (zf6z A9);have hN:=Qc l[i].frm l[i].to;have hM:=KZ l[i].msg s3;rw[zf1z A9]at hr;simp only[B9]at hr;generalize l[i]=f at *
  have hfe:FA f=if K4 f.frm=false\/K4 f.to=false then 2 else DT f.msg:=rfl
  generalize FA f=e at *
  obtain⟨r,nm,t,ln⟩:=f;simp only at *
  have hrb:(K4 r&&K4 nm)=false↔(K4 r=false\/K4 nm=false):=by cases K4 r<;>cases K4 nm<;>decide
  generalize K4 r=rb at *
  generalize K4 nm=nb at *
  generalize (rb&&nb)=ab at *
  generalize DT t=me at *
  obtain⟨tk,tn,ts,tm,tl⟩:=t;simp only[P3,H2,FC,zf5z,zf7z]at hx hM;generalize B9 FA l=tot at *
  have fin2:e≠0->e=tot:=λq=>by rw[if_pos q]at hr;exact hr
  cases ab with
  |false =>
   rw[if_pos (hrb.1 rfl)]at hfe;have:=fin2 (by omega);simp[a7,A6,k1,k6,A9,hx,hw,B4,hN];exact hΦ _ _ _ ⟨rfl,.inr ⟨rfl,by simp[A6];omega,by omega⟩⟩
  |true =>
   rw[if_neg (λq=>by simpa using hrb.2 q)]at hfe;by_cases hz:me=0
   .rw[if_neg (by simp[hfe,hz])]at hr;simp[a7,A6,k1,k6,A9,hx,hw,B4,hN,hM,hz];exact F7 hJ ⟨i+1,by omega,by simp[A6],rfl,hr⟩
   .have:=fin2 (by omega);simp[a7,A6,k1,k6,A9,hx,hw,B4,hN,hM,hz];exact hΦ _ _ _ ⟨rfl,.inr ⟨rfl,by simp[A6];omega,by omega⟩⟩
 .rw[zf2z (by omega)]at hr;simp[a7,A6,k1,k6,A9];exact hΦ _ _ _ ⟨rfl,.inl ⟨rfl,hr.symm⟩⟩
theorem UV (m:W8) (l:List Gol) (hs:∀g∈l,Tm.sizes g.data<=1099511627776) (C4:l.length<=1099511627776) (b0 b1 b2 b3 b4:AV) (bx:List (List AV))
  (fr:Fr) (h:AH) (hh:h=⟨[b0,b1,b2,b3,b4,sl m 5 (l.map Bz)]::bx,[]⟩) (hl:fr.length=107) (h1:A2 fr 1=.ptr 0 0) (h8:A2 fr 8=.int .i64 0) :
  C3 (lp (A4 (M3 Q) (B8 Ad) x4) (fr,h)) λe fr' h'=>Kp x4.wr fr fr'/\(e=.exit 4/\B9 GY l=0\/e=.ret/\A2 fr' 2=.int .i64 (B9 GY l)):=by
 refine C1 rfl fr (λn fr h'=>∃(i:Nat),i+n=l.length/\A2 fr 8=.int .i64 (i:Nat)/\h'=h/\B9 GY (l.drop i)=B9 GY l) ?_ l.length h ⟨0,by omega,h8,rfl,rfl⟩;rintro J Φ hJ hΦ n E3 U1 K ⟨i,hi,k8,rfl,hr⟩;subst hh;have A6:=K.1.trans hl;have k1:=C0 K 1 h1;by_cases A9:i<l.length
 .have hx:=D5 (f:=Bz) (zf0z A9);have hw:=C8 i (by omega);have hM:=WM l[i] (hs _ (zf6z A9));rw[zf1z A9]at hr;simp only[B9]at hr;generalize l[i]=f at *
  generalize GY f=e at *
  simp only[Bz]at hx hM;by_cases hz:e=0
  .rw[if_neg (by simp[hz])]at hr;simp[x4,A6,k1,k8,A9,hx,hw,hM,hz];exact F7 hJ ⟨i+1,by omega,by simp[A6],rfl,hr⟩
  .rw[if_pos hz]at hr;simp[x4,A6,k1,k8,A9,hx,hw,hM,hz];exact hΦ _ _ _ (.inr ⟨rfl,by simp[A6,hr]⟩)
 .rw[zf2z (by omega)]at hr;simp[x4,A6,k1,k8,A9];exact hΦ _ _ _ (.inl ⟨rfl,hr.symm⟩)
theorem Oq (n:Nar) (F:Fine n):pc Q Ad [D1 n]=some (.int .i64 (JN n)):=by
 have hN:=El n.name;have hU:=WK n;have hR:=Ol n.rm n.roles F.rolesL;have hT:=Ol n.tm n.tags F.tagsL;have hS:=UW n.sm n.steps F.steps F.stepsL;have hG:=UV n.gm n.goals (λg hg=>(F.goals g hg).2.2) F.goalsL;have hFr:=UU n.fm n.fresh F.freshL;refine BN CD λfr hl h0=>?_;have hv:JN n=if GP n≠0 then GP n else if B9 FA n.steps≠0 then B9 FA n.steps else B9 GY n.goals:=rfl
 have hhd:GP n=if K4 n.name=false then 2 else if Jk n≠0 then Jk n else if n.roles.any Eo=true then 2 else if B9 GW n.fresh≠0 then B9 GW n.fresh else if n.tags.any Eo=true then 2 else 0:=rfl
 generalize JN n=v at *
 generalize GP n=q at *
 generalize Jk n=u at *
 clear F;obtain⟨name,rm,roles,fm,fresh,tm,tags,sm,steps,gm,goals⟩:=n;simp only[D1,EL]at *
 generalize K4 name=nb at *
 generalize roles.any Eo=rb at *
 generalize tags.any Eo=tb at *
 generalize B9 GW fresh=fe at *
 generalize B9 FA steps=se at *
 generalize B9 GY goals=ge at *
 simp[CD]at hl h0;cases nb with
 |false =>
  rw[if_pos rfl]at hhd;rw[if_pos (by omega)]at hv;subst hv hhd;simp[CD,hl,h0,hN]
 |true =>
  rw[if_neg (by simp)]at hhd;by_cases hu:u=0
  .subst hu;rw[if_neg (by simp)]at hhd;cases rb with
   |true =>
    rw[if_pos rfl]at hhd;rw[if_pos (by omega)]at hv;subst hv hhd;simp[CD,hl,h0,hN,hU,hR]
   |false =>
    rw[if_neg (by simp)]at hhd;simp[CD,hl,h0,hN,hU,hR];refine C3.mono (hFr _ _ _ _ _ _ _ rfl ?_ ?_ ?_) ?_<;>first|(simp[hl];done)|skip
    rintro e E3 h1 ⟨K,⟨bx,rfl⟩,⟨rfl,hz⟩|⟨rfl,k2,hz⟩⟩
    .have A6:E3.length=107:=K.1.trans (by simp[hl]);have k1:A2 E3 1=.ptr 0 0:=C0 K 1 (by simp[hl]);clear K;rw[if_neg (by omega)]at hhd;cases tb with
     |true =>
      rw[if_pos rfl]at hhd;rw[if_pos (by omega)]at hv;subst hv hhd;simp[A6,k1,hT]
     |false =>
      rw[if_neg (by simp)]at hhd;rw[if_neg (by omega)]at hv;simp[A6,k1,hT];refine C3.mono (hS _ _ _ _ _ bx _ _ rfl ?_ ?_ ?_) ?_<;>first|(simp[A6,k1];done)|skip
      rintro e X2 h2 ⟨K,rfl,⟨rfl,hz⟩|⟨rfl,k2,hz⟩⟩
      .have If:X2.length=107:=K.1.trans (by simp[A6]);have k1':A2 X2 1=.ptr 0 0:=C0 K 1 (by simp[A6,k1]);clear K;rw[if_neg (by omega)]at hv;simp[If];refine C3.mono (hG _ _ _ _ _ bx _ _ rfl ?_ ?_ ?_) ?_<;>first|(simp[If,k1'];done)|skip
       rintro e fr3 h3 ⟨K,⟨rfl,hz⟩|⟨rfl,k2⟩⟩
       .have hl3:fr3.length=107:=K.1.trans (by simp[If]);simp[hl3,hv,hz]
       .simp[k2,hv]
      .rw[if_pos hz]at hv;simp[k2,hv]
    .rw[if_pos hz]at hhd;rw[if_pos (by omega)]at hv;simp[k2,hv,hhd]
  .rw[if_pos hu]at hhd;rw[if_pos (by omega)]at hv;subst hv hhd;simp[CD,hl,h0,hN,hU,hu]
def Ib:List Ste->Nat
 | []=>0
 |s::l=>s.msg.size+Ib l
def KQ:List Gol->Nat
 | []=>0
 |g::l=>Tm.sizes g.data+KQ l
theorem Ic (a:Hm) (t:Tm):D0 (a++[t])=D0 a++[H2 t]:=by simp[uH]
theorem Qp (a b:Hm):D0 (a++b)=D0 a++D0 b:=by simp[uH]
theorem Vi (m:W8) (l:List Ste) (C4:l.length<=1099511627776) (K3:Ib l<=1099511627776) (b0 b1 b2 b3 b5:AV)
  (fr:Fr) (h:AH) (hh:h.boxes=[[b0,b1,b2,b3,sl m 7 (l.map P3),b5]]) (hl:fr.length=67) (h1:A2 fr 1=.ptr 0 0) (h3:A2 fr 3=.vs true 0 []) (h4:A2 fr 4=.int .i64 0) :
  C3 (lp (A4 (M3 Q) (B8 AL) Db) (fr,h)) λe fr' h'=>Kp Db.wr fr fr'/\h'.boxes=h.boxes/\e=.exit 0/\∃M8:List Tm,EQ 4 (D0 M8) (A2 fr' 3) h'/\Tm.sizes M8<=Ib l:=by
 refine C1 rfl fr (λn fr h'=>∃(i:Nat) (M8:List Tm),i+n=l.length/\A2 fr 4=.int .i64 (i:Nat)/\h'.boxes=h.boxes/\EQ 4 (D0 M8) (A2 fr 3) h'/\Tm.sizes M8+Ib (l.drop i)<=Ib l) ?_ l.length h ⟨0,[],by omega,h4,rfl,by rw[h3];exact FZ _ _,by simp[Tm.sizes]⟩;rintro J Φ hJ hΦ n E3 ⟨bx,fams⟩ K ⟨i,M8,hi,k4,hb,hg,hs⟩;rw[hh]at hb;simp only at hb;subst hb;have A6:=K.1.trans hl;have k1:=C0 K 1 h1;have hal:=Tm.length_le M8;by_cases A9:i<l.length
 .have hx:=D5 (f:=P3) (zf0z A9);have hw:=C8 i (by omega);rw[zf1z A9]at hs;simp only[Ib]at hs;generalize l[i]=f at *
  obtain⟨r,nm,t,ln⟩:=f;simp only at hs;obtain⟨v',h',ha,CN,Ie⟩:=ER (c:=B8 AL) (bytes:=56) (x:=H2 t) hg rfl (true,true) (by simp;omega) (by simp;omega);have hts:=t.size_pos;obtain⟨tk,tn,ts,tm,tl⟩:=t;have hg2:EQ 4 (D0 (M8++[.mk tk tn ts tm tl])) v' h':=by rw[Ic];exact CN
  simp only[P3,H2,FC,zf5z,zf7z]at hx ha;simp[Db,A6,k1,k4,A9,hx,hw,B4,ha];exact F7 hJ ⟨i+1,M8++[.mk tk tn ts tm tl],by omega,by simp[A6],by rw[Ie,hh],by simp[A6];exact hg2,by rw[Tm.sizes_append];simp only[Tm.sizes];omega⟩
 .rw[zf2z (by omega)]at hs;simp only[Ib]at hs;simp[Db,A6,k1,k4,A9];exact hΦ _ _ _ ⟨hh.symm,rfl,M8,by simp[A6];exact hg,by omega⟩
theorem Vh (m:W8) (l:List Gol) (C4:l.length<=1099511627776) (acc0:Hm) (K3:Tm.sizes acc0+KQ l<=1099511627776) (b0 b1 b2 b3 b4:AV)
  (fr:Fr) (h:AH) (hh:h.boxes=[[b0,b1,b2,b3,b4,sl m 5 (l.map Bz)]]) (hl:fr.length=67) (h1:A2 fr 1=.ptr 0 0) (h3:EQ 4 (D0 acc0) (A2 fr 3) h) (h5:A2 fr 5=.int .i64 0) :
  C3 (lp (A4 (M3 Q) (B8 AL) Da) (fr,h)) λe fr' h'=>Kp Da.wr fr fr'/\e=.exit 2/\∃M8:List Tm,EQ 4 (D0 M8) (A2 fr' 3) h'/\Tm.sizes M8<=1099511627776:=by
 refine C1 rfl fr (λn fr h'=>∃(i:Nat) (M8:List Tm),i+n=l.length/\A2 fr 5=.int .i64 (i:Nat)/\h'.boxes=h.boxes/\EQ 4 (D0 M8) (A2 fr 3) h'/\Tm.sizes M8+KQ (l.drop i)<=1099511627776) ?_ l.length h ⟨0,acc0,by omega,h5,rfl,h3,K3⟩;rintro J Φ hJ hΦ n E3 ⟨bx,fams⟩ K ⟨i,M8,hi,k5,hb,hg,hs⟩;rw[hh]at hb;simp only at hb;subst hb;have A6:=K.1.trans hl;have k1:=C0 K 1 h1;have hal:=Tm.length_le M8;by_cases A9:i<l.length
 .have hx:=D5 (f:=Bz) (zf0z A9);have hw:=C8 i (by omega);rw[zf1z A9]at hs;simp only[KQ]at hs;generalize l[i]=g at *
  have Gi:=Tm.length_le g.data;obtain⟨v',h',ha,CN,Ie⟩:=NS (c:=B8 AL) (bytes:=56) (x:=sl g.dm 4 (D0 g.data)) (ys:=D0 g.data) hg rfl (Ax _ _ _ _) (by simp[G3,maxLen];omega);have hg2:EQ 4 (D0 (M8++g.data)) v' h':=by rw[Qp];exact CN
  simp only[Bz]at hx;simp[Da,A6,k1,k5,A9,hx,hw,ha];exact F7 hJ ⟨i+1,M8++g.data,by omega,by simp[A6],by rw[Ie,hh],by simp[A6];exact hg2,by rw[Tm.sizes_append];omega⟩
 .rw[zf2z (by omega)]at hs;simp only[KQ]at hs;simp[Da,A6,k1,k5,A9];exact hΦ _ _ _ ⟨rfl,M8,by simp[A6];exact hg,by omega⟩
theorem Rb (m:W8) (l:List Ste) (C4:l.length<=1099511627776) (K3:Ib l<=1099511627776) (b0 b1 b2 b3 b5:AV)
  (fr:Fr) (h:AH) (hh:h.boxes=[[b0,b1,b2,b3,sl m 7 (l.map P3),b5]]) (hl:fr.length=54) (h1:A2 fr 1=.ptr 0 0) (h3:A2 fr 3=.vs true 0 []) (h4:A2 fr 4=.int .i64 0) :
  C3 (lp (A4 (M3 Q) (B8 V8) Bp) (fr,h)) λe fr' h'=>Kp Bp.wr fr fr'/\h'.boxes=h.boxes/\e=.exit 0/\∃M8:List Tm,EQ 4 (D0 M8) (A2 fr' 3) h'/\Tm.sizes M8<=Ib l:=by
 refine C1 rfl fr (λn fr h'=>∃(i:Nat) (M8:List Tm),i+n=l.length/\A2 fr 4=.int .i64 (i:Nat)/\h'.boxes=h.boxes/\EQ 4 (D0 M8) (A2 fr 3) h'/\Tm.sizes M8+Ib (l.drop i)<=Ib l) ?_ l.length h ⟨0,[],by omega,h4,rfl,by rw[h3];exact FZ _ _,by simp[Tm.sizes]⟩;rintro J Φ hJ hΦ n E3 ⟨bx,fams⟩ K ⟨i,M8,hi,k4,hb,hg,hs⟩;rw[hh]at hb;simp only at hb;subst hb;have A6:=K.1.trans hl;have k1:=C0 K 1 h1;have hal:=Tm.length_le M8;by_cases A9:i<l.length
 .have hx:=D5 (f:=P3) (zf0z A9);have hw:=C8 i (by omega);rw[zf1z A9]at hs;simp only[Ib]at hs;generalize l[i]=f at *
  obtain⟨r,nm,t,ln⟩:=f;simp only at hs;obtain⟨v',h',ha,CN,Ie⟩:=ER (c:=B8 V8) (bytes:=56) (x:=H2 t) hg rfl (true,true) (by simp;omega) (by simp;omega);have hts:=t.size_pos;obtain⟨tk,tn,ts,tm,tl⟩:=t;have hg2:EQ 4 (D0 (M8++[.mk tk tn ts tm tl])) v' h':=by rw[Ic];exact CN
  simp only[P3,H2,FC,zf5z,zf7z]at hx ha;simp[Bp,A6,k1,k4,A9,hx,hw,B4,ha];exact F7 hJ ⟨i+1,M8++[.mk tk tn ts tm tl],by omega,by simp[A6],by rw[Ie,hh],by simp[A6];exact hg2,by rw[Tm.sizes_append];simp only[Tm.sizes];omega⟩
 .rw[zf2z (by omega)]at hs;simp only[Ib]at hs;simp[Bp,A6,k1,k4,A9];exact hΦ _ _ _ ⟨hh.symm,rfl,M8,by simp[A6];exact hg,by omega⟩
theorem Ra (m:W8) (l:List Gol) (C4:l.length<=1099511627776) (acc0:Hm) (K3:Tm.sizes acc0+KQ l<=1099511627776) (b0 b1 b2 b3 b4:AV)
  (fr:Fr) (h:AH) (hh:h.boxes=[[b0,b1,b2,b3,b4,sl m 5 (l.map Bz)]]) (hl:fr.length=54) (h1:A2 fr 1=.ptr 0 0) (h3:EQ 4 (D0 acc0) (A2 fr 3) h) (h5:A2 fr 5=.int .i64 0) :
  C3 (lp (A4 (M3 Q) (B8 V8) Bo) (fr,h)) λe fr' h'=>Kp Bo.wr fr fr'/\e=.exit 2/\∃M8:List Tm,EQ 4 (D0 M8) (A2 fr' 3) h'/\Tm.sizes M8<=1099511627776:=by
 refine C1 rfl fr (λn fr h'=>∃(i:Nat) (M8:List Tm),i+n=l.length/\A2 fr 5=.int .i64 (i:Nat)/\h'.boxes=h.boxes/\EQ 4 (D0 M8) (A2 fr 3) h'/\Tm.sizes M8+KQ (l.drop i)<=1099511627776) ?_ l.length h ⟨0,acc0,by omega,h5,rfl,h3,K3⟩;rintro J Φ hJ hΦ n E3 ⟨bx,fams⟩ K ⟨i,M8,hi,k5,hb,hg,hs⟩;rw[hh]at hb;simp only at hb;subst hb;have A6:=K.1.trans hl;have k1:=C0 K 1 h1;have hal:=Tm.length_le M8;by_cases A9:i<l.length
 .have hx:=D5 (f:=Bz) (zf0z A9);have hw:=C8 i (by omega);rw[zf1z A9]at hs;simp only[KQ]at hs;generalize l[i]=g at *
  have Gi:=Tm.length_le g.data;obtain⟨v',h',ha,CN,Ie⟩:=NS (c:=B8 V8) (bytes:=56) (x:=sl g.dm 4 (D0 g.data)) (ys:=D0 g.data) hg rfl (Ax _ _ _ _) (by simp[G3,maxLen];omega);have hg2:EQ 4 (D0 (M8++g.data)) v' h':=by rw[Qp];exact CN
  simp only[Bz]at hx;simp[Bo,A6,k1,k5,A9,hx,hw,ha];exact F7 hJ ⟨i+1,M8++g.data,by omega,by simp[A6],by rw[Ie,hh],by simp[A6];exact hg2,by rw[Tm.sizes_append];omega⟩
 .rw[zf2z (by omega)]at hs;simp only[KQ]at hs;simp[Bo,A6,k1,k5,A9];exact hΦ _ _ _ ⟨rfl,M8,by simp[A6];exact hg,by omega⟩
theorem Wx (h:AH) {M8:Hm} {v:AV} (hg:EQ 4 (D0 M8) v h) (hs:Tm.sizes M8<=1099511627776) (a b:Int) (hb:b<=9223372036854775807):∃u r,frz h true v=some u/\pc Q EE [u,.int .i64 a,.int .i64 b]=some (.bool r):=by
 obtain⟨m,hm⟩:=NT hg;exact⟨_,_,hm,jY m M8 a b hs hb⟩
theorem fW (n:Nar) (F:Fine n) (hS:Ib n.steps+KQ n.goals<=1099511627776):∃b,pc Q AL [D1 n]=some (.bool b):=by
 suffices h:∃r,pc Q AL [D1 n]=some r/\∃b,r=.bool b by
  obtain⟨r,h1,b,rfl⟩:=h;exact⟨b,h1⟩
 have l1:=F.stepsL;have l2:=F.goalsL;clear F;obtain⟨name,rm,roles,fm,fresh,tm,tags,sm,steps,gm,goals⟩:=n;simp only at hS l1 l2;refine JA BT λΨ hΨ fr hl h0=>?_;simp[BT,D1]at hl h0;by_cases c1:(16:Int)<(roles.length:Int)
 .simp[BT,hl,h0,A7 c1];exact hΨ _ ⟨_,rfl⟩
 by_cases c2:(16:Int)<(fresh.length:Int)
 .simp[BT,hl,h0,A0 c1,A7 c2];exact hΨ _ ⟨_,rfl⟩
 by_cases c3:(16:Int)<(tags.length:Int)
 .simp[BT,hl,h0,A0 c1,A0 c2,A7 c3];exact hΨ _ ⟨_,rfl⟩
 by_cases c4:(16:Int)<(steps.length:Int)
 .simp[BT,hl,h0,A0 c1,A0 c2,A0 c3,A7 c4];exact hΨ _ ⟨_,rfl⟩
 by_cases c5:(16:Int)<(goals.length:Int)
 .simp[BT,hl,h0,A0 c1,A0 c2,A0 c3,A0 c4,A7 c5];exact hΨ _ ⟨_,rfl⟩
 simp[BT,hl,h0,A0 c1,A0 c2,A0 c3,A0 c4,A0 c5];refine C3.mono (Vi sm steps l1 (by omega) _ _ _ _ _ _ _ rfl ?_ ?_ ?_ ?_) ?_<;>first|(simp[hl];done)|skip
 rintro e E3 ⟨bx,fams⟩ ⟨K,hb,rfl,M8,hg,hs⟩;simp only at hb;subst hb;have A6:E3.length=67:=K.1.trans (by simp[hl]);have k1:A2 E3 1=.ptr 0 0:=C0 K 1 (by simp[hl]);clear K;simp[A6];refine C3.mono (Vh gm goals l2 M8 (by omega) _ _ _ _ _ _ _ rfl ?_ ?_ ?_ ?_) ?_<;>first|(simp[A6,k1];done)|skip
 .simp[A6];exact hg
 rintro e X2 h2 ⟨K,rfl,M8,hg,hs⟩;have If:X2.length=67:=K.1.trans (by simp[A6]);obtain⟨u,r,hu,hp⟩:=Wx h2 hg hs 100 900 (by omega);simp[If,hu,hp];exact hΨ _ ⟨_,rfl⟩
theorem cQ (n:Nar) (F:Fine n) (hS:Ib n.steps+KQ n.goals<=1099511627776):∃b,pc Q V8 [D1 n]=some (.bool b):=by
 suffices h:∃r,pc Q V8 [D1 n]=some r/\∃b,r=.bool b by
  obtain⟨r,h1,b,rfl⟩:=h;exact⟨b,h1⟩
 obtain⟨bf,hF⟩:=fW n F hS;have l1:=F.stepsL;have l2:=F.goalsL;clear F;obtain⟨name,rm,roles,fm,fresh,tm,tags,sm,steps,gm,goals⟩:=n;simp only at hS l1 l2;refine JA CC λΨ hΨ fr hl h0=>?_;simp[CC,D1]at hl h0 hF;cases bf with
 |false =>
  simp[CC,hl,h0,hF];exact hΨ _ ⟨_,rfl⟩
 |true =>
  by_cases c4:(5:Int)<(steps.length:Int)
  .simp[CC,hl,h0,hF,A7 c4];exact hΨ _ ⟨_,rfl⟩
  by_cases c5:(5:Int)<(goals.length:Int)
  .simp[CC,hl,h0,hF,A0 c4,A7 c5];exact hΨ _ ⟨_,rfl⟩
  simp[CC,hl,h0,hF,A0 c4,A0 c5];refine C3.mono (Rb sm steps l1 (by omega) _ _ _ _ _ _ _ rfl ?_ ?_ ?_ ?_) ?_<;>first|(simp[hl];done)|skip
  rintro e E3 ⟨bx,fams⟩ ⟨K,hb,rfl,M8,hg,hs⟩;simp only at hb;subst hb;have A6:E3.length=54:=K.1.trans (by simp[hl]);have k1:A2 E3 1=.ptr 0 0:=C0 K 1 (by simp[hl]);clear K;simp[A6];refine C3.mono (Ra gm goals l2 M8 (by omega) _ _ _ _ _ _ _ rfl ?_ ?_ ?_ ?_) ?_<;>first|(simp[A6,k1];done)|skip
  .simp[A6];exact hg
  rintro e X2 h2 ⟨K,rfl,M8,hg,hs⟩;have If:X2.length=54:=K.1.trans (by simp[A6]);obtain⟨u,r,hu,hp⟩:=Wx h2 hg hs 25 60 (by omega);simp[If,hu,hp];exact hΨ _ ⟨_,rfl⟩
@[simp] theorem qP (h:AH) (am:Bool) (ks vs:C6):uE h am (.vm ks vs)=some (.vm ks vs):=_root_.id rfl
@[simp] theorem rV (h:AH) (am:Bool) (ks vs:C6):frz h am (.vm ks vs)=some (.vm ks vs):=_root_.id rfl
@[simp] theorem pe (h:AH) (ks vs:C6):DY h (.vm ks vs)=true:=_root_.id rfl
@[simp] theorem nO (ks vs:C6):(AV.vm ks vs).isTup=false:=_root_.id rfl
@[simp] theorem mD (ks vs:C6):(AV.vm ks vs).cells=[.vm ks vs]:=_root_.id rfl
@[simp] theorem nN (b:Nat):(AV.mp b).isTup=false:=_root_.id rfl
@[simp] theorem mC (b:Nat):(AV.mp b).cells=[.mp b]:=_root_.id rfl
theorem QF (a b:Q1):Sz true (.str a) (.str b)=some (U4 a b):=by
 have:(a == b)=U4 a b:=by
  rw[Bool.eq_iff_iff,ev];obtain⟨a⟩:=a;obtain⟨b⟩:=b;show (a == b)=true↔_;rw[beq_iff_eq,ByteArray.mk.injEq]
 simp[Sz,this]
theorem Kq (a:Q1):∀(l:List ByteArray) (i:Nat),l.any (U4 a)=true->KW true (.str a) (l.map AV.str) i=some (some (i6 (U4 a) i l).toNat)
 | [],i,h=>by cases h
 |b::l,i,h=>by
  simp only[zg2z,KW,QF,i6];cases hb:U4 a b with
  |true=>simp
  |false =>
   rw[zg1z,hb,Bool.false_or]at h;simp only[Kq a l (i+1) h];simp
theorem Io (a:Q1):∀(l:List ByteArray) (i:Nat),l.any (U4 a)=false->KW true (.str a) (l.map AV.str) i=some none
 | [],i,_=>rfl
 |b::l,i,h=>by
  rw[zg1z,Bool.or_eq_false_iff]at h;simp only[zg2z,KW,QF,h.1];exact Io a l (i+1) h.2
theorem Vn (m:W8) (l:List ByteArray) (x:Q1) (C4:l.length<=1099511627776) (fr:Fr) (h:AH) (hl:fr.length=19)
  (h0:A2 fr 0=sl m 1 (l.map AV.str)) (h1:A2 fr 1=.str x) (h5:A2 fr 5=.int .i64 0) :
  C3 (lp (A4 (M3 Q) (B8 I9) y7) (fr,h)) λe fr' h'=>Kp y7.wr fr fr'/\(e=.exit 0/\idx (U4 x) l=-1\/e=.ret/\A2 fr' 4=.int .i64 (idx (U4 x) l)):=by
 refine C1 rfl fr (λn fr h=>∃i,i+n=l.length/\A2 fr 5=.int .i64 (i:Nat)/\i6 (U4 x) i (l.drop i)=idx (U4 x) l) ?_ l.length h ⟨0,by omega,h5,rfl⟩;rintro J Φ hJ hΦ n E3 U1 K ⟨i,hi,k5,hr⟩;have A6:=K.1.trans hl;have k0:=C0 K 0 h0;have k1:=C0 K 1 h1;by_cases A9:i<l.length
 .have hx:=D5 (f:=AV.str) (zf0z A9);have hw:=C8 i (by omega);rw[zf1z A9]at hr;simp only[i6,U4,decide_eq_true_eq]at hr;generalize l[i]=a at *
  by_cases hc:x.toList=a.toList
  .rw[if_pos hc]at hr;simp[y7,A6,k0,k1,k5,A9,hx,hw,hc];exact hΦ _ _ _ (.inr ⟨rfl,by simp[A6];exact hr⟩)
  .have hc':¬a.toList=x.toList:=λe=>hc e.symm;rw[if_neg hc]at hr;simp[y7,A6,k0,k1,k5,A9,hx,hw,hc'];exact F7 hJ ⟨i+1,by omega,by simp[A6],hr⟩
 .rw[zf2z (by omega)]at hr;simp[y7,A6,k0,k5,A9];exact hΦ _ _ _ (.inl ⟨rfl,hr.symm⟩)
theorem cP (m:W8) (l:List ByteArray) (x:Q1) (C4:l.length<=1099511627776):pc Q I9 [EL m l,.str x]=some (.int .i64 (idx (U4 x) l)):=by
 refine Ez IG λfr hl h0 h1=>?_;simp[IG,EL]at hl h0 h1;simp[IG,hl];refine(Vn m l x C4 _ _ (by simp[hl]) (by simp[hl,h0]) (by simp[hl,h1]) (by simp[hl])).mono ?_;rintro e fr' h' ⟨K,⟨rfl,he⟩|⟨rfl,h4⟩⟩
 .have hl':fr'.length=19:=K.1.trans (by simp[hl]);simp[hl',he]
 .simp[h4]
def B7 (n:Nar):List ByteArray:=n.roles++n.fresh.map Fre.name++n.tags
def R6 (n:Nar):List Int:=n.roles.map (λ_=>1)++n.fresh.map Fre.sort++n.tags.map (λ_=>5)
def PS (a b:List AV) (v w:AV) (h:AH):Prop:=(a=[]/\v=.vs true 0 []/\b=[]/\w=.vs true 0 [])\/(a≠[]/\b≠[]/\∃j k,j≠k/\v=.sl j a.length 0 a.length/\h.fams[j]?=some ⟨a,1,false⟩/\w=.sl k b.length 0 b.length/\h.fams[k]?=some ⟨b,1,false⟩)
theorem Qw {c:Ctx} {a b:C6} {v w x y:AV} {h:AH} (hg:PS a b v w h) (hm:c.mutApp=false) (m m':W8) (p q:Nat) (hp:p<=16) (hq:q<=16) (ha:a.length<=1099511627776) (hb:b.length<=1099511627776) :
  ∃v' h1 w' h2,J7 c h 1 p v (sl m 1 [x])=some (v',h1)/\J7 c h1 1 q w (sl m' 1 [y])=some (w',h2)/\PS (a++[x]) (b++[y]) v' w' h2/\h1.boxes=h.boxes/\h2.boxes=h.boxes:=by
 have r0:(1:Nat)*p<=G3/\1<=maxLen:=by simp only[G3,maxLen];omega
 have r1:(1:Nat)*q<=G3/\1<=maxLen:=by simp only[G3,maxLen];omega
 have ra:(a.length+1)*p<=G3/\a.length+1<=maxLen:=by
  simp only[G3,maxLen];have:=zg3z (a.length+1) hp;omega
 have rb:(b.length+1)*q<=G3/\b.length+1<=maxLen:=by
  simp only[G3,maxLen];have:=zg3z (b.length+1) hq;omega
 rcases hg with ⟨rfl,rfl,rfl,rfl⟩|⟨hna,hnb,j,k,hjk,rfl,hj,rfl,hk⟩
 .refine⟨.sl h.fams.length 1 0 1,⟨h.boxes,h.fams++[⟨[x],1,false⟩]⟩,.sl (h.fams.length+1) 1 0 1,⟨h.boxes,h.fams++[⟨[x],1,false⟩]++[⟨[y],1,false⟩]⟩,?_,?_,?_,rfl,rfl⟩
  .rw[LG,Ax,zf3z,if_neg (by simp),zf4z,if_pos r0,hm]
  .rw[LG,Ax,zf3z,if_neg (by simp),zf4z,if_pos r1,hm];simp
  .refine .inr ⟨by simp,by simp,h.fams.length,h.fams.length+1,by omega,by simp,by simp,by simp,by simp⟩
 .have hj':=P5 hj;have Bi:=P5 hk;refine⟨.sl j (a.length+1) 0 (a.length+1),⟨h.boxes,h.fams.set j ⟨a++[x],1,false⟩⟩,.sl k (b.length+1) 0 (b.length+1),⟨h.boxes,(h.fams.set j ⟨a++[x],1,false⟩).set k ⟨b++[y],1,false⟩⟩,?_,?_,?_,rfl,rfl⟩
  .rw[JS,Ax,zf3z,hj,zf3z,zf4z,if_pos ⟨rfl,rfl,by omega,ra⟩]
  .rw[JS,Ax,zf3z];simp only;rw[zg0z hjk,hk,zf3z,zf4z,if_pos ⟨rfl,rfl,by omega,rb⟩]
  .refine .inr ⟨by simp,by simp,j,k,hjk,by simp,?_,by simp,?_⟩
   .simp only;rw[zg0z (λe=>hjk e.symm),zf9z hj']
   .simp only;rw[zf9z (by simpa using Bi)]
theorem eM {a b:C6} {v w:AV} {h:AH} (hg:PS a b v w h):∃m m',frz h true v=some (sl m 1 a)/\frz h true w=some (sl m' 1 b):=by
 rcases hg with ⟨rfl,rfl,rfl,rfl⟩|⟨hna,hnb,j,k,hjk,rfl,hj,rfl,hk⟩
 .exact⟨(true,false),(true,false),RP _ _,RP _ _⟩
 .refine⟨(false,true),(false,true),?_,?_⟩
  .rw[Jd,EA,hj,zf3z,if_pos ⟨rfl,by omega,rfl⟩];simp
  .rw[Jd,EA,hk,zf3z,if_pos ⟨rfl,by omega,rfl⟩];simp
theorem Tg (m:W8) (l:List ByteArray) (C4:l.length<=1099511627776) (b0 b2 b3 b4 b5:AV) (fr:Fr) (h:AH) (hh:h.boxes=[[b0,sl m 1 (l.map AV.str),b2,b3,b4,b5]]) (hl:fr.length=72) (h1:A2 fr 1=.ptr 0 0)
  (h4:A2 fr 4=.vs true 0 []) (h5:A2 fr 5=.vs true 0 []) (h6:A2 fr 6=.int .i64 0) :
  C3 (lp (A4 (M3 Q) (B8 N5) Bt) (fr,h)) λe fr' h'=>Kp Bt.wr fr fr'/\e=.exit 0/\h'.boxes=h.boxes/\PS (l.map AV.str) ((l.map λ_=>(1:Int)).map (AV.int .i64)) (A2 fr' 4) (A2 fr' 5) h':=by
 refine C1 rfl fr (λn fr h'=>∃i,i+n=l.length/\A2 fr 6=.int .i64 (i:Nat)/\h'.boxes=h.boxes/\PS ((l.take i).map AV.str) (((l.take i).map λ_=>(1:Int)).map (AV.int .i64)) (A2 fr 4) (A2 fr 5) h') ?_ l.length h ⟨0,by omega,h6,rfl,.inl ⟨rfl,h4,rfl,h5⟩⟩;rintro J Φ hJ hΦ n E3 ⟨bx,fams⟩ K ⟨i,hi,k6,hb,hg⟩;rw[hh]at hb;simp only at hb;subst hb;have A6:=K.1.trans hl;have k1:=C0 K 1 h1;by_cases A9:i<l.length
 .have hx:=D5 (f:=AV.str) (zf0z A9);have hw:=C8 i (by omega);obtain⟨v',U1,w',h2',ha1,ha2,CN,hb1,hb2⟩:=Qw (c:=B8 N5) (x:=.str l[i]) (y:=.int .i64 1) hg rfl (true,true) (true,true) 16 8 (by omega) (by omega) (by simp;omega) (by simp;omega);have hg2:PS ((l.take (i+1)).map AV.str) (((l.take (i+1)).map λ_=>(1:Int)).map (AV.int .i64)) v' w' h2':=by
   rw[List.take_succ_eq_append_getElem A9,zf8z,zf8z,zf8z];exact CN
  have tw:∀F:Fr,A2 F 4=v'->A2 F 5=w'->PS ((l.take (i+1)).map AV.str) (((l.take (i+1)).map λ_=>(1:Int)).map (AV.int .i64)) (A2 F 4) (A2 F 5) h2':=λF e4 e5=>by rw[e4,e5];exact hg2
  generalize l[i]=a at *
  simp[Bt,A6,k1,k6,A9,hx,hw,B4,ha1,ha2];exact F7 hJ ⟨i+1,by omega,by simp[A6],by rw[hb2,hh],tw _ (by simp[A6]) (by simp[A6])⟩
 .have e:l.take i=l:=List.take_of_length_le (by omega);rw[e]at hg;have tw:∀F:Fr,A2 F 4=A2 E3 4->A2 F 5=A2 E3 5->PS (l.map AV.str) ((l.map λ_=>(1:Int)).map (AV.int .i64)) (A2 F 4) (A2 F 5) _:=λF e4 e5=>by rw[e4,e5];exact hg
  simp[Bt,A6,k1,k6,A9];exact hΦ _ _ _ ⟨rfl,by rw[hh],tw _ (by simp[A6]) (by simp[A6])⟩
end Go.Abs.Q
