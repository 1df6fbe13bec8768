/- A part of the proof. -/
import Derived.Test.YtohjdamplbhdpaaGreatDoorSB10
set_option linter.all false
open List renaming getElem?_eq_getElem->A0O,drop_eq_getElem_cons->A0P,drop_eq_nil_of_le->A0Q,take_succ_eq_append_getElem->A0R,map_append->A0S,append_assoc->A0T,take_of_length_le->A0U,map_nil->A0W,length_singleton->A0X,getElem_mem->A0Y,map_cons->A0Z,cons_append->A0a,append_nil->A0b,nil_append->A0c,getElem?_set_self->A0d,getElem?_set_ne->A0e,mem_of_mem_take->A0f,any_cons->A0g,length_take->A0j,take_zero->A0k
open Option renaming bind_some->A0V
open Nat renaming mul_le_mul_left->A0h
open Bool renaming and_eq_true->A0i
namespace Go.Abs.Q
open Go.Proofs
attribute [local simp] E6 E7 fin K1 H4
theorem jL (m:I6) (l:List Ste) (hs:∀s∈l,s.frm.size<=1099511627776/\s.to.size<=1099511627776/\s.msg.size<=1099511627776) (B9:l.length<=1099511627776) (B:G4)
  (fr:Fr) (h:AH) (hh:h=⟨[B],[]⟩) (hl:fr.length=50) (h16:A0 fr 16=sl m 7 (l.map El)) (h17:A0 fr 17=.int .i64 l.length) (h18:A0 fr 18=.int .i64 0) :
  B7 (lp (A2 (K8 Q) (D6 Gh) Z4) (fr,h)) λe C3 h'=>Kp Z4.wr fr C3/\(∃bx,h'=⟨B::bx,[]⟩)/\(e=.exit 0/\D3 KJ l=0\/e=.ret/\A0 C3 2=.int .i64 (D3 KJ l)/\D3 KJ l≠0):=by
 refine B4 rfl fr (λn fr h'=>∃(i:Nat),i+n=l.length/\A0 fr 18=.int .i64 (i:Nat)/\(∃bx,h'=⟨B::bx,[]⟩)/\D3 KJ (l.drop i)=D3 KJ l) ?_ l.length h ⟨0,by omega,h18,⟨[],hh⟩,rfl⟩;rintro J Φ hJ hΦ n D5 Cw K ⟨i,hi,k18,⟨bx,rfl⟩,hr⟩;have A6:=K.1.trans hl;have k16:=A8 K 16 h16;have k17:=A8 K 17 h17;by_cases A7:i<l.length
 .have hx:=G1 (f:=El) (A0O A7);have hw:=C6 i (by omega);obtain⟨s1,s2,s3⟩:=hs _ (A0Y A7);have hR:=Pb l[i].frm s1;have hN:=Pb l[i].to s2;have hM:=YC l[i].msg s3;rw[A0P A7]at hr;simp only[D3]at hr;generalize l[i]=f at *
  have hfe:KJ f=if P4 f.frm=false\/P4 f.to=false then 2 else GU f.msg:=rfl
  generalize KJ f=e at *
  obtain⟨r,nm,t,ln⟩:=f;simp only at *
  generalize P4 r=rb at *
  generalize P4 nm=nb at *
  generalize GU t=me at *
  obtain⟨tk,tn,ts,tm,tl⟩:=t;simp only[El,B8,Mg,A0a,A0c]at hx hM;generalize D3 KJ l=tot at *
  have fin2:e≠0->e=tot:=λq=>by rw[if_pos q]at hr;exact hr
  cases rb with
  |false =>
   rw[if_pos (.inl rfl)]at hfe;have:=fin2 (by omega);simp[Z4,A6,k16,k17,k18,A7,hx,hR];exact hΦ _ _ _ ⟨⟨_,rfl⟩,.inr ⟨rfl,by simp[A6];omega,by omega⟩⟩
  |true =>
   cases nb with
   |false =>
    rw[if_pos (.inr rfl)]at hfe;have:=fin2 (by omega);simp[Z4,A6,k16,k17,k18,A7,hx,hR,hN];exact hΦ _ _ _ ⟨⟨_,rfl⟩,.inr ⟨rfl,by simp[A6];omega,by omega⟩⟩
   |true =>
    rw[if_neg (by simp)]at hfe;by_cases hz:me=0
    .rw[if_neg (by simp[hfe,hz])]at hr;simp[Z4,A6,k16,k17,k18,A7,hx,hw,hR,hN,hM,hz];exact G0 hJ ⟨i+1,by omega,by simp[A6],⟨_,rfl⟩,hr⟩
    .have:=fin2 (by omega);simp[Z4,A6,k16,k17,k18,A7,hx,hR,hN,hM,hz];exact hΦ _ _ _ ⟨⟨_,rfl⟩,.inr ⟨rfl,by simp[A6];omega,by omega⟩⟩
 .rw[A0Q (by omega)]at hr;simp[Z4,A6,k17,k18,A7];exact hΦ _ _ _ ⟨⟨_,rfl⟩,.inl ⟨rfl,hr.symm⟩⟩
theorem jA (m:I6) (l:List Gol) (hs:∀g∈l,g.role.size<=1099511627776/\g.wth.size<=1099511627776/\Tm.sizes g.data<=1099511627776) (B9:l.length<=1099511627776)
  (fr:Fr) (h:AH) (hl:fr.length=50) (h16:A0 fr 38=sl m 5 (l.map Eo)) (h17:A0 fr 39=.int .i64 l.length) (h18:A0 fr 40=.int .i64 0) :
  B7 (lp (A2 (K8 Q) (D6 Gh) Bf) (fr,h)) λe C3 h'=>Kp Bf.wr fr C3/\(e=.exit 2/\D3 MQ l=0\/e=.ret/\A0 C3 2=.int .i64 (D3 MQ l)):=by
 refine B4 rfl fr (λn fr h'=>∃(i:Nat),i+n=l.length/\A0 fr 40=.int .i64 (i:Nat)/\D3 MQ (l.drop i)=D3 MQ l) ?_ l.length h ⟨0,by omega,h18,rfl⟩;rintro J Φ hJ hΦ n D5 Cw K ⟨i,hi,k18,hr⟩;have A6:=K.1.trans hl;have k16:=A8 K 38 h16;have k17:=A8 K 39 h17;by_cases A7:i<l.length
 .have hx:=G1 (f:=Eo) (A0O A7);have hw:=C6 i (by omega);obtain⟨s1,s2,s3⟩:=hs _ (A0Y A7);have hM:=jn l[i] s1 s2 s3;rw[A0P A7]at hr;simp only[D3]at hr;generalize l[i]=f at *
  generalize MQ f=e at *
  simp only[Eo]at hx hM;by_cases hz:e=0
  .rw[if_neg (by simp[hz])]at hr;simp[Bf,A6,k16,k17,k18,A7,hx,hw,hM,hz];exact G0 hJ ⟨i+1,by omega,by simp[A6],hr⟩
  .rw[if_pos hz]at hr;simp[Bf,A6,k16,k17,k18,A7,hx,hM,hz];exact hΦ _ _ _ (.inr ⟨rfl,by simp[A6,hr]⟩)
 .rw[A0Q (by omega)]at hr;simp[Bf,A6,k17,k18,A7];exact hΦ _ _ _ (.inl ⟨rfl,hr.symm⟩)
theorem fa (n:Nar) (F:Fine n):pc Q Gh [G5 n]=some (.int .i64 (PX n)):=by
 have hH:=ve n F;have hS:=jL n.sm n.steps F.steps F.stepsL;have hG:=jA n.gm n.goals F.goals F.goalsL;refine H8 KB λfr hl h0=>?_;have hv:PX n=if KL n≠0 then KL n else if D3 KJ n.steps≠0 then D3 KJ n.steps else D3 MQ n.goals:=rfl
 generalize PX n=v at *
 generalize KL n=q at *
 clear F;obtain⟨name,rm,roles,fm,fresh,tm,tags,sm,steps,gm,goals⟩:=n;simp only[G5]at *
 generalize D3 KJ steps=se at *
 generalize D3 MQ goals=ge at *
 simp[KB]at hl h0;by_cases hq:q=0
 .subst hq;rw[if_neg (by simp)]at hv;simp[KB,hl,h0,hH];refine B7.mono (hS _ _ _ rfl ?_ ?_ ?_ ?_) ?_<;>first|(simp[hl];done)|skip
  rintro e D5 h1 ⟨K,⟨bx,rfl⟩,⟨rfl,hz⟩|⟨rfl,k2,hz⟩⟩
  .have A6:D5.length=50:=K.1.trans (by simp[hl]);have k1:A0 D5 1=.ptr 0 0:=A8 K 1 (by simp[hl]);rw[if_neg (by omega)]at hv;clear K;simp[A6,k1];refine B7.mono (hG _ _ ?_ ?_ ?_ ?_) ?_<;>first|(simp[A6];done)|skip
   rintro e R3 h2 ⟨K,⟨rfl,hz⟩|⟨rfl,k2⟩⟩
   .have CK:R3.length=50:=K.1.trans (by simp[A6]);simp[CK,hv,hz]
   .simp[k2,hv]
  .rw[if_pos hz]at hv;simp[k2,hv]
 .rw[if_pos hq]at hv;subst hv;simp[KB,hl,h0,hH,hq]
theorem jf (n:Nar):pc Q Lt [G5 n]=some (.int .i64 (RS n)):=by
 refine H8 U2 λfr hl h0=>?_;have hq:RS n=if n.roles.length<2 then 8 else if 4<n.roles.length\/12<n.fresh.length\/8<n.tags.length then 3 else if n.steps.length=0 then 8 else if 8<n.steps.length\/8<n.goals.length then 3 else 0:=rfl
 generalize RS n=q at *
 obtain⟨name,rm,roles,fm,fresh,tm,tags,sm,steps,gm,goals⟩:=n;simp only[G5]at *
 simp[U2]at hl h0;by_cases c1:(roles.length:Int)<2
 .rw[if_pos (by omega)]at hq;subst hq;simp[U2,hl,h0,B6 c1]
 rw[if_neg (by omega)]at hq;by_cases c2:(4:Int)<(roles.length:Int)
 .rw[if_pos (.inl (by omega))]at hq;subst hq;simp[U2,hl,h0,A3 c1,B6 c2]
 by_cases c3:(12:Int)<(fresh.length:Int)
 .rw[if_pos (.inr (.inl (by omega)))]at hq;subst hq;simp[U2,hl,h0,A3 c1,A3 c2,B6 c3]
 by_cases c4:(8:Int)<(tags.length:Int)
 .rw[if_pos (.inr (.inr (by omega)))]at hq;subst hq;simp[U2,hl,h0,A3 c1,A3 c2,A3 c3,B6 c4]
 rw[if_neg (by omega)]at hq;by_cases c5:(steps.length:Int)=0
 .rw[if_pos (by omega)]at hq;subst hq;have c5':steps=[]:=List.eq_nil_of_length_eq_zero (by omega);subst c5';simp[U2,hl,h0,A3 c1,A3 c2,A3 c3,A3 c4]
 rw[if_neg (by omega)]at hq;have c5n:¬steps=[]:=λe=>c5 (by rw[e];rfl);by_cases c6:(8:Int)<(steps.length:Int)
 .rw[if_pos (.inl (by omega))]at hq;subst hq;simp[U2,hl,h0,A3 c1,A3 c2,A3 c3,A3 c4,c5n,B6 c6]
 by_cases c7:(8:Int)<(goals.length:Int)
 .rw[if_pos (.inr (by omega))]at hq;subst hq;simp[U2,hl,h0,A3 c1,A3 c2,A3 c3,A3 c4,c5n,A3 c6,B6 c7]
 rw[if_neg (by omega)]at hq;subst hq;simp[U2,hl,h0,A3 c1,A3 c2,A3 c3,A3 c4,c5n,A3 c6,A3 c7]
theorem aO (a b:J3):pc Q BT [sl (true,true) 1 [.str a,.str b]]=some (.bool (P4 a&&P4 b)):=by
 have h:=YD (true,true) [a,b] (by simp);simp only[DL,A0Z,A0W,A0g,List.any_nil,Ip,Bool.or_false,Bool.not_or,Bool.not_not]at h;exact h
theorem gJ (m:I6) (l:List Fre) (B9:l.length<=1099511627776) (b0 b1 b3 b4 b5:AV)
  (fr:Fr) (h:AH) (hh:h=⟨[[b0,b1,sl m 3 (l.map Lq),b3,b4,b5]],[]⟩) (hl:fr.length=107) (h1:A0 fr 1=.ptr 0 0) (h4:A0 fr 4=.int .i64 0) :
  B7 (lp (A2 (K8 Q) (D6 Fu) X7) (fr,h)) λe C3 h'=>Kp X7.wr fr C3/\(∃bx,h'=⟨[b0,b1,sl m 3 (l.map Lq),b3,b4,b5]::bx,[]⟩)/\(e=.exit 0/\D3 Lc l=0\/e=.ret/\A0 C3 2=.int .i64 (D3 Lc l)/\D3 Lc l≠0):=by
 refine B4 rfl fr (λn fr h'=>∃(i:Nat),i+n=l.length/\A0 fr 4=.int .i64 (i:Nat)/\(∃bx,h'=⟨[b0,b1,sl m 3 (l.map Lq),b3,b4,b5]::bx,[]⟩)/\D3 Lc (l.drop i)=D3 Lc l) ?_ l.length h ⟨0,by omega,h4,⟨[],hh⟩,rfl⟩;rintro J Φ hJ hΦ n D5 Cw K ⟨i,hi,k4,⟨bx,rfl⟩,hr⟩;have A6:=K.1.trans hl;have k1:=A8 K 1 h1;by_cases A7:i<l.length
 .have hx:=G1 (f:=Lq) (A0O A7);have hw:=C6 i (by omega);have hN:=aO l[i].role l[i].name;rw[A0P A7]at hr;simp only[D3]at hr;generalize l[i]=f at *
  have hfe:Lc f=if P4 f.role=false\/P4 f.name=false then 2 else if f.sort<2\/4<f.sort then 10 else 0:=rfl
  generalize Lc f=e at *
  obtain⟨r,nm,so⟩:=f;simp only[Lq]at *
  have hrb:(P4 r&&P4 nm)=false↔(P4 r=false\/P4 nm=false):=by cases P4 r<;>cases P4 nm<;>decide
  generalize P4 r=rb at *
  generalize P4 nm=nb at *
  generalize (rb&&nb)=ab at *
  generalize D3 Lc l=tot at *
  have fin2:e≠0->e=tot:=λq=>by rw[if_pos q]at hr;exact hr
  cases ab with
  |false =>
   rw[if_pos (hrb.1 rfl)]at hfe;have:=fin2 (by omega);simp[X7,A6,k1,k4,A7,hx,A5,hN];exact hΦ _ _ _ ⟨⟨_,rfl⟩,.inr ⟨rfl,by simp[A6];omega,by omega⟩⟩
  |true =>
   rw[if_neg (λq=>by simpa using hrb.2 q)]at hfe;by_cases c1:so=2
   .rw[if_neg (by omega)]at hfe;rw[if_neg (by simp[hfe])]at hr;simp[X7,A6,k1,k4,A7,hx,hw,A5,hN,B6 c1];exact G0 hJ ⟨i+1,by omega,by simp[A6],⟨_,rfl⟩,hr⟩
   .by_cases c2:so=3
    .rw[if_neg (by omega)]at hfe;rw[if_neg (by simp[hfe])]at hr;simp[X7,A6,k1,k4,A7,hx,hw,A5,hN,A3 c1,B6 c2];exact G0 hJ ⟨i+1,by omega,by simp[A6],⟨_,rfl⟩,hr⟩
    .by_cases c3:so=4
     .rw[if_neg (by omega)]at hfe;rw[if_neg (by simp[hfe])]at hr;simp[X7,A6,k1,k4,A7,hx,hw,A5,hN,A3 c1,A3 c2,B6 c3];exact G0 hJ ⟨i+1,by omega,by simp[A6],⟨_,rfl⟩,hr⟩
     .rw[if_pos (by omega)]at hfe;have:=fin2 (by omega);simp[X7,A6,k1,k4,A7,hx,A5,hN,A3 c1,A3 c2,A3 c3];exact hΦ _ _ _ ⟨⟨_,rfl⟩,.inr ⟨rfl,by simp[A6];omega,by omega⟩⟩
 .rw[A0Q (by omega)]at hr;simp[X7,A6,k1,k4,A7];exact hΦ _ _ _ ⟨⟨_,rfl⟩,.inl ⟨rfl,hr.symm⟩⟩
theorem gL (m:I6) (l:List Ste) (hs:∀s∈l,s.frm.size<=1099511627776/\s.to.size<=1099511627776/\s.msg.size<=1099511627776) (B9:l.length<=1099511627776) (b0 b1 b2 b3 b5:AV) (bx:List (List AV))
  (fr:Fr) (h:AH) (hh:h=⟨[b0,b1,b2,b3,sl m 7 (l.map El),b5]::bx,[]⟩) (hl:fr.length=107) (h1:A0 fr 1=.ptr 0 0) (h6:A0 fr 6=.int .i64 0) :
  B7 (lp (A2 (K8 Q) (D6 Fu) Az) (fr,h)) λe C3 h'=>Kp Az.wr fr C3/\h'=h/\(e=.exit 2/\D3 KJ l=0\/e=.ret/\A0 C3 2=.int .i64 (D3 KJ l)/\D3 KJ l≠0):=by
 refine B4 rfl fr (λn fr h'=>∃(i:Nat),i+n=l.length/\A0 fr 6=.int .i64 (i:Nat)/\h'=h/\D3 KJ (l.drop i)=D3 KJ l) ?_ l.length h ⟨0,by omega,h6,rfl,rfl⟩;rintro J Φ hJ hΦ n D5 Cw K ⟨i,hi,k6,rfl,hr⟩;subst hh;have A6:=K.1.trans hl;have k1:=A8 K 1 h1;by_cases A7:i<l.length
 .have hx:=G1 (f:=El) (A0O A7);have hw:=C6 i (by omega);obtain⟨s1,s2,s3⟩:=hs _ (A0Y A7);have hN:=aO l[i].frm l[i].to;have hM:=TA l[i].msg s3;rw[A0P A7]at hr;simp only[D3]at hr;generalize l[i]=f at *
  have hfe:KJ f=if P4 f.frm=false\/P4 f.to=false then 2 else GU f.msg:=rfl
  generalize KJ f=e at *
  obtain⟨r,nm,t,ln⟩:=f;simp only at *
  have hrb:(P4 r&&P4 nm)=false↔(P4 r=false\/P4 nm=false):=by cases P4 r<;>cases P4 nm<;>decide
  generalize P4 r=rb at *
  generalize P4 nm=nb at *
  generalize (rb&&nb)=ab at *
  generalize GU t=me at *
  obtain⟨tk,tn,ts,tm,tl⟩:=t;simp only[El,B8,Mg,A0a,A0c]at hx hM;generalize D3 KJ l=tot at *
  have fin2:e≠0->e=tot:=λq=>by rw[if_pos q]at hr;exact hr
  cases ab with
  |false =>
   rw[if_pos (hrb.1 rfl)]at hfe;have:=fin2 (by omega);simp[Az,A6,k1,k6,A7,hx,A5,hN];exact hΦ _ _ _ ⟨rfl,.inr ⟨rfl,by simp[A6];omega,by omega⟩⟩
  |true =>
   rw[if_neg (λq=>by simpa using hrb.2 q)]at hfe;by_cases hz:me=0
   .rw[if_neg (by simp[hfe,hz])]at hr;simp[Az,A6,k1,k6,A7,hx,hw,A5,hN,hM,hz];exact G0 hJ ⟨i+1,by omega,by simp[A6],rfl,hr⟩
   .have:=fin2 (by omega);simp[Az,A6,k1,k6,A7,hx,A5,hN,hM,hz];exact hΦ _ _ _ ⟨rfl,.inr ⟨rfl,by simp[A6];omega,by omega⟩⟩
 .rw[A0Q (by omega)]at hr;simp[Az,A6,k1,k6,A7];exact hΦ _ _ _ ⟨rfl,.inl ⟨rfl,hr.symm⟩⟩
theorem gK (m:I6) (l:List Gol) (hs:∀g∈l,Tm.sizes g.data<=1099511627776) (B9:l.length<=1099511627776) (b0 b1 b2 b3 b4:AV) (bx:List (List AV))
  (fr:Fr) (h:AH) (hh:h=⟨[b0,b1,b2,b3,b4,sl m 5 (l.map Eo)]::bx,[]⟩) (hl:fr.length=107) (h1:A0 fr 1=.ptr 0 0) (h8:A0 fr 8=.int .i64 0) :
  B7 (lp (A2 (K8 Q) (D6 Fu) Cg) (fr,h)) λe C3 h'=>Kp Cg.wr fr C3/\(e=.exit 4/\D3 MQ l=0\/e=.ret/\A0 C3 2=.int .i64 (D3 MQ l)):=by
 refine B4 rfl fr (λn fr h'=>∃(i:Nat),i+n=l.length/\A0 fr 8=.int .i64 (i:Nat)/\h'=h/\D3 MQ (l.drop i)=D3 MQ l) ?_ l.length h ⟨0,by omega,h8,rfl,rfl⟩;rintro J Φ hJ hΦ n D5 Cw K ⟨i,hi,k8,rfl,hr⟩;subst hh;have A6:=K.1.trans hl;have k1:=A8 K 1 h1;by_cases A7:i<l.length
 .have hx:=G1 (f:=Eo) (A0O A7);have hw:=C6 i (by omega);have hM:=jk l[i] (hs _ (A0Y A7));rw[A0P A7]at hr;simp only[D3]at hr;generalize l[i]=f at *
  generalize MQ f=e at *
  simp only[Eo]at hx hM;by_cases hz:e=0
  .rw[if_neg (by simp[hz])]at hr;simp[Cg,A6,k1,k8,A7,hx,hw,hM,hz];exact G0 hJ ⟨i+1,by omega,by simp[A6],rfl,hr⟩
  .rw[if_pos hz]at hr;simp[Cg,A6,k1,k8,A7,hx,hM,hz];exact hΦ _ _ _ (.inr ⟨rfl,by simp[A6,hr]⟩)
 .rw[A0Q (by omega)]at hr;simp[Cg,A6,k1,k8,A7];exact hΦ _ _ _ (.inl ⟨rfl,hr.symm⟩)
theorem YI (n:Nar) (F:Fine n):pc Q Fu [G5 n]=some (.int .i64 (PX n)):=by
 have hN:=Jo n.name;have hU:=jf n;have hR:=YD n.rm n.roles F.rolesL;have hT:=YD n.tm n.tags F.tagsL;have hS:=gL n.sm n.steps F.steps F.stepsL;have hG:=gK n.gm n.goals (λg hg=>(F.goals g hg).2.2) F.goalsL;have hFr:=gJ n.fm n.fresh F.freshL;refine H8 GC λfr hl h0=>?_;have hv:PX n=if KL n≠0 then KL n else if D3 KJ n.steps≠0 then D3 KJ n.steps else D3 MQ n.goals:=rfl
 have hhd:KL n=if P4 n.name=false then 2 else if RS n≠0 then RS n else if n.roles.any Ip=true then 2 else if D3 Lc n.fresh≠0 then D3 Lc n.fresh else if n.tags.any Ip=true then 2 else 0:=rfl
 generalize PX n=v at *
 generalize KL n=q at *
 generalize RS n=u at *
 clear F;obtain⟨name,rm,roles,fm,fresh,tm,tags,sm,steps,gm,goals⟩:=n;simp only[G5,DL]at *
 generalize P4 name=nb at *
 generalize roles.any Ip=rb at *
 generalize tags.any Ip=tb at *
 generalize D3 Lc fresh=fe at *
 generalize D3 KJ steps=se at *
 generalize D3 MQ goals=ge at *
 simp[GC]at hl h0;cases nb with
 |false =>
  rw[if_pos rfl]at hhd;rw[if_pos (by omega)]at hv;subst hv hhd;simp[GC,hl,h0,hN]
 |true =>
  rw[if_neg (by simp)]at hhd;by_cases hu:u=0
  .subst hu;rw[if_neg (by simp)]at hhd;cases rb with
   |true =>
    rw[if_pos rfl]at hhd;rw[if_pos (by omega)]at hv;subst hv hhd;simp[GC,hl,h0,hN,hU,hR]
   |false =>
    rw[if_neg (by simp)]at hhd;simp[GC,hl,h0,hN,hU,hR];refine B7.mono (hFr _ _ _ _ _ _ _ rfl ?_ ?_ ?_) ?_<;>first|(simp[hl];done)|skip
    rintro e D5 h1 ⟨K,⟨bx,rfl⟩,⟨rfl,hz⟩|⟨rfl,k2,hz⟩⟩
    .have A6:D5.length=107:=K.1.trans (by simp[hl]);have k1:A0 D5 1=.ptr 0 0:=A8 K 1 (by simp[hl]);clear K;rw[if_neg (by omega)]at hhd;cases tb with
     |true =>
      rw[if_pos rfl]at hhd;rw[if_pos (by omega)]at hv;subst hv hhd;simp[A6,k1,hT]
     |false =>
      rw[if_neg (by simp)]at hhd;rw[if_neg (by omega)]at hv;simp[A6,k1,hT];refine B7.mono (hS _ _ _ _ _ bx _ _ rfl ?_ ?_ ?_) ?_<;>first|(simp[A6,k1];done)|skip
      rintro e R3 h2 ⟨K,rfl,⟨rfl,hz⟩|⟨rfl,k2,hz⟩⟩
      .have CK:R3.length=107:=K.1.trans (by simp[A6]);have k1':A0 R3 1=.ptr 0 0:=A8 K 1 (by simp[k1]);clear K;rw[if_neg (by omega)]at hv;simp;refine B7.mono (hG _ _ _ _ _ bx _ _ rfl ?_ ?_ ?_) ?_<;>first|(simp[CK,k1'];done)|skip
       rintro e fr3 h3 ⟨K,⟨rfl,hz⟩|⟨rfl,k2⟩⟩
       .have hl3:fr3.length=107:=K.1.trans (by simp[CK]);simp[hl3,hv,hz]
       .simp[k2,hv]
      .rw[if_pos hz]at hv;simp[k2,hv]
    .rw[if_pos hz]at hhd;rw[if_pos (by omega)]at hv;simp[k2,hv,hhd]
  .rw[if_pos hu]at hhd;rw[if_pos (by omega)]at hv;subst hv hhd;simp[GC,hl,h0,hN,hU,hu]
def Ol:List Ste->Nat
 | []=>0
 |s::l=>s.msg.size+Ol l
def RF:List Gol->Nat
 | []=>0
 |g::l=>Tm.sizes g.data+RF l
theorem P9 (a:G6) (t:Tm):A4 (a++[t])=A4 a++[B8 t]:=by simp[C9]
theorem an (a b:G6):A4 (a++b)=A4 a++A4 b:=by simp[C9]
theorem ib (m:I6) (l:List Ste) (B9:l.length<=1099511627776) (J5:Ol l<=1099511627776) (b0 b1 b2 b3 b5:AV)
  (fr:Fr) (h:AH) (hh:h.boxes=[[b0,b1,b2,b3,sl m 7 (l.map El),b5]]) (hl:fr.length=67) (h1:A0 fr 1=.ptr 0 0) (h3:A0 fr 3=.vs true 0 []) (h4:A0 fr 4=.int .i64 0) :
  B7 (lp (A2 (K8 Q) (D6 Ep) IQ) (fr,h)) λe C3 h'=>Kp IQ.wr fr C3/\h'.boxes=h.boxes/\e=.exit 0/\∃acc:List Tm,Du 4 (A4 acc) (A0 C3 3) h'/\Tm.sizes acc<=Ol l:=by
 refine B4 rfl fr (λn fr h'=>∃(i:Nat) (acc:List Tm),i+n=l.length/\A0 fr 4=.int .i64 (i:Nat)/\h'.boxes=h.boxes/\Du 4 (A4 acc) (A0 fr 3) h'/\Tm.sizes acc+Ol (l.drop i)<=Ol l) ?_ l.length h ⟨0,[],by omega,h4,rfl,by rw[h3];exact Cu _ _,by simp[Tm.sizes]⟩;rintro J Φ hJ hΦ n D5 ⟨bx,fams⟩ K ⟨i,acc,hi,k4,hb,hg,hs⟩;rw[hh]at hb;simp only at hb;subst hb;have A6:=K.1.trans hl;have k1:=A8 K 1 h1;have hal:=Tm.length_le acc;by_cases A7:i<l.length
 .have hx:=G1 (f:=El) (A0O A7);have hw:=C6 i (by omega);rw[A0P A7]at hs;simp only[Ol]at hs;generalize l[i]=f at *
  obtain⟨r,nm,t,ln⟩:=f;simp only at hs;obtain⟨v',h',ha,Z9,Qn⟩:=Ag (c:=D6 Ep) (bytes:=56) (x:=B8 t) hg rfl (true,true) (by simp;omega) (by simp;omega);have hts:=t.size_pos;obtain⟨tk,tn,ts,tm,tl⟩:=t;have hg2:Du 4 (A4 (acc++[.mk tk tn ts tm tl])) v' h':=by rw[P9];exact Z9
  simp only[El,B8,Mg,A0a,A0c]at hx ha;simp[IQ,A6,k1,k4,A7,hx,hw,A5,ha];exact G0 hJ ⟨i+1,acc++[.mk tk tn ts tm tl],by omega,by simp[A6],by rw[Qn,hh],by simp[A6];exact hg2,by rw[Tm.sizes_append];simp only[Tm.sizes];omega⟩
 .rw[A0Q (by omega)]at hs;simp only[Ol]at hs;simp[IQ,A6,k1,k4,A7];exact hΦ _ _ _ ⟨hh.symm,rfl,acc,by simp;exact hg,by omega⟩
theorem ia (m:I6) (l:List Gol) (B9:l.length<=1099511627776) (acc0:G6) (J5:Tm.sizes acc0+RF l<=1099511627776) (b0 b1 b2 b3 b4:AV)
  (fr:Fr) (h:AH) (hh:h.boxes=[[b0,b1,b2,b3,b4,sl m 5 (l.map Eo)]]) (hl:fr.length=67) (h1:A0 fr 1=.ptr 0 0) (h3:Du 4 (A4 acc0) (A0 fr 3) h) (h5:A0 fr 5=.int .i64 0) :
  B7 (lp (A2 (K8 Q) (D6 Ep) IP) (fr,h)) λe C3 h'=>Kp IP.wr fr C3/\e=.exit 2/\∃acc:List Tm,Du 4 (A4 acc) (A0 C3 3) h'/\Tm.sizes acc<=1099511627776:=by
 refine B4 rfl fr (λn fr h'=>∃(i:Nat) (acc:List Tm),i+n=l.length/\A0 fr 5=.int .i64 (i:Nat)/\h'.boxes=h.boxes/\Du 4 (A4 acc) (A0 fr 3) h'/\Tm.sizes acc+RF (l.drop i)<=1099511627776) ?_ l.length h ⟨0,acc0,by omega,h5,rfl,h3,J5⟩;rintro J Φ hJ hΦ n D5 ⟨bx,fams⟩ K ⟨i,acc,hi,k5,hb,hg,hs⟩;rw[hh]at hb;simp only at hb;subst hb;have A6:=K.1.trans hl;have k1:=A8 K 1 h1;have hal:=Tm.length_le acc;by_cases A7:i<l.length
 .have hx:=G1 (f:=Eo) (A0O A7);have hw:=C6 i (by omega);rw[A0P A7]at hs;simp only[RF]at hs;generalize l[i]=g at *
  have Dm:=Tm.length_le g.data;obtain⟨v',h',ha,Z9,Qn⟩:=Nz (c:=D6 Ep) (bytes:=56) (x:=sl g.dm 4 (A4 g.data)) (ys:=A4 g.data) hg rfl (N0 _ _ _ _) (by simp[H3,maxLen];omega);have hg2:Du 4 (A4 (acc++g.data)) v' h':=by rw[an];exact Z9
  simp only[Eo]at hx;simp[IP,A6,k1,k5,A7,hx,hw,ha];exact G0 hJ ⟨i+1,acc++g.data,by omega,by simp[A6],by rw[Qn,hh],by simp[A6];exact hg2,by rw[Tm.sizes_append];omega⟩
 .rw[A0Q (by omega)]at hs;simp only[RF]at hs;simp[IP,A6,k1,k5,A7];exact hΦ _ _ _ ⟨rfl,acc,by simp;exact hg,by omega⟩
theorem bg (m:I6) (l:List Ste) (B9:l.length<=1099511627776) (J5:Ol l<=1099511627776) (b0 b1 b2 b3 b5:AV)
  (fr:Fr) (h:AH) (hh:h.boxes=[[b0,b1,b2,b3,sl m 7 (l.map El),b5]]) (hl:fr.length=54) (h1:A0 fr 1=.ptr 0 0) (h3:A0 fr 3=.vs true 0 []) (h4:A0 fr 4=.int .i64 0) :
  B7 (lp (A2 (K8 Q) (D6 BS) Fe) (fr,h)) λe C3 h'=>Kp Fe.wr fr C3/\h'.boxes=h.boxes/\e=.exit 0/\∃acc:List Tm,Du 4 (A4 acc) (A0 C3 3) h'/\Tm.sizes acc<=Ol l:=by
 refine B4 rfl fr (λn fr h'=>∃(i:Nat) (acc:List Tm),i+n=l.length/\A0 fr 4=.int .i64 (i:Nat)/\h'.boxes=h.boxes/\Du 4 (A4 acc) (A0 fr 3) h'/\Tm.sizes acc+Ol (l.drop i)<=Ol l) ?_ l.length h ⟨0,[],by omega,h4,rfl,by rw[h3];exact Cu _ _,by simp[Tm.sizes]⟩;rintro J Φ hJ hΦ n D5 ⟨bx,fams⟩ K ⟨i,acc,hi,k4,hb,hg,hs⟩;rw[hh]at hb;simp only at hb;subst hb;have A6:=K.1.trans hl;have k1:=A8 K 1 h1;have hal:=Tm.length_le acc;by_cases A7:i<l.length
 .have hx:=G1 (f:=El) (A0O A7);have hw:=C6 i (by omega);rw[A0P A7]at hs;simp only[Ol]at hs;generalize l[i]=f at *
  obtain⟨r,nm,t,ln⟩:=f;simp only at hs;obtain⟨v',h',ha,Z9,Qn⟩:=Ag (c:=D6 BS) (bytes:=56) (x:=B8 t) hg rfl (true,true) (by simp;omega) (by simp;omega);have hts:=t.size_pos;obtain⟨tk,tn,ts,tm,tl⟩:=t;have hg2:Du 4 (A4 (acc++[.mk tk tn ts tm tl])) v' h':=by rw[P9];exact Z9
  simp only[El,B8,Mg,A0a,A0c]at hx ha;simp[Fe,A6,k1,k4,A7,hx,hw,A5,ha];exact G0 hJ ⟨i+1,acc++[.mk tk tn ts tm tl],by omega,by simp[A6],by rw[Qn,hh],by simp[A6];exact hg2,by rw[Tm.sizes_append];simp only[Tm.sizes];omega⟩
 .rw[A0Q (by omega)]at hs;simp only[Ol]at hs;simp[Fe,A6,k1,k4,A7];exact hΦ _ _ _ ⟨hh.symm,rfl,acc,by simp;exact hg,by omega⟩
theorem be (m:I6) (l:List Gol) (B9:l.length<=1099511627776) (acc0:G6) (J5:Tm.sizes acc0+RF l<=1099511627776) (b0 b1 b2 b3 b4:AV)
  (fr:Fr) (h:AH) (hh:h.boxes=[[b0,b1,b2,b3,b4,sl m 5 (l.map Eo)]]) (hl:fr.length=54) (h1:A0 fr 1=.ptr 0 0) (h3:Du 4 (A4 acc0) (A0 fr 3) h) (h5:A0 fr 5=.int .i64 0) :
  B7 (lp (A2 (K8 Q) (D6 BS) Fd) (fr,h)) λe C3 h'=>Kp Fd.wr fr C3/\e=.exit 2/\∃acc:List Tm,Du 4 (A4 acc) (A0 C3 3) h'/\Tm.sizes acc<=1099511627776:=by
 refine B4 rfl fr (λn fr h'=>∃(i:Nat) (acc:List Tm),i+n=l.length/\A0 fr 5=.int .i64 (i:Nat)/\h'.boxes=h.boxes/\Du 4 (A4 acc) (A0 fr 3) h'/\Tm.sizes acc+RF (l.drop i)<=1099511627776) ?_ l.length h ⟨0,acc0,by omega,h5,rfl,h3,J5⟩;rintro J Φ hJ hΦ n D5 ⟨bx,fams⟩ K ⟨i,acc,hi,k5,hb,hg,hs⟩;rw[hh]at hb;simp only at hb;subst hb;have A6:=K.1.trans hl;have k1:=A8 K 1 h1;have hal:=Tm.length_le acc;by_cases A7:i<l.length
 .have hx:=G1 (f:=Eo) (A0O A7);have hw:=C6 i (by omega);rw[A0P A7]at hs;simp only[RF]at hs;generalize l[i]=g at *
  have Dm:=Tm.length_le g.data;obtain⟨v',h',ha,Z9,Qn⟩:=Nz (c:=D6 BS) (bytes:=56) (x:=sl g.dm 4 (A4 g.data)) (ys:=A4 g.data) hg rfl (N0 _ _ _ _) (by simp[H3,maxLen];omega);have hg2:Du 4 (A4 (acc++g.data)) v' h':=by rw[an];exact Z9
  simp only[Eo]at hx;simp[Fd,A6,k1,k5,A7,hx,hw,ha];exact G0 hJ ⟨i+1,acc++g.data,by omega,by simp[A6],by rw[Qn,hh],by simp[A6];exact hg2,by rw[Tm.sizes_append];omega⟩
 .rw[A0Q (by omega)]at hs;simp only[RF]at hs;simp[Fd,A6,k1,k5,A7];exact hΦ _ _ _ ⟨rfl,acc,by simp;exact hg,by omega⟩
theorem kr (h:AH) {acc:G6} {v:AV} (hg:Du 4 (A4 acc) v h) (hs:Tm.sizes acc<=1099511627776) (a b:Int) (hb:b<=9223372036854775807):∃u r,KI h true v=some u/\pc Q Lf [u,.int .i64 a,.int .i64 b]=some (.bool r):=by
 obtain⟨m,hm⟩:=SD hg;exact⟨_,_,hm,yB m acc a b hs hb⟩
theorem vX (n:Nar) (F:Fine n) (hS:Ol n.steps+RF n.goals<=1099511627776):∃b,pc Q Ep [G5 n]=some (.bool b):=by
 suffices h:∃r,pc Q Ep [G5 n]=some r/\∃b,r=.bool b by
  obtain⟨r,h1,b,rfl⟩:=h;exact⟨b,h1⟩
 have l1:=F.stepsL;have l2:=F.goalsL;clear F;obtain⟨name,rm,roles,fm,fresh,tm,tags,sm,steps,gm,goals⟩:=n;simp only at hS l1 l2;refine GV Er λΨ hΨ fr hl h0=>?_;simp[Er,G5]at hl h0;by_cases c1:(16:Int)<(roles.length:Int)
 .simp[Er,hl,h0,B6 c1];exact hΨ _ ⟨_,rfl⟩
 by_cases c2:(16:Int)<(fresh.length:Int)
 .simp[Er,hl,h0,A3 c1,B6 c2];exact hΨ _ ⟨_,rfl⟩
 by_cases c3:(16:Int)<(tags.length:Int)
 .simp[Er,hl,h0,A3 c1,A3 c2,B6 c3];exact hΨ _ ⟨_,rfl⟩
 by_cases c4:(16:Int)<(steps.length:Int)
 .simp[Er,hl,h0,A3 c1,A3 c2,A3 c3,B6 c4];exact hΨ _ ⟨_,rfl⟩
 by_cases c5:(16:Int)<(goals.length:Int)
 .simp[Er,hl,h0,A3 c1,A3 c2,A3 c3,A3 c4,B6 c5];exact hΨ _ ⟨_,rfl⟩
 simp[Er,hl,h0,A3 c1,A3 c2,A3 c3,A3 c4,A3 c5];refine B7.mono (ib sm steps l1 (by omega) _ _ _ _ _ _ _ rfl ?_ ?_ ?_ ?_) ?_<;>first|(simp[hl];done)|skip
 rintro e D5 ⟨bx,fams⟩ ⟨K,hb,rfl,acc,hg,hs⟩;simp only at hb;subst hb;have A6:D5.length=67:=K.1.trans (by simp[hl]);have k1:A0 D5 1=.ptr 0 0:=A8 K 1 (by simp[hl]);clear K;simp;refine B7.mono (ia gm goals l2 acc (by omega) _ _ _ _ _ _ _ rfl ?_ ?_ ?_ ?_) ?_<;>first|(simp[A6,k1];done)|skip
 .simp;exact hg
 rintro e R3 h2 ⟨K,rfl,acc,hg,hs⟩;have CK:R3.length=67:=K.1.trans (by simp[A6]);obtain⟨u,r,hu,hp⟩:=kr h2 hg hs 100 900 (by omega);simp[CK,hu,hp];exact hΨ _ ⟨_,rfl⟩
theorem sZ (n:Nar) (F:Fine n) (hS:Ol n.steps+RF n.goals<=1099511627776):∃b,pc Q BS [G5 n]=some (.bool b):=by
 suffices h:∃r,pc Q BS [G5 n]=some r/\∃b,r=.bool b by
  obtain⟨r,h1,b,rfl⟩:=h;exact⟨b,h1⟩
 obtain⟨bf,hF⟩:=vX n F hS;have l1:=F.stepsL;have l2:=F.goalsL;clear F;obtain⟨name,rm,roles,fm,fresh,tm,tags,sm,steps,gm,goals⟩:=n;simp only at hS l1 l2;refine GV GB λΨ hΨ fr hl h0=>?_;simp[GB,G5]at hl h0 hF;cases bf with
 |false =>
  simp[GB,hl,h0,hF];exact hΨ _ ⟨_,rfl⟩
 |true =>
  by_cases c4:(5:Int)<(steps.length:Int)
  .simp[GB,hl,h0,hF,B6 c4];exact hΨ _ ⟨_,rfl⟩
  by_cases c5:(5:Int)<(goals.length:Int)
  .simp[GB,hl,h0,hF,A3 c4,B6 c5];exact hΨ _ ⟨_,rfl⟩
  simp[GB,hl,h0,hF,A3 c4,A3 c5];refine B7.mono (bg sm steps l1 (by omega) _ _ _ _ _ _ _ rfl ?_ ?_ ?_ ?_) ?_<;>first|(simp[hl];done)|skip
  rintro e D5 ⟨bx,fams⟩ ⟨K,hb,rfl,acc,hg,hs⟩;simp only at hb;subst hb;have A6:D5.length=54:=K.1.trans (by simp[hl]);have k1:A0 D5 1=.ptr 0 0:=A8 K 1 (by simp[hl]);clear K;simp;refine B7.mono (be gm goals l2 acc (by omega) _ _ _ _ _ _ _ rfl ?_ ?_ ?_ ?_) ?_<;>first|(simp[A6,k1];done)|skip
  .simp;exact hg
  rintro e R3 h2 ⟨K,rfl,acc,hg,hs⟩;have CK:R3.length=54:=K.1.trans (by simp[A6]);obtain⟨u,r,hu,hp⟩:=kr h2 hg hs 25 60 (by omega);simp[CK,hu,hp];exact hΨ _ ⟨_,rfl⟩
@[simp] theorem frz1_vm (h:AH) (am:Bool) (ks vs:G4):Em h am (.vm ks vs)=some (.vm ks vs):=_root_.id rfl
@[simp] theorem frz_vm (h:AH) (am:Bool) (ks vs:G4):KI h am (.vm ks vs)=some (.vm ks vs):=_root_.id rfl
@[simp] theorem tame1_vm (h:AH) (ks vs:G4):KM h (.vm ks vs)=true:=_root_.id rfl
@[simp] theorem isTup_vm (ks vs:G4):(AV.vm ks vs).isTup=false:=_root_.id rfl
@[simp] theorem A0D (ks vs:G4):(AV.vm ks vs).cells=[.vm ks vs]:=_root_.id rfl
@[simp] theorem isTup_mp (b:Nat):(AV.mp b).isTup=false:=_root_.id rfl
@[simp] theorem A0C (b:Nat):(AV.mp b).cells=[.mp b]:=_root_.id rfl
theorem Za (a b:J3):XM true (.str a) (.str b)=some (V9 a b):=by
 have:(a == b)=V9 a b:=by
  rw[Bool.eq_iff_iff,IX];obtain⟨a⟩:=a;obtain⟨b⟩:=b;show (a == b)=true↔_;rw[beq_iff_eq,ByteArray.mk.injEq]
 simp[XM,this]
theorem TU (a:J3):∀(l:List ByteArray) (i:Nat),l.any (V9 a)=true->Mr true (.str a) (l.map AV.str) i=some (some (S9 (V9 a) i l).toNat)
 | [],i,h=>by cases h
 |b::l,i,h=>by
  simp only[A0Z,Mr,Za,S9];cases hb:V9 a b with
  |true=>simp
  |false =>
   rw[A0g,hb,Bool.false_or]at h;simp only[TU a l (i+1) h];simp
theorem Pt (a:J3):∀(l:List ByteArray) (i:Nat),l.any (V9 a)=false->Mr true (.str a) (l.map AV.str) i=some none
 | [],i,_=>rfl
 |b::l,i,h=>by
  rw[A0g,Bool.or_eq_false_iff]at h;simp only[A0Z,Mr,Za,h.1];exact Pt a l (i+1) h.2
theorem jB (m:I6) (l:List ByteArray) (x:J3) (B9:l.length<=1099511627776) (fr:Fr) (h:AH) (hl:fr.length=19)
  (h0:A0 fr 0=sl m 1 (l.map AV.str)) (h1:A0 fr 1=.str x) (h5:A0 fr 5=.int .i64 0) :
  B7 (lp (A2 (K8 Q) (D6 R1) Cl) (fr,h)) λe C3 h'=>Kp Cl.wr fr C3/\(e=.exit 0/\idx (V9 x) l=-1\/e=.ret/\A0 C3 4=.int .i64 (idx (V9 x) l)):=by
 refine B4 rfl fr (λn fr h=>∃i,i+n=l.length/\A0 fr 5=.int .i64 (i:Nat)/\S9 (V9 x) i (l.drop i)=idx (V9 x) l) ?_ l.length h ⟨0,by omega,h5,rfl⟩;rintro J Φ hJ hΦ n D5 Cw K ⟨i,hi,k5,hr⟩;have A6:=K.1.trans hl;have k0:=A8 K 0 h0;have k1:=A8 K 1 h1;by_cases A7:i<l.length
 .have hx:=G1 (f:=AV.str) (A0O A7);have hw:=C6 i (by omega);rw[A0P A7]at hr;simp only[S9,V9,decide_eq_true_eq]at hr;generalize l[i]=a at *
  by_cases hc:x.toList=a.toList
  .rw[if_pos hc]at hr;simp[Cl,A6,k0,k1,k5,A7,hx,hc];exact hΦ _ _ _ (.inr ⟨rfl,by simp[A6];exact hr⟩)
  .have hc':¬a.toList=x.toList:=λe=>hc e.symm;rw[if_neg hc]at hr;simp[Cl,A6,k0,k1,k5,A7,hx,hw,hc'];exact G0 hJ ⟨i+1,by omega,by simp[A6],hr⟩
 .rw[A0Q (by omega)]at hr;simp[Cl,A6,k0,k5,A7];exact hΦ _ _ _ (.inl ⟨rfl,hr.symm⟩)
theorem sW (m:I6) (l:List ByteArray) (x:J3) (B9:l.length<=1099511627776):pc Q R1 [DL m l,.str x]=some (.int .i64 (idx (V9 x) l)):=by
 refine M9 PA λfr hl h0 h1=>?_;simp[PA,DL]at hl h0 h1;simp[PA];refine(jB m l x B9 _ _ (by simp[hl]) (by simp[h0]) (by simp[h1]) (by simp[hl])).mono ?_;rintro e C3 h' ⟨K,⟨rfl,he⟩|⟨rfl,h4⟩⟩
 .have hl':C3.length=19:=K.1.trans (by simp[hl]);simp[hl',he]
 .simp[h4]
def B5 (n:Nar):List ByteArray:=n.roles++n.fresh.map Fre.name++n.tags
def G8 (n:Nar):List Int:=n.roles.map (λ_=>1)++n.fresh.map Fre.sort++n.tags.map (λ_=>5)
def Yn (a b:List AV) (v w:AV) (h:AH):Prop:=(a=[]/\v=.vs true 0 []/\b=[]/\w=.vs true 0 [])\/(a≠[]/\b≠[]/\∃j k,j≠k/\v=.sl j a.length 0 a.length/\h.fams[j]?=some ⟨a,1,false⟩/\w=.sl k b.length 0 b.length/\h.fams[k]?=some ⟨b,1,false⟩)
theorem bC {c:Ctx} {a b:G4} {v w x y:AV} {h:AH} (hg:Yn a b v w h) (hm:c.mutApp=false) (m m':I6) (p q:Nat) (hp:p<=16) (hq:q<=16) (ha:a.length<=1099511627776) (hb:b.length<=1099511627776) :
  ∃v' h1 w' h2,K3 c h 1 p v (sl m 1 [x])=some (v',h1)/\K3 c h1 1 q w (sl m' 1 [y])=some (w',h2)/\Yn (a++[x]) (b++[y]) v' w' h2/\h1.boxes=h.boxes/\h2.boxes=h.boxes:=by
 have r0:(1:Nat)*p<=H3/\1<=maxLen:=by simp only[H3,maxLen];omega
 have r1:(1:Nat)*q<=H3/\1<=maxLen:=by simp only[H3,maxLen];omega
 have ra:(a.length+1)*p<=H3/\a.length+1<=maxLen:=by
  simp only[H3,maxLen];have:=A0h (a.length+1) hp;omega
 have rb:(b.length+1)*q<=H3/\b.length+1<=maxLen:=by
  simp only[H3,maxLen];have:=A0h (b.length+1) hq;omega
 rcases hg with ⟨rfl,rfl,rfl,rfl⟩|⟨hna,hnb,j,k,hjk,rfl,hj,rfl,hk⟩
 .refine⟨.sl h.fams.length 1 0 1,⟨h.boxes,h.fams++[⟨[x],1,false⟩]⟩,.sl (h.fams.length+1) 1 0 1,⟨h.boxes,h.fams++[⟨[x],1,false⟩]++[⟨[y],1,false⟩]⟩,?_,?_,?_,rfl,rfl⟩
  .rw[Po,N0,A0V,if_neg (by simp),A0X,if_pos r0,hm]
  .rw[Po,N0,A0V,if_neg (by simp),A0X,if_pos r1,hm];simp
  .refine .inr ⟨by simp,by simp,h.fams.length,h.fams.length+1,by omega,by simp,by simp,by simp,by simp⟩
 .have hj':=H5 hj;have Dv:=H5 hk;refine⟨.sl j (a.length+1) 0 (a.length+1),⟨h.boxes,h.fams.set j ⟨a++[x],1,false⟩⟩,.sl k (b.length+1) 0 (b.length+1),⟨h.boxes,(h.fams.set j ⟨a++[x],1,false⟩).set k ⟨b++[y],1,false⟩⟩,?_,?_,?_,rfl,rfl⟩
  .rw[LV,N0,A0V,hj,A0V,A0X,if_pos ⟨rfl,rfl,by omega,ra⟩]
  .rw[LV,N0,A0V];simp only;rw[A0e hjk,hk,A0V,A0X,if_pos ⟨rfl,rfl,by omega,rb⟩]
  .refine .inr ⟨by simp,by simp,j,k,hjk,by simp,?_,by simp,?_⟩
   .simp only;rw[A0e (λe=>hjk e.symm),A0d hj']
   .simp only;rw[A0d (by simpa using Dv)]
theorem uM {a b:G4} {v w:AV} {h:AH} (hg:Yn a b v w h):∃m m',KI h true v=some (sl m 1 a)/\KI h true w=some (sl m' 1 b):=by
 rcases hg with ⟨rfl,rfl,rfl,rfl⟩|⟨hna,hnb,j,k,hjk,rfl,hj,rfl,hk⟩
 .exact⟨(true,false),(true,false),WY _ _,WY _ _⟩
 .refine⟨(false,true),(false,true),?_,?_⟩
  .rw[PS,CU,hj,A0V,if_pos ⟨rfl,by omega,rfl⟩];simp
  .rw[PS,CU,hk,A0V,if_pos ⟨rfl,by omega,rfl⟩];simp
theorem eY (m:I6) (l:List ByteArray) (B9:l.length<=1099511627776) (b0 b2 b3 b4 b5:AV) (fr:Fr) (h:AH) (hh:h.boxes=[[b0,sl m 1 (l.map AV.str),b2,b3,b4,b5]]) (hl:fr.length=72) (h1:A0 fr 1=.ptr 0 0)
  (h4:A0 fr 4=.vs true 0 []) (h5:A0 fr 5=.vs true 0 []) (h6:A0 fr 6=.int .i64 0) :
  B7 (lp (A2 (K8 Q) (D6 X1) Fi) (fr,h)) λe C3 h'=>Kp Fi.wr fr C3/\e=.exit 0/\h'.boxes=h.boxes/\Yn (l.map AV.str) ((l.map λ_=>(1:Int)).map (AV.int .i64)) (A0 C3 4) (A0 C3 5) h':=by
 refine B4 rfl fr (λn fr h'=>∃i,i+n=l.length/\A0 fr 6=.int .i64 (i:Nat)/\h'.boxes=h.boxes/\Yn ((l.take i).map AV.str) (((l.take i).map λ_=>(1:Int)).map (AV.int .i64)) (A0 fr 4) (A0 fr 5) h') ?_ l.length h ⟨0,by omega,h6,rfl,.inl ⟨rfl,h4,rfl,h5⟩⟩;rintro J Φ hJ hΦ n D5 ⟨bx,fams⟩ K ⟨i,hi,k6,hb,hg⟩;rw[hh]at hb;simp only at hb;subst hb;have A6:=K.1.trans hl;have k1:=A8 K 1 h1;by_cases A7:i<l.length
 .have hx:=G1 (f:=AV.str) (A0O A7);have hw:=C6 i (by omega);obtain⟨v',Cw,w',h2',ha1,ha2,Z9,hb1,hb2⟩:=bC (c:=D6 X1) (x:=.str l[i]) (y:=.int .i64 1) hg rfl (true,true) (true,true) 16 8 (by omega) (by omega) (by simp;omega) (by simp;omega);have hg2:Yn ((l.take (i+1)).map AV.str) (((l.take (i+1)).map λ_=>(1:Int)).map (AV.int .i64)) v' w' h2':=by
   rw[A0R A7,A0S,A0S,A0S];exact Z9
  have tw:∀F:Fr,A0 F 4=v'->A0 F 5=w'->Yn ((l.take (i+1)).map AV.str) (((l.take (i+1)).map λ_=>(1:Int)).map (AV.int .i64)) (A0 F 4) (A0 F 5) h2':=λF e4 e5=>by rw[e4,e5];exact hg2
  generalize l[i]=a at *
  simp[Fi,A6,k1,k6,A7,hx,hw,A5,ha1,ha2];exact G0 hJ ⟨i+1,by omega,by simp[A6],by rw[hb2,hh],tw _ (by simp[A6]) (by simp[A6])⟩
 .have e:l.take i=l:=A0U (by omega);rw[e]at hg;have tw:∀F:Fr,A0 F 4=A0 D5 4->A0 F 5=A0 D5 5->Yn (l.map AV.str) ((l.map λ_=>(1:Int)).map (AV.int .i64)) (A0 F 4) (A0 F 5) _:=λF e4 e5=>by rw[e4,e5];exact hg
  simp[Fi,A6,k1,k6,A7];exact hΦ _ _ _ ⟨rfl,by rw[hh],tw _ (by simp) (by simp)⟩
theorem eX (m:I6) (l:List Fre) (B9:l.length<=1048576) (A B:G4) (hA:A.length<=1048576) (hB:B.length<=1048576) (b0 b1 b3 b4 b5:AV) (fr:Fr) (h:AH) (hh:h.boxes=[[b0,b1,sl m 3 (l.map Lq),b3,b4,b5]]) (hl:fr.length=72) (h1:A0 fr 1=.ptr 0 0)
  (h45:Yn A B (A0 fr 4) (A0 fr 5) h) (h7:A0 fr 7=.int .i64 0) :
  B7 (lp (A2 (K8 Q) (D6 X1) Fh) (fr,h)) λe C3 h'=>Kp Fh.wr fr C3/\e=.exit 2/\h'.boxes=h.boxes/\Yn (A++(l.map Fre.name).map AV.str) (B++(l.map Fre.sort).map (AV.int .i64)) (A0 C3 4) (A0 C3 5) h':=by
 refine B4 rfl fr (λn fr h'=>∃i,i+n=l.length/\A0 fr 7=.int .i64 (i:Nat)/\h'.boxes=h.boxes/\Yn (A++((l.take i).map Fre.name).map AV.str) (B++((l.take i).map Fre.sort).map (AV.int .i64)) (A0 fr 4) (A0 fr 5) h') ?_ l.length h ⟨0,by omega,h7,rfl,by rw[A0k,A0W,A0W,A0W,A0W,A0b,A0b];exact h45⟩;rintro J Φ hJ hΦ n D5 ⟨bx,fams⟩ K ⟨i,hi,k7,hb,hg⟩;rw[hh]at hb;simp only at hb;subst hb;have A6:=K.1.trans hl;have k1:=A8 K 1 h1;by_cases A7:i<l.length
 .have hx:=G1 (f:=Lq) (A0O A7);have hw:=C6 i (by omega);obtain⟨v',Cw,w',h2',ha1,ha2,Z9,hb1,hb2⟩:=bC (c:=D6 X1) (x:=.str l[i].name) (y:=.int .i64 l[i].sort) hg rfl (true,true) (true,true) 16 8 (by omega) (by omega) (by simp;omega) (by simp;omega);have hg2:Yn (A++((l.take (i+1)).map Fre.name).map AV.str) (B++((l.take (i+1)).map Fre.sort).map (AV.int .i64)) v' w' h2':=by
   rw[A0R A7,A0S,A0S,A0S,A0S,←A0T,←A0T];exact Z9
  have tw:∀F:Fr,A0 F 4=v'->A0 F 5=w'->Yn (A++((l.take (i+1)).map Fre.name).map AV.str) (B++((l.take (i+1)).map Fre.sort).map (AV.int .i64)) (A0 F 4) (A0 F 5) h2':=λF e4 e5=>by rw[e4,e5];exact hg2
  generalize l[i]=a at *
  obtain⟨r,nm,so⟩:=a;simp only[Lq]at hx ha1 ha2;simp[Fh,A6,k1,k7,A7,hx,hw,OH,AV.flat,A5,ha1,ha2,hb1];exact G0 hJ ⟨i+1,by omega,by simp[A6],by rw[hb2,hh],tw _ (by simp[A6]) (by simp[A6])⟩
 .have e:l.take i=l:=A0U (by omega);rw[e]at hg;have tw:∀F:Fr,A0 F 4=A0 D5 4->A0 F 5=A0 D5 5->Yn (A++(l.map Fre.name).map AV.str) (B++(l.map Fre.sort).map (AV.int .i64)) (A0 F 4) (A0 F 5) _:=λF e4 e5=>by rw[e4,e5];exact hg
  simp[Fh,A6,k1,k7,A7];exact hΦ _ _ _ ⟨rfl,by rw[hh],tw _ (by simp) (by simp)⟩
theorem eV (m:I6) (l:List ByteArray) (B9:l.length<=1048576) (A B:G4) (hA:A.length<=2097152) (hB:B.length<=2097152) (b0 b1 b2 b4 b5:AV) (fr:Fr) (h:AH) (hh:h.boxes=[[b0,b1,b2,sl m 1 (l.map AV.str),b4,b5]]) (hl:fr.length=72) (h1:A0 fr 1=.ptr 0 0)
  (h45:Yn A B (A0 fr 4) (A0 fr 5) h) (h8:A0 fr 8=.int .i64 0) :
  B7 (lp (A2 (K8 Q) (D6 X1) Fg) (fr,h)) λe C3 h'=>Kp Fg.wr fr C3/\e=.exit 4/\h'.boxes=h.boxes/\Yn (A++l.map AV.str) (B++(l.map λ_=>(5:Int)).map (AV.int .i64)) (A0 C3 4) (A0 C3 5) h':=by
 refine B4 rfl fr (λn fr h'=>∃i,i+n=l.length/\A0 fr 8=.int .i64 (i:Nat)/\h'.boxes=h.boxes/\Yn (A++(l.take i).map AV.str) (B++((l.take i).map λ_=>(5:Int)).map (AV.int .i64)) (A0 fr 4) (A0 fr 5) h') ?_ l.length h ⟨0,by omega,h8,rfl,by rw[A0k,A0W,A0W,A0W,A0b,A0b];exact h45⟩;rintro J Φ hJ hΦ n D5 ⟨bx,fams⟩ K ⟨i,hi,k8,hb,hg⟩;rw[hh]at hb;simp only at hb;subst hb;have A6:=K.1.trans hl;have k1:=A8 K 1 h1;by_cases A7:i<l.length
 .have hx:=G1 (f:=AV.str) (A0O A7);have hw:=C6 i (by omega);obtain⟨v',Cw,w',h2',ha1,ha2,Z9,hb1,hb2⟩:=bC (c:=D6 X1) (x:=.str l[i]) (y:=.int .i64 5) hg rfl (true,true) (true,true) 16 8 (by omega) (by omega) (by simp;omega) (by simp;omega);have hg2:Yn (A++(l.take (i+1)).map AV.str) (B++((l.take (i+1)).map λ_=>(5:Int)).map (AV.int .i64)) v' w' h2':=by
   rw[A0R A7,A0S,A0S,A0S,←A0T,←A0T];exact Z9
  have tw:∀F:Fr,A0 F 4=v'->A0 F 5=w'->Yn (A++(l.take (i+1)).map AV.str) (B++((l.take (i+1)).map λ_=>(5:Int)).map (AV.int .i64)) (A0 F 4) (A0 F 5) h2':=λF e4 e5=>by rw[e4,e5];exact hg2
  generalize l[i]=a at *
  simp[Fg,A6,k1,k8,A7,hx,hw,A5,ha1,ha2];exact G0 hJ ⟨i+1,by omega,by simp[A6],by rw[hb2,hh],tw _ (by simp[A6]) (by simp[A6])⟩
 .have e:l.take i=l:=A0U (by omega);rw[e]at hg;have tw:∀F:Fr,A0 F 4=A0 D5 4->A0 F 5=A0 D5 5->Yn (A++l.map AV.str) (B++(l.map λ_=>(5:Int)).map (AV.int .i64)) (A0 F 4) (A0 F 5) _:=λF e4 e5=>by rw[e4,e5];exact hg
  simp[Fg,A6,k1,k8,A7];exact hΦ _ _ _ ⟨rfl,by rw[hh],tw _ (by simp) (by simp)⟩
structure Short (n:Nar):Prop where
 roles:n.roles.length<=1048576
 fresh:n.fresh.length<=1048576
 tags:n.tags.length<=1048576
theorem Xv (n:Nar) (S:Short n):∃r,pc Q X1 [G5 n]=some r/\∃m m':Bool×Bool,r=.tup [DL m (B5 n),sl m' 1 ((G8 n).map (AV.int .i64))]:=by
 have s1:=S.roles;have s2:=S.fresh;have s3:=S.tags;clear S;refine GV Oz λΨ hΨ fr hl h0=>?_;have en:(B5 n).map AV.str=n.roles.map AV.str++(n.fresh.map Fre.name).map AV.str++n.tags.map AV.str:=by simp only[B5,A0S]
 have es:(G8 n).map (AV.int .i64)=(n.roles.map λ_=>(1:Int)).map (AV.int .i64)++(n.fresh.map Fre.sort).map (AV.int .i64)++(n.tags.map λ_=>(5:Int)).map (AV.int .i64):=by simp only[G8,A0S]
 simp only[DL,en,es]at hΨ;clear en es;obtain⟨name,rm,roles,fm,fresh,tm,tags,sm,steps,gm,goals⟩:=n;simp only at *
 simp[Oz,G5]at hl h0;simp[Oz,h0];refine B7.mono (eY rm roles (by omega) _ _ _ _ _ _ _ rfl ?_ ?_ ?_ ?_ ?_) ?_<;>first|(simp[hl];done)|skip
 rintro e D5 ⟨bx,fams⟩ ⟨K,rfl,hb,hg⟩;simp only at hb;subst hb;have A6:D5.length=72:=K.1.trans (by simp[hl]);have k1:A0 D5 1=.ptr 0 0:=A8 K 1 (by simp[hl]);clear K;have tw:∀F:Fr,A0 F 4=A0 D5 4->A0 F 5=A0 D5 5->Yn (roles.map AV.str) ((roles.map λ_=>(1:Int)).map (AV.int .i64)) (A0 F 4) (A0 F 5) _:=λF e4 e5=>by rw[e4,e5];exact hg
 clear hg;simp;refine B7.mono (eX fm fresh (by omega) (roles.map AV.str) ((roles.map λ_=>(1:Int)).map (AV.int .i64)) (by simp;omega) (by simp;omega) _ _ _ _ _ _ _ rfl ?_ ?_ (tw _ ?_ ?_) ?_) ?_<;>first|(simp[A6,k1];done)|skip
 rintro e R3 ⟨bx,fams2⟩ ⟨K,rfl,hb,hg⟩;simp only at hb;subst hb;have CK:R3.length=72:=K.1.trans (by simp[A6]);have k1':A0 R3 1=.ptr 0 0:=A8 K 1 (by simp[k1]);clear K tw;have tw:∀F:Fr,A0 F 4=A0 R3 4->A0 F 5=A0 R3 5->Yn (roles.map AV.str++(fresh.map Fre.name).map AV.str) ((roles.map λ_=>(1:Int)).map (AV.int .i64)++(fresh.map Fre.sort).map (AV.int .i64)) (A0 F 4) (A0 F 5) _:=λF e4 e5=>by rw[e4,e5];exact hg
 clear hg;simp;refine B7.mono (eV tm tags (by omega) (roles.map AV.str++(fresh.map Fre.name).map AV.str) ((roles.map λ_=>(1:Int)).map (AV.int .i64)++(fresh.map Fre.sort).map (AV.int .i64)) (by simp;omega) (by simp;omega) _ _ _ _ _ _ _ rfl ?_ ?_ (tw _ ?_ ?_) ?_) ?_<;>first|(simp[CK,k1'];done)|skip
 rintro e fr3 h3 ⟨K,rfl,hb,hg⟩;have hl3:fr3.length=72:=K.1.trans (by simp[CK]);obtain⟨m,m',e1,e2⟩:=uM hg;generalize hA:roles.map AV.str++(fresh.map Fre.name).map AV.str++tags.map AV.str=A at *
 generalize hB:(roles.map λ_=>(1:Int)).map (AV.int .i64)++(fresh.map Fre.sort).map (AV.int .i64)++(tags.map λ_=>(5:Int)).map (AV.int .i64)=B at *
 simp[hl3,e1,e2];exact hΨ _ ⟨m,m',rfl⟩
def kE (m:Bool×Bool) (n:Nar):AV:=.agg [sl m 1 (n.roles.map .str),.vm ((B5 n).map .str) ((G8 n).map (.int .i64))]
theorem cA (h:AH) (b:Nat) (ks:List ByteArray) (vs:G4) (k:J3) (x:Int) (hb:h.boxes[b]?=some [.mbox (ks.map .str) vs]) (hk:ks.any (V9 k)=false) :
  ZA true h (.mp b) (.str k) (.int .i64 x)=some (C5,{h with boxes:=h.boxes.set b [.mbox ((ks++[k]).map .str) (vs++[.int .i64 x])]}):=by
 simp only[ZA,hb,uw,Sq,Pt k ks 0 hk];simp
end Go.Abs.Q
namespace Go.Abs
section
variable {O:Orc} {c:Ctx} {d:Option Nat} {op:ROp} {O2:List RO} {fr:Fr} {h:AH} {Ψ:Ex->Fr->AH->Prop}
theorem P2 (b:Bool) {x y:RCode}:B7 (xH (.bool b) O c x y fr h) Ψ=((b=true->B7 (A2 O c x (fr,h)) Ψ)/\(b=false->B7 (A2 O c y (fr,h)) Ψ)):=by
 cases b<;>simp
theorem L5 (b:Bool):B7 (krg (uC (.bool b) true O c d op O2 fr h)) Ψ=((b=true->B7 (krg (uE (A9 O c op fr h) O c d O2 fr)) Ψ)/\(b=false->B7 (krg (L8 O c O2 (put fr d C5) h)) Ψ)):=by
 cases b<;>simp
end
def Tm.kind:Tm->Int | .mk k _ _ _ _=>k
def Tm.name:Tm->ByteArray | .mk _ n _ _ _=>n
def Tm.sort:Tm->Int | .mk _ _ s _ _=>s
def Tm.cm:Tm->Bool×Bool | .mk _ _ _ m _=>m
def Tm.kids:Tm->List Tm | .mk _ _ _ _ l=>l
@[simp] theorem I3 (t:Tm):(B8 t).cells=[.int .i64 t.kind,.str t.name,.int .i64 t.sort,sl t.cm 4 (A4 t.kids)]:=by cases t;rfl
@[simp] theorem VX (t:Tm):AV.agg [.int .i64 t.kind,.str t.name,.int .i64 t.sort,sl t.cm 4 (A4 t.kids)]=B8 t:=by cases t;rfl
@[simp] theorem tm_isTup (t:Tm):(B8 t).isTup=false:=by cases t;rfl
@[simp] theorem tm_frz (h:AH) (am:Bool) (t:Tm):KI h am (B8 t)=some (B8 t):=by cases t;rfl
@[simp] theorem tm_tame (h:AH) (t:Tm):CO h (B8 t)=true:=by cases t;rfl
@[simp] theorem zc (h:AH) (t:Tm):DZ h (B8 t)=some (B8 t):=by cases t;rfl
theorem Tm.kids_size (t:Tm):t.size=1+Tm.sizes t.kids:=by cases t;rfl
theorem tm_mk (k:Int) (n:J3) (s:Int) (m:I6) (l:G6):AV.agg [.int .i64 k,.str n,.int .i64 s,sl m 4 (A4 l)]=B8 (.mk k n s m l):=rfl
@[simp] theorem lenA_vs (h:AH) (f:Bool) (sz:Nat) (xs:G4):bd h (.vs f sz xs)=some (.int .i64 xs.length,h):=rfl
@[simp] theorem zu (fr:Fr):L7 fr none=some none:=rfl
@[simp] theorem zt (fr:Fr) (k:IntKind) (i:Int):L7 fr (some (.c (.int k i)))=some (some i):=rfl
@[simp] theorem zw (fr:Fr) (n:Nat):L7 fr (some (.t n))=(match A0 fr n with | .int _ i=>some (some i)|_=>none):=rfl
namespace Q
@[simp] theorem go_cells (g:Gol):(Eo g).cells=[.int .i64 g.kind,.str g.role,.str g.wth,sl g.dm 4 (A4 g.data),.int .i64 g.line]:=rfl
@[simp] theorem go_agg (g:Gol):AV.agg [.int .i64 g.kind,.str g.role,.str g.wth,sl g.dm 4 (A4 g.data),.int .i64 g.line]=Eo g:=rfl
@[simp] theorem go_isTup (g:Gol):(Eo g).isTup=false:=rfl
@[simp] theorem go_frz (h:AH) (am:Bool) (g:Gol):KI h am (Eo g)=some (Eo g):=rfl
@[simp] theorem go_tame (h:AH) (g:Gol):CO h (Eo g)=true:=rfl
@[simp] theorem gW (s:Ste):(El s).cells=[.str s.frm,.str s.to,.int .i64 s.msg.kind,.str s.msg.name,.int .i64 s.msg.sort,sl s.msg.cm 4 (A4 s.msg.kids),.int .i64 s.line]:=by simp[El]
@[simp] theorem st_agg (s:Ste):AV.agg [.str s.frm,.str s.to,.int .i64 s.msg.kind,.str s.msg.name,.int .i64 s.msg.sort,sl s.msg.cm 4 (A4 s.msg.kids),.int .i64 s.line]=El s:=by simp[El]
@[simp] theorem st_isTup (s:Ste):(El s).isTup=false:=rfl
@[simp] theorem st_frz (h:AH) (am:Bool) (s:Ste):KI h am (El s)=some (El s):=by obtain⟨_,_,t,_⟩:=s;cases t;rfl
@[simp] theorem st_tame (h:AH) (s:Ste):CO h (El s)=true:=by obtain⟨_,_,t,_⟩:=s;cases t;rfl
@[simp] theorem UD (f:Fre):(Lq f).cells=[.str f.role,.str f.name,.int .i64 f.sort]:=rfl
@[simp] theorem fr_agg (f:Fre):AV.agg [.str f.role,.str f.name,.int .i64 f.sort]=Lq f:=rfl
@[simp] theorem fr_isTup (f:Fre):(Lq f).isTup=false:=rfl
@[simp] theorem fr_frz (h:AH) (am:Bool) (f:Fre):KI h am (Lq f)=some (Lq f):=rfl
@[simp] theorem fr_tame (h:AH) (f:Fre):CO h (Lq f)=true:=rfl
theorem E9 (n:Nar):(G5 n).cells=[.str n.name,sl n.rm 1 (n.roles.map .str),sl n.fm 3 (n.fresh.map Lq),sl n.tm 1 (n.tags.map .str),sl n.sm 7 (n.steps.map El),sl n.gm 5 (n.goals.map Eo)]:=rfl
@[simp] theorem na_agg (n:Nar):AV.agg [.str n.name,sl n.rm 1 (n.roles.map .str),sl n.fm 3 (n.fresh.map Lq),sl n.tm 1 (n.tags.map .str),sl n.sm 7 (n.steps.map El),sl n.gm 5 (n.goals.map Eo)]=G5 n:=rfl
@[simp] theorem na_isTup (n:Nar):(G5 n).isTup=false:=rfl
@[simp] theorem na_frz (h:AH) (am:Bool) (n:Nar):KI h am (G5 n)=some (G5 n):=rfl
@[simp] theorem na_tame (h:AH) (n:Nar):CO h (G5 n)=true:=rfl
end Q
end Go.Abs
namespace Go.Abs.Q
open Go.Proofs
def s8 (t:Tm) (nm:ByteArray) (n:Int):Bool:=decide (t.kind=3)&&decide (t.name=nm)&&decide ((t.kids.length:Int)=n)
def Bu (rs:List ByteArray) (t:Tm):Bool:=decide (t.kind=2)&&rs.any (V9 t.name)
def TW (f:Tm->Bool):List Tm->Bool
 |a::_=>f a
 |_=>false
def QL (f:Tm->Bool):List Tm->Bool
 |_::b::_=>f b
 |_=>false
def CJ (rs:List ByteArray) (t:Tm):Bool:=s8 t (bs [115,107]) 1&&TW (Bu rs) t.kids
def HU (rs:List ByteArray) (t:Tm):Bool:=s8 t (bs [112,107]) 1&&TW (CJ rs) t.kids
def uf:List Tm->Bool
 |a::b::_=>decide (a.name≠b.name)
 |_=>false
def VS (rs:List ByteArray) (t:Tm):Bool:=s8 t (bs [115,104,107]) 2&&TW (Bu rs) t.kids&&QL (Bu rs) t.kids&&uf t.kids
def Iy (rs:List ByteArray) (t:Tm):Int :=
 if s8 t (bs [112,97,105,114]) 2=true\/s8 t (bs [101,110,99]) 2=true then 2
 else if s8 t (bs [104,97,115,104]) 1=true then 1
 else if (s8 t (bs [97,101,110,99]) 2=true/\QL (HU rs) t.kids=true)\/(s8 t (bs [115,105,103,110]) 2=true/\QL (CJ rs) t.kids=true)then 1
 else if HU rs t=true\/VS rs t=true then 0 else -1
mutual
def x8 (ns rs:List ByteArray):Tm->Int
 | .mk k nm s m l=>if k≠3 then (if ns.any (V9 nm)=true then 0 else 13)else if Iy rs (.mk k nm s m l)<0 then 10 else YZ ns rs (Iy rs (.mk k nm s m l)).toNat l
def YZ (ns rs:List ByteArray):Nat->List Tm->Int
 |0,_=>0
 |_,[]=>0
 |n+1,t::l=>if x8 ns rs t≠0 then x8 ns rs t else YZ ns rs n l
end
theorem WB (ns rs:List ByteArray):∀(l:G6) (n:Nat),YZ ns rs n l=D3 (x8 ns rs) (l.take n)
 | [],0=>by simp[YZ,D3]
 | [],n+1=>by simp[YZ,D3]
 |t::l,0=>by simp[YZ,D3]
 |t::l,n+1=>by simp[YZ,D3,WB ns rs l n]
theorem SZ (ns rs:List ByteArray) (t:Tm):x8 ns rs t=if t.kind≠3 then (if ns.any (V9 t.name)=true then 0 else 13)else if Iy rs t<0 then 10 else D3 (x8 ns rs) (t.kids.take (Iy rs t).toNat):=by
 rw[←WB];cases t;rw[x8];rfl
def NR (rs:List ByteArray) (a b:ByteArray):Int:=if rs.any (V9 a)=true/\rs.any (V9 b)=true then (if a=b then 1 else 0)else 13
def Im (ns rs:List ByteArray) (g:Gol):Int :=
 if rs.any (V9 g.role)=false then 13 else if Nt g=true/\NR rs g.role g.wth≠0 then NR rs g.role g.wth else D3 (x8 ns rs) g.data
def Gq (ns rs:List ByteArray) (s:Ste):Int:=if NR rs s.frm s.to≠0 then NR rs s.frm s.to else x8 ns rs s.msg
def S5 {α:Type} (g:α->Int) (ln:α->Int):List α->Int×Int
 | []=>(0,0)
 |a::l=>if g a≠0 then (ln a,g a)else S5 g ln l
def NF (seen:List ByteArray) (a:ByteArray) (f:Bool):Int:=if Qd a=true then 2 else if f=true/\(a=bs [101]\/a=bs [103])then 1 else if seen.any (V9 a)=true then 5 else 0
def zH (rs:List ByteArray):Option ByteArray->Bool
 |some x=>rs.any (V9 x)
 |none=>true
def a8 (rs:List ByteArray):List ByteArray->List (ByteArray×Option ByteArray)->Int
 |_,[]=>0
 |seen,(a,f)::r=>if NF seen a f.isSome≠0 then NF seen a f.isSome else if zH rs f=false then 13 else a8 rs (seen++[a]) r
theorem Qy (rs:List ByteArray):∀(a b:List (ByteArray×Option ByteArray)) (seen:List ByteArray),a8 rs seen (a++b)=if a8 rs seen a≠0 then a8 rs seen a else a8 rs (seen++a.map (·.1)) b
 | [],b,seen=>by simp[a8]
 |(x,f)::a,b,seen=>by
  have ih:=Qy rs a b (seen++[x]);by_cases h1:NF seen x f.isSome=0
  .by_cases h2:zH rs f=false
   .simp[a8,h1,h2]
   .rw[Bool.not_eq_false]at h2;simp[a8,h1,h2,ih]
  .simp[a8,h1]
def XL (n:Nar):List (ByteArray×Option ByteArray):=n.roles.map (λa=>(a,none))++n.fresh.map (λf=>(f.name,some f.role))++n.tags.map (λa=>(a,none))
def Hx (n:Nar):Int:=a8 n.roles [] (XL n)
def l8 (n:Nar):Int×Int :=
 if PX n≠0 then (0,PX n)else if Hx n≠0 then (0,Hx n)
 else if S5 (Gq (B5 n) n.roles) Ste.line n.steps≠(0,0)then S5 (Gq (B5 n) n.roles) Ste.line n.steps else S5 (Im (B5 n) n.roles) Gol.line n.goals
end Go.Abs.Q
namespace Go.Abs.Q
open Go.Proofs
attribute [local simp] E6 E7 fin K1 H4 P2 L5 R0 Q9
theorem XA {t:Tm} {nm:J3} (h:s8 t nm 1=true):∃a,t.kids=[a]:=by
 simp only[s8,A0i,decide_eq_true_eq]at h;exact List.length_eq_one_iff.1 (by omega)
theorem Vt (t:Tm) (nm:J3) (n:Int):pc Q De [B8 t,.str nm,.int .i64 n]=some (.bool (s8 t nm n)):=by
 refine Gp Th λfr hl h0 h1 h2=>?_;simp[Th]at hl h0 h1 h2;simp +contextual (maxSteps:=10000000) [Th,hl,h0,h1,h2,s8]
theorem HR (m:I6) (l:List ByteArray) (x:J3) (h:l.length<=1048576):pc Q I7 [sl m 1 (l.map AV.str),.str x]=some (.bool (l.any (V9 x))):=RU m l x (by omega)
theorem cj (m:I6) (rs:List ByteArray) (ks vs:G4) (hr:rs.length<=1048576) (t:Tm):pc Q Br [.agg [sl m 1 (rs.map .str),.vm ks vs],B8 t]=some (.bool (Bu rs t)):=by
 have hC:=HR m rs t.name hr;refine M9 Iu λfr hl h0 h1=>?_;simp[Iu]at hl h0 h1;simp +contextual (maxSteps:=10000000) [Iu,hl,h0,h1,Bu,hC]
theorem YE (m:I6) (rs:List ByteArray) (ks vs:G4) (hr:rs.length<=1048576) (t:Tm):pc Q CE [.agg [sl m 1 (rs.map .str),.vm ks vs],B8 t]=some (.bool (CJ rs t)):=by
 have hI:=Vt t (bs [115,107]) 1;refine M9 CG λfr hl h0 h1=>?_;simp[CG]at hl h0 h1;cases ha:s8 t (bs [115,107]) 1 with
 |false =>
  rw[ha]at hI;simp[CG,hl,h0,h1,CJ,hI,ha]
 |true =>
  rw[ha]at hI;obtain⟨a,hk⟩:=XA ha;have hx:Hm (A4 t.kids) 0=some (B8 a):=by rw[hk];rfl
  have hf:TW (Bu rs) t.kids=Bu rs a:=by rw[hk];rfl
  have hR:=cj m rs ks vs hr a;simp[CG,hl,h0,h1,CJ,hI,ha,hR,hx,hf]
theorem aP (m:I6) (rs:List ByteArray) (ks vs:G4) (hr:rs.length<=1048576) (t:Tm):pc Q DF [.agg [sl m 1 (rs.map .str),.vm ks vs],B8 t]=some (.bool (HU rs t)):=by
 have hI:=Vt t (bs [112,107]) 1;refine M9 DW λfr hl h0 h1=>?_;simp[DW]at hl h0 h1;cases ha:s8 t (bs [112,107]) 1 with
 |false =>
  rw[ha]at hI;simp[DW,hl,h0,h1,HU,hI,ha]
 |true =>
  rw[ha]at hI;obtain⟨a,hk⟩:=XA ha;have hx:Hm (A4 t.kids) 0=some (B8 a):=by rw[hk];rfl
  have hf:TW (CJ rs) t.kids=CJ rs a:=by rw[hk];rfl
  have hR:=YE m rs ks vs hr a;simp[DW,hl,h0,h1,HU,hI,ha,hR,hx,hf]
theorem sv (m:I6) (rs:List ByteArray) (ks vs:G4) (hr:rs.length<=1048576) (a b:J3):pc Q GQ [.agg [sl m 1 (rs.map .str),.vm ks vs],.str a,.str b]=some (.int .i64 (NR rs a b)):=by
 have c1:=HR m rs a hr;have c2:=HR m rs b hr;refine Gp KA λfr hl h0 h1 h2=>?_;simp[KA]at hl h0 h1 h2;have e:NR rs a b=if rs.any (V9 a)=true/\rs.any (V9 b)=true then (if a=b then 1 else 0)else 13:=rfl
 generalize NR rs a b=v at *
 generalize rs.any (V9 a)=x at *
 generalize rs.any (V9 b)=y at *
 cases x<;>cases y<;>simp +contextual [KA,hl,h0,h1,h2,c1,c2,e]
theorem KU {α:Type} (p:α->Bool):∀(l:List α) (i:Nat),S9 p i l<(i:Int)+l.length
 | [],i=>by simp[S9];omega
 |a::l,i=>by
  have:=KU p l (i+1);simp only[S9,List.length_cons];split<;>omega
theorem wK (ks:List ByteArray) (vs:List Int) (hkv:ks.length=vs.length) (h:AH) (a:J3) :
  ∃v,Gb true true (.int .i64 0) h (.vm (ks.map .str) (vs.map (.int .i64))) (.str a)=some (.tup [.int .i64 v,.bool (ks.any (V9 a))],h):=by
 cases hk:ks.any (V9 a)with
 |false=>exact⟨0,by simp[Gb,Sq,GM,Pt a ks 0 hk]⟩
 |true =>
  have hge:=(Da (V9 a) ks 0).2 hk;have A7:=KU (V9 a) ks 0;have hi:(S9 (V9 a) 0 ks).toNat<vs.length:=by omega
  refine⟨vs[(S9 (V9 a) 0 ks).toNat],?_⟩;simp[Gb,Sq,GM,TU a ks 0 hk,hi]
theorem nT (m:I6) (rs ns:List ByteArray) (vs:List Int) (m':I6) (l:G6) (B9:l.length<=1099511627776) (IH:∀t∈l,pc Q J7 [.agg [sl m 1 (rs.map .str),.vm (ns.map .str) (vs.map (.int .i64))],B8 t]=some (.int .i64 (x8 ns rs t))) (b1:G4) (fr:Fr) (h:AH) (hh:h.boxes=[[sl m 1 (rs.map .str),.vm (ns.map .str) (vs.map (.int .i64))],b1]) (hl:fr.length=98) (h2:A0 fr 2=.ptr 0 0) (h85:A0 fr 85=sl m' 4 (A4 l)) (h86:A0 fr 86=.int .i64 l.length) (h87:A0 fr 87=.int .i64 0) :
  B7 (lp (A2 (K8 Q) (D6 J7) T9) (fr,h)) λe C3 h'=>Kp T9.wr fr C3/\(e=.exit 1/\D3 (x8 ns rs) l=0\/e=.ret/\A0 C3 4=.int .i64 (D3 (x8 ns rs) l)):=by
 refine B4 rfl fr (λn fr h'=>∃(i:Nat),i+n=l.length/\A0 fr 87=.int .i64 (i:Nat)/\(∃B,h'.boxes=[sl m 1 (rs.map .str),.vm (ns.map .str) (vs.map (.int .i64))]::B)/\D3 (x8 ns rs) (l.drop i)=D3 (x8 ns rs) l) ?_ l.length h ⟨0,by omega,h87,⟨_,hh⟩,rfl⟩;rintro J Φ hJ hΦ n D5 H1 K ⟨i,hi,k87,hr⟩;have A6:=K.1.trans hl;have k2:=A8 K 2 h2;have k85:=A8 K 85 h85;have k86:=A8 K 86 h86;clear K;by_cases A7:i<l.length
 .have L4:=C6 i (by omega);obtain⟨⟨B,hB⟩,hr⟩:=hr;obtain⟨bx,fams⟩:=H1;simp only at hB;subst hB;have hx:=I0 A7;have hI:=IH l[i] (A0Y A7);rw[A0P A7]at hr;simp only[D3]at hr;generalize l[i]=t at *
  generalize x8 ns rs t=v at *
  by_cases hz:v=0
  .rw[if_neg (by simp[hz])]at hr;simp[T9,A6,k2,k85,k86,k87,A7,L4,hx,hI,hz];exact G0 hJ ⟨i+1,by omega,by simp[A6],⟨_,rfl⟩,hr⟩
  .rw[if_pos hz]at hr;simp[T9,A6,k2,k85,k86,k87,A7,hx,hI,hz];exact hΦ _ _ _ (.inr ⟨rfl,by simp[A6,hr]⟩)
 .obtain⟨_,hr⟩:=hr;rw[A0Q (by omega)]at hr;simp[T9,A6,k86,k87,A7];exact hΦ _ _ _ (.inl ⟨rfl,hr.symm⟩)
theorem JM {t:Tm} {nm:J3} {n:Int} (h:(t.kids.length:Int)≠n):s8 t nm n=false:=by simp[s8,h]
theorem eM {l:G6} (h:l.length=2):∃a b,l=[a,b]:=by
 match l,h with
 | [a,b],_=>exact⟨a,b,rfl⟩
theorem lR (m:I6) (rs ns:List ByteArray) (vs:List Int) (hr:rs.length<=1048576) (hkv:ns.length=vs.length):∀(n:Nat) (t:Tm),t.size<=n->t.size<=1099511627776 ->
  pc Q J7 [.agg [sl m 1 (rs.map .str),.vm (ns.map .str) (vs.map (.int .i64))],B8 t]=some (.int .i64 (x8 ns rs t)):=by
 intro n
 induction n with
 |zero=>intro t h;have:=t.size_pos;omega
 |succ n ih =>
  intro t hn hb;have J5:=t.kids_size;have B9:=Tm.length_le t.kids;have hkids:∀l:List Tm,(∀a∈l,a∈t.kids)->∀a∈l,pc Q J7 [.agg [sl m 1 (rs.map .str),.vm (ns.map .str) (vs.map (.int .i64))],B8 a]=some (.int .i64 (x8 ns rs a)) :=
   λl hs a ha=>ih a (by have:=Tm.size_le (hs a ha);omega) (by have:=Tm.size_le (hs a ha);omega)
  have GX:=λ(m':Bool×Bool) (l:List Tm) (hs:∀a∈l,a∈t.kids) (hl:l.length<=1099511627776)=>nT m rs ns vs m' l hl (hkids l hs);clear ih hkids;have hE:=SZ ns rs t;have p1:=Vt t (bs [112,97,105,114]) 2;have p2:=Vt t (bs [101,110,99]) 2;have p3:=Vt t (bs [104,97,115,104]) 1;have p4:=Vt t (bs [97,101,110,99]) 2;have p5:=Vt t (bs [115,105,103,110]) 2;have p6:=aP m rs (ns.map .str) (vs.map (.int .i64)) hr t;have p7:=Vt t (bs [115,104,107]) 2;generalize x8 ns rs t=v at *
  refine M9 H0 λfr hl h0 h1=>?_;simp[H0]at hl h0 h1;by_cases hk:t.kind=3
  .rw[if_neg (by simp[hk])]at hE;have key:∀(m':Bool×Bool) (l:List Tm) (D5:Fr) (h:AH),(∀a∈l,a∈t.kids)->l.length<=1099511627776->v=D3 (x8 ns rs) l->D5.length=98->A0 D5 2=.ptr 0 0->A0 D5 85=sl m' 4 (A4 l)->A0 D5 86=.int .i64 l.length->A0 D5 87=.int .i64 0->(∃b1,h.boxes=[[sl m 1 (rs.map .str),.vm (ns.map .str) (vs.map (.int .i64))],b1]) ->
     B7 (lp (A2 (K8 Q) (D6 J7) T9) (D5,h)) (BL 1 (SQ (K8 Q) (D6 J7) (.seq (.region false [⟨some 4,.mov (.c (.int .i64 0)),none⟩]) .ret) (kK [.tmp 4] (.int .i64 v)))):=by
    rintro m' l D5 h hs hll rfl hl q2 q85 q86 q87 ⟨b1,hb⟩;refine B7.mono (GX m' l hs hll b1 D5 h hb hl q2 q85 q86 q87) ?_;rintro e R3 h2 ⟨K,⟨rfl,hz⟩|⟨rfl,k4⟩⟩
    .have CK:=K.1.trans hl;simp[CK,hz]
    .simp[k4]
   by_cases h2:t.kids.length=2
   .obtain⟨x,y,hxy⟩:=eM h2;have n0:Hm (A4 t.kids) 0=some (B8 x):=by rw[hxy];rfl
    have n1:Hm (A4 t.kids) 1=some (B8 y):=by rw[hxy];rfl
    have s1:=gR ⟨[[sl m 1 (rs.map .str),.vm (ns.map .str) (vs.map (.int .i64))],[.int .i64 t.kind,.str t.name,.int .i64 t.sort,sl t.cm 4 (A4 t.kids)]],[]⟩ t.cm 4 (by omega) (A4 t.kids) 1 (by simp[h2]);rw[show ((1:Nat):Int)=1 from rfl]at s1;have c1:=aP m rs (ns.map .str) (vs.map (.int .i64)) hr y;have c2:=YE m rs (ns.map .str) (vs.map (.int .i64)) hr y;have c3:=cj m rs (ns.map .str) (vs.map (.int .i64)) hr x;have c4:=cj m rs (ns.map .str) (vs.map (.int .i64)) hr y;have f1:QL (HU rs) t.kids=HU rs y:=by rw[hxy];rfl
    have f2:QL (CJ rs) t.kids=CJ rs y:=by rw[hxy];rfl
    have f3:TW (Bu rs) t.kids=Bu rs x:=by rw[hxy];rfl
    have f4:QL (Bu rs) t.kids=Bu rs y:=by rw[hxy];rfl
    have f5:uf t.kids=decide (x.name≠y.name):=by rw[hxy];rfl
    have b3:s8 t (bs [104,97,115,104]) 1=false:=JM (by omega);have b6:HU rs t=false:=by simp[HU,JM (show (t.kids.length:Int)≠1 by omega)]
    simp only[Iy,VS,b3,b6,f1,f2,f3,f4,f5]at hE p3 p6;clear f1 f2 f3 f4 f5 b3 b6 GX;have ex1:∀{a b:ByteArray},a≠b->s8 t a 2=true->s8 t b 2=false:=λBE ha=>by
     simp only[s8,A0i,decide_eq_true_eq]at ha;simp[s8,ha.1.2,BE]
    have x45:=ex1 (a:=bs [97,101,110,99]) (b:=bs [115,105,103,110]) (by decide);have x47:=ex1 (a:=bs [97,101,110,99]) (b:=bs [115,104,107]) (by decide);have x57:=ex1 (a:=bs [115,105,103,110]) (b:=bs [115,104,107]) (by decide);clear ex1;generalize s8 t (bs [112,97,105,114]) 2=b1 at *
    generalize s8 t (bs [101,110,99]) 2=b2 at *
    generalize s8 t (bs [97,101,110,99]) 2=b4 at *
    generalize s8 t (bs [115,105,103,110]) 2=b5 at *
    generalize s8 t (bs [115,104,107]) 2=b7 at *
    generalize HU rs y=e1 at *
    generalize CJ rs y=e2 at *
    generalize Bu rs x=e3 at *
    generalize Bu rs y=e4 at *
    have t2:t.kids.take 2=t.kids:=A0U (by omega);cases b1 with
    |true =>
     simp[t2]at hE;simp[H0,hl,h0,h1,B6 hk,p1];exact key t.cm t.kids _ _ (λ_ h=>h) (by omega) hE (by simp[hl]) (by simp[hl]) (by simp[hl]) (by simp[hl]) (by simp[hl]) ⟨_,rfl⟩
    |false =>
     cases b2 with
     |true =>
      simp[t2]at hE;simp[H0,hl,h0,h1,B6 hk,p1,p2];exact key t.cm t.kids _ _ (λ_ h=>h) (by omega) hE (by simp[hl]) (by simp[hl]) (by simp[hl]) (by simp[hl]) (by simp[hl]) ⟨_,rfl⟩
     |false =>
      cases b4 with
      |true =>
       obtain rfl:=x45 rfl;obtain rfl:=x47 rfl;cases e1 with
       |true =>
        simp at hE;simp[H0,hl,h0,h1,B6 hk,p1,p2,p3,p4,n1,c1,s1];exact key _ _ _ _ (λq h=>A0f h) (by rw[A0j];omega) hE (by simp[hl]) (by simp[hl]) (by simp[hl,C9];rfl) (by simp[hl]) (by simp[hl]) ⟨_,rfl⟩
       |false =>
        simp at hE;subst hE;simp[H0,hl,h0,h1,B6 hk,p1,p2,p3,p4,p5,p6,p7,n1,c1]
      |false =>
       cases b5 with
       |true =>
        obtain rfl:=x57 rfl;cases e2 with
        |true =>
         simp at hE;simp[H0,hl,h0,h1,B6 hk,p1,p2,p3,p4,p5,n1,c2,s1];exact key _ _ _ _ (λq h=>A0f h) (by rw[A0j];omega) hE (by simp[hl]) (by simp[hl]) (by simp[hl,C9];rfl) (by simp[hl]) (by simp[hl]) ⟨_,rfl⟩
        |false =>
         simp at hE;subst hE;simp[H0,hl,h0,h1,B6 hk,p1,p2,p3,p4,p5,p6,p7,n1,c2]
       |false =>
        cases b7 with
        |false =>
         simp at hE;subst hE;simp[H0,hl,h0,h1,B6 hk,p1,p2,p3,p4,p5,p6,p7]
        |true =>
         cases e3 with
         |false =>
          simp at hE;subst hE;simp[H0,hl,h0,h1,B6 hk,p1,p2,p3,p4,p5,p6,p7,n0,c3]
         |true =>
          cases e4 with
          |false =>
           simp at hE;subst hE;simp[H0,hl,h0,h1,B6 hk,p1,p2,p3,p4,p5,p6,p7,n0,n1,c3,c4]
          |true =>
           by_cases hxn:x.name=y.name
           .simp[hxn]at hE;subst hE;simp[H0,hl,h0,h1,B6 hk,p1,p2,p3,p4,p5,p6,p7,n0,n1,c3,c4,B6 hxn]
           .simp[hxn,D3]at hE;subst hE;simp[H0,hl,h0,h1,B6 hk,p1,p2,p3,p4,p5,p6,p7,n0,n1,c3,c4,A3 hxn];exact key (true,false) [] _ _ (λq h=>nomatch h) (by simp) rfl (by simp[hl]) (by simp[hl]) (by simp[hl];exact In 4) (by simp[hl]) (by simp[hl]) ⟨_,rfl⟩
   .have b1:s8 t (bs [112,97,105,114]) 2=false:=JM (by omega);have b2:s8 t (bs [101,110,99]) 2=false:=JM (by omega);have b4:s8 t (bs [97,101,110,99]) 2=false:=JM (by omega);have b5:s8 t (bs [115,105,103,110]) 2=false:=JM (by omega);have b7:s8 t (bs [115,104,107]) 2=false:=JM (by omega);simp only[Iy,VS,b1,b2,b4,b5,b7]at hE p1 p2 p4 p5 p7;clear b1 b2 b4 b5 b7 GX;have t1:s8 t (bs [104,97,115,104]) 1=true->t.kids.take 1=t.kids:=λh=>by
     obtain⟨a,ha⟩:=XA h;rw[ha];rfl
    generalize s8 t (bs [104,97,115,104]) 1=b3 at *
    generalize HU rs t=b6 at *
    cases b3 with
    |true =>
     simp[t1 rfl]at hE;simp[H0,hl,h0,h1,B6 hk,p1,p2,p3];exact key t.cm t.kids _ _ (λ_ h=>h) (by omega) hE (by simp[hl]) (by simp[hl]) (by simp[hl]) (by simp[hl]) (by simp[hl]) ⟨_,rfl⟩
    |false =>
     cases b6 with
     |true =>
      simp[D3]at hE;subst hE;simp[H0,hl,h0,h1,B6 hk,p1,p2,p3,p4,p5,p6];exact key (true,false) [] _ _ (λq h=>nomatch h) (by simp) rfl (by simp[hl]) (by simp[hl]) (by simp[hl];exact In 4) (by simp[hl]) (by simp[hl]) ⟨_,rfl⟩
     |false =>
      simp at hE;subst hE;simp[H0,hl,h0,h1,B6 hk,p1,p2,p3,p4,p5,p6,p7]
  .rw[if_pos hk]at hE;obtain⟨z,hz⟩:=wK ns vs hkv ⟨[[sl m 1 (rs.map .str),.vm (ns.map .str) (vs.map (.int .i64))],[.int .i64 t.kind,.str t.name,.int .i64 t.sort,sl t.cm 4 (A4 t.kids)]],[]⟩ t.name;simp +contextual (maxSteps:=10000000) [H0,hl,h0,h1,hk,hz,hE]
theorem PP (rs seen:List ByteArray) (a:J3) (r:List (ByteArray×Option ByteArray)):a8 rs seen ((a,none)::r)=if NF seen a false≠0 then NF seen a false else a8 rs (seen++[a]) r:=by
 rw[a8];simp[zH]
theorem VA (rs seen:List ByteArray) (a x:J3) (r:List (ByteArray×Option ByteArray)):a8 rs seen ((a,some x)::r)=if NF seen a true≠0 then NF seen a true else if rs.any (V9 x)=false then 13 else a8 rs (seen++[a]) r:=by
 rw[a8];rfl
theorem L6 {sz:Nat} {acc:G4} {v:AV} {h:AH} (hg:Du sz acc v h):v.isTup=false/\v.cells=[v]/\Es [v]=false:=by
 rcases hg with ⟨_,rfl⟩|⟨_,k,rfl,_⟩<;>exact⟨rfl,rfl,rfl⟩
theorem cr (h:AH) (seen:List ByteArray) (v:AV) (hb:h.boxes[1]?=some [v]) (hg:Du 1 (seen.map .str) v h) (B9:seen.length<=1048576) (a:J3) (f:Bool) :
  ∃w h',rc Q M4 [.str a,.bool f,.ptr 1 0] h=some (w,h')/\w=.int .i64 (NF seen a f)/\(NF seen a f=0->∃v',h'.boxes=h.boxes.set 1 [v']/\Du 1 ((seen++[a]).map .str) v' h'):=by
 have hH:pc Q Bs [.str a,.str (bs [35])]=some (.bool (Qd a)):=yG a 35;obtain⟨m,hm⟩:=SD hg;have hC:=HR m seen a B9;obtain⟨v',h',ha,Z9,Qn⟩:=Ag (c:=D6 M4) (bytes:=16) (x:=.str a) hg rfl (true,true) (by simp;omega) (by simp;omega);have hg2:Du 1 ((seen++[a]).map AV.str) v' h':=by rw[A0S];exact Z9
 have hv:=(L6 hg).2.2;obtain⟨c1,c2,c3⟩:=L6 Z9;have A7:1<h.boxes.length:=H5 hb;have hE:NF seen a f=if Qd a=true then 2 else if f=true/\(a=bs [101]\/a=bs [103])then 1 else if seen.any (V9 a)=true then 5 else 0:=rfl
 generalize NF seen a f=z at *
 generalize seen.any (V9 a)=s at *
 generalize Qd a=x at *
 refine cn Q3 λfr hl h0 h1 h2=>?_;simp[Q3]at hl h0 h1 h2;cases x with
 |true =>
  simp at hE;simp[Q3,hl,h0,hH,hE]
 |false =>
  cases f with
  |true =>
   by_cases he:a=bs [101]
   .subst he;simp at hE;simp[Q3,hl,h0,h1,hH,hE]
   .by_cases hg:a=bs [103]
    .subst hg;simp at hE;simp[Q3,hl,h0,h1,hH,hE,A3 he]
    .simp[he,hg]at hE;cases s with
     |true =>
      simp at hE;simp[Q3,hl,h0,h1,h2,hH,hE,A3 he,A3 hg,hb,hv,hm,hC]
     |false =>
      simp at hE;subst hE;simp[Q3,hl,h0,h1,h2,hH,A3 he,A3 hg,hb,hv,hm,hC,A5,ha,Qn,c1,c2];exact⟨v',rfl,Bi Z9 rfl⟩
  |false =>
   cases s with
   |true =>
    simp at hE;simp[Q3,hl,h0,h1,h2,hH,hE,hb,hv,hm,hC]
   |false =>
    simp at hE;subst hE;simp[Q3,hl,h0,h1,h2,hH,hb,hv,hm,hC,A5,ha,Qn,c1,c2];exact⟨v',rfl,Bi Z9 rfl⟩
theorem nG (m:I6) (rs seen:List ByteArray) (l:List ByteArray) (B9:seen.length+l.length<=1048576) (A:G4) (fr:Fr) (h:AH) (hh:∃v B,h.boxes=A::[v]::B/\Du 1 (seen.map .str) v h) (hl:fr.length=64) (h4:A0 fr 4=.fn M4 [.ptr 1 0]) (h16:A0 fr 16=sl m 1 (l.map .str)) (h17:A0 fr 17=.int .i64 l.length) (h18:A0 fr 18=.int .i64 0) :
  B7 (lp (A2 (K8 Q) (D6 U8) AB) (fr,h)) λe C3 h'=>Kp AB.wr fr C3/\(e=.exit 0/\a8 rs seen (l.map λa=>(a,none))=0/\(∃v B,h'.boxes=A::[v]::B/\Du 1 ((seen++l).map .str) v h')\/e=.ret/\A0 C3 2=.int .i64 (a8 rs seen (l.map λa=>(a,none)))/\a8 rs seen (l.map λa=>(a,none))≠0):=by
 refine B4 rfl fr (λn fr h'=>∃(i:Nat),i+n=l.length/\A0 fr 18=.int .i64 (i:Nat)/\(∃v B,h'.boxes=A::[v]::B/\Du 1 ((seen++l.take i).map .str) v h')/\a8 rs (seen++l.take i) ((l.drop i).map λa=>(a,none))=a8 rs seen (l.map λa=>(a,none))) ?_ l.length h ⟨0,by omega,h18,by simpa using hh,by simp⟩;rintro J Φ hJ hΦ n D5 H1 K ⟨i,hi,k18,hr⟩;have A6:=K.1.trans hl;have k4:=A8 K 4 h4;have k16:=A8 K 16 h16;have k17:=A8 K 17 h17;clear K;by_cases A7:i<l.length
 .have L4:=C6 i (by omega);obtain⟨⟨v,B,hB,hg⟩,hr⟩:=hr;have hx:=G1 (f:=AV.str) (A0O A7);obtain⟨w,h',hN,hw2,hz⟩:=cr H1 _ v (by rw[hB];rfl) hg (by simp;omega) l[i] false;subst hw2;rw[A0P A7,A0Z]at hr;rw[PP]at hr;by_cases XU:NF (seen++l.take i) l[i] false=0
  .obtain⟨v',hb',Z9⟩:=hz XU;rw[if_neg (by simp[XU])]at hr;simp[AB,A6,k4,k16,k17,k18,A7,L4,hx,hN,XU];exact G0 hJ ⟨i+1,by omega,by simp[A6],⟨v',B,by rw[hb',hB];rfl,by rw[A0R A7,←A0T];exact Z9⟩,by rw[A0R A7,←A0T];exact hr⟩
  .rw[if_pos XU]at hr;simp[AB,A6,k4,k16,k17,k18,A7,hx,hN,XU];exact hΦ _ _ _ (.inr ⟨rfl,by simp[A6,hr],by rw[←hr];exact XU⟩)
 .obtain⟨hh',hr⟩:=hr;rw[A0Q (by omega)]at hr;rw[A0U (by omega)]at hr hh';simp only[A0W,a8]at hr;simp[AB,A6,k17,k18,A7];exact hΦ _ _ _ (.inl ⟨rfl,hr.symm,hh'⟩)
theorem nD (m:I6) (rs seen:List ByteArray) (l:List ByteArray) (B9:seen.length+l.length<=1048576) (A:G4) (fr:Fr) (h:AH) (hh:∃v B,h.boxes=A::[v]::B/\Du 1 (seen.map .str) v h) (hl:fr.length=64) (h4:A0 fr 4=.fn M4 [.ptr 1 0]) (h51:A0 fr 51=sl m 1 (l.map .str)) (h52:A0 fr 52=.int .i64 l.length) (h53:A0 fr 53=.int .i64 0) :
  B7 (lp (A2 (K8 Q) (D6 U8) AA) (fr,h)) λe C3 h'=>Kp AA.wr fr C3/\(e=.exit 4/\a8 rs seen (l.map λa=>(a,none))=0/\(∃v B,h'.boxes=A::[v]::B/\Du 1 ((seen++l).map .str) v h')\/e=.ret/\A0 C3 2=.int .i64 (a8 rs seen (l.map λa=>(a,none)))/\a8 rs seen (l.map λa=>(a,none))≠0):=by
 refine B4 rfl fr (λn fr h'=>∃(i:Nat),i+n=l.length/\A0 fr 53=.int .i64 (i:Nat)/\(∃v B,h'.boxes=A::[v]::B/\Du 1 ((seen++l.take i).map .str) v h')/\a8 rs (seen++l.take i) ((l.drop i).map λa=>(a,none))=a8 rs seen (l.map λa=>(a,none))) ?_ l.length h ⟨0,by omega,h53,by simpa using hh,by simp⟩;rintro J Φ hJ hΦ n D5 H1 K ⟨i,hi,k53,hr⟩;have A6:=K.1.trans hl;have k4:=A8 K 4 h4;have k51:=A8 K 51 h51;have k52:=A8 K 52 h52;clear K;by_cases A7:i<l.length
 .have L4:=C6 i (by omega);obtain⟨⟨v,B,hB,hg⟩,hr⟩:=hr;have hx:=G1 (f:=AV.str) (A0O A7);obtain⟨w,h',hN,hw2,hz⟩:=cr H1 _ v (by rw[hB];rfl) hg (by simp;omega) l[i] false;subst hw2;rw[A0P A7,A0Z]at hr;rw[PP]at hr;by_cases XU:NF (seen++l.take i) l[i] false=0
  .obtain⟨v',hb',Z9⟩:=hz XU;rw[if_neg (by simp[XU])]at hr;simp[AA,A6,k4,k51,k52,k53,A7,L4,hx,hN,XU];exact G0 hJ ⟨i+1,by omega,by simp[A6],⟨v',B,by rw[hb',hB];rfl,by rw[A0R A7,←A0T];exact Z9⟩,by rw[A0R A7,←A0T];exact hr⟩
  .rw[if_pos XU]at hr;simp[AA,A6,k4,k51,k52,k53,A7,hx,hN,XU];exact hΦ _ _ _ (.inr ⟨rfl,by simp[A6,hr],by rw[←hr];exact XU⟩)
 .obtain⟨hh',hr⟩:=hr;rw[A0Q (by omega)]at hr;rw[A0U (by omega)]at hr hh';simp only[A0W,a8]at hr;simp[AA,A6,k52,k53,A7];exact hΦ _ _ _ (.inl ⟨rfl,hr.symm,hh'⟩)
end Go.Abs.Q
