/- A part of the proof. -/
import Derived.Test.YtohjdamplbhdpaaGreatDoorSE10
set_option linter.all false
open List renaming take_succ_eq_append_getElem->A0Z,getElem?_eq_getElem->A0a,drop_eq_getElem_cons->A0b,append_assoc->A0c,map_append->A0d,drop_eq_nil_of_le->A0e,take_of_length_le->A0f,map_nil->A0g,append_nil->A0h,map_cons->A0i,nil_append->A0k,length_singleton->A0l,take_zero->A0m,set_cons_succ->A0n,set_cons_zero->A0o,getElem?_set_self->A0q,getElem?_set_ne->A0r,mem_of_mem_take->A0s,cons_append->A0v,length_take->A0w,any_cons->A0x
open Option renaming bind_some->A0j
open Function renaming comp_def->A0p
open Nat renaming mul_le_mul_left->A0t
open Bool renaming and_eq_true->A0u
namespace Go.Abs.Q
open Go.Proofs
attribute [local simp] E6 E8 fin K1 H2
def Oq:List Ste->Nat
 | []=>0
 |s::l=>s.msg.size+Oq l
def RR:List Gol->Nat
 | []=>0
 |g::l=>Tm.sizes g.data+RR l
theorem Q0 (a:G7) (t:Tm):A4 (a++[t])=A4 a++[B9 t]:=by simp[C9]
theorem ay (a b:G7):A4 (a++b)=A4 a++A4 b:=by simp[C9]
theorem ir (m:I6) (l:List Ste) (B8:l.length<=1099511627776) (J4:Oq l<=1099511627776) (b0 b1 b2 b3 b5:AV)
  (fr:Fr) (h:AH) (hh:h.boxes=[[b0,b1,b2,b3,sl m 7 (l.map EP),b5]]) (hl:fr.length=67) (h1:A0 fr 1=.ptr 0 0) (h3:A0 fr 3=.vs true 0 []) (h4:A0 fr 4=.int .i64 0) :
  B6 (lp (A2 (K8 Q) (D6 FC) Ih) (fr,h)) λe C3 h'=>Kp Ih.wr fr C3/\h'.boxes=h.boxes/\e=.exit 0/\∃acc:List Tm,EB 4 (A4 acc) (A0 C3 3) h'/\Tm.sizes acc<=Oq l:=by
 refine A9 rfl fr (λn fr h'=>∃(i:Nat) (acc:List Tm),i+n=l.length/\A0 fr 4=.int .i64 (i:Nat)/\h'.boxes=h.boxes/\EB 4 (A4 acc) (A0 fr 3) h'/\Tm.sizes acc+Oq (l.drop i)<=Oq l) ?_ l.length h ⟨0,[],by omega,h4,rfl,by rw[h3];exact DB _ _,by simp[Tm.sizes]⟩;rintro J Φ hJ hΦ n D4 ⟨bx,fams⟩ K ⟨i,acc,hi,k4,hb,hg,hs⟩;rw[hh]at hb;simp only at hb;subst hb;have A6:=K.1.trans hl;have k1:=A8 K 1 h1;have hal:=Tm.length_le acc;by_cases A7:i<l.length
 .have hx:=G1 (f:=EP) (A0a A7);have hw:=C6 i (by omega);rw[A0b A7]at hs;simp only[Oq]at hs;generalize l[i]=f at *
  obtain⟨r,nm,t,ln⟩:=f;simp only at hs;obtain⟨v',h',ha,d7,Qw⟩:=Al (c:=D6 FC) (bytes:=56) (x:=B9 t) hg rfl (true,true) (by simp;omega) (by simp;omega);have hts:=t.size_pos;obtain⟨tk,tn,ts,tm,tl⟩:=t;have hg2:EB 4 (A4 (acc++[.mk tk tn ts tm tl])) v' h':=by rw[Q0];exact d7
  simp only[EP,B9,Mp,A0v,A0k]at hx ha;simp[Ih,A6,k1,k4,A7,hx,hw,A5,ha];exact G0 hJ ⟨i+1,acc++[.mk tk tn ts tm tl],by omega,by simp[A6],by rw[Qw,hh],by simp[A6];exact hg2,by rw[Tm.sizes_append];simp only[Tm.sizes];omega⟩
 .rw[A0e (by omega)]at hs;simp only[Oq]at hs;simp[Ih,A6,k1,k4,A7];exact hΦ _ _ _ ⟨hh.symm,rfl,acc,by simp;exact hg,by omega⟩
theorem iq (m:I6) (l:List Gol) (B8:l.length<=1099511627776) (acc0:G7) (J4:Tm.sizes acc0+RR l<=1099511627776) (b0 b1 b2 b3 b4:AV)
  (fr:Fr) (h:AH) (hh:h.boxes=[[b0,b1,b2,b3,b4,sl m 5 (l.map Ey)]]) (hl:fr.length=67) (h1:A0 fr 1=.ptr 0 0) (h3:EB 4 (A4 acc0) (A0 fr 3) h) (h5:A0 fr 5=.int .i64 0) :
  B6 (lp (A2 (K8 Q) (D6 FC) Ig) (fr,h)) λe C3 h'=>Kp Ig.wr fr C3/\e=.exit 2/\∃acc:List Tm,EB 4 (A4 acc) (A0 C3 3) h'/\Tm.sizes acc<=1099511627776:=by
 refine A9 rfl fr (λn fr h'=>∃(i:Nat) (acc:List Tm),i+n=l.length/\A0 fr 5=.int .i64 (i:Nat)/\h'.boxes=h.boxes/\EB 4 (A4 acc) (A0 fr 3) h'/\Tm.sizes acc+RR (l.drop i)<=1099511627776) ?_ l.length h ⟨0,acc0,by omega,h5,rfl,h3,J4⟩;rintro J Φ hJ hΦ n D4 ⟨bx,fams⟩ K ⟨i,acc,hi,k5,hb,hg,hs⟩;rw[hh]at hb;simp only at hb;subst hb;have A6:=K.1.trans hl;have k1:=A8 K 1 h1;have hal:=Tm.length_le acc;by_cases A7:i<l.length
 .have hx:=G1 (f:=Ey) (A0a A7);have hw:=C6 i (by omega);rw[A0b A7]at hs;simp only[RR]at hs;generalize l[i]=g at *
  have Ds:=Tm.length_le g.data;obtain⟨v',h',ha,d7,Qw⟩:=OH (c:=D6 FC) (bytes:=56) (x:=sl g.dm 4 (A4 g.data)) (ys:=A4 g.data) hg rfl (N0 _ _ _ _) (by simp[H3,maxLen];omega);have hg2:EB 4 (A4 (acc++g.data)) v' h':=by rw[ay];exact d7
  simp only[Ey]at hx;simp[Ig,A6,k1,k5,A7,hx,hw,ha];exact G0 hJ ⟨i+1,acc++g.data,by omega,by simp[A6],by rw[Qw,hh],by simp[A6];exact hg2,by rw[Tm.sizes_append];omega⟩
 .rw[A0e (by omega)]at hs;simp only[RR]at hs;simp[Ig,A6,k1,k5,A7];exact hΦ _ _ _ ⟨rfl,acc,by simp;exact hg,by omega⟩
theorem bt (m:I6) (l:List Ste) (B8:l.length<=1099511627776) (J4:Oq l<=1099511627776) (b0 b1 b2 b3 b5:AV)
  (fr:Fr) (h:AH) (hh:h.boxes=[[b0,b1,b2,b3,sl m 7 (l.map EP),b5]]) (hl:fr.length=54) (h1:A0 fr 1=.ptr 0 0) (h3:A0 fr 3=.vs true 0 []) (h4:A0 fr 4=.int .i64 0) :
  B6 (lp (A2 (K8 Q) (D6 BW) Fm) (fr,h)) λe C3 h'=>Kp Fm.wr fr C3/\h'.boxes=h.boxes/\e=.exit 0/\∃acc:List Tm,EB 4 (A4 acc) (A0 C3 3) h'/\Tm.sizes acc<=Oq l:=by
 refine A9 rfl fr (λn fr h'=>∃(i:Nat) (acc:List Tm),i+n=l.length/\A0 fr 4=.int .i64 (i:Nat)/\h'.boxes=h.boxes/\EB 4 (A4 acc) (A0 fr 3) h'/\Tm.sizes acc+Oq (l.drop i)<=Oq l) ?_ l.length h ⟨0,[],by omega,h4,rfl,by rw[h3];exact DB _ _,by simp[Tm.sizes]⟩;rintro J Φ hJ hΦ n D4 ⟨bx,fams⟩ K ⟨i,acc,hi,k4,hb,hg,hs⟩;rw[hh]at hb;simp only at hb;subst hb;have A6:=K.1.trans hl;have k1:=A8 K 1 h1;have hal:=Tm.length_le acc;by_cases A7:i<l.length
 .have hx:=G1 (f:=EP) (A0a A7);have hw:=C6 i (by omega);rw[A0b A7]at hs;simp only[Oq]at hs;generalize l[i]=f at *
  obtain⟨r,nm,t,ln⟩:=f;simp only at hs;obtain⟨v',h',ha,d7,Qw⟩:=Al (c:=D6 BW) (bytes:=56) (x:=B9 t) hg rfl (true,true) (by simp;omega) (by simp;omega);have hts:=t.size_pos;obtain⟨tk,tn,ts,tm,tl⟩:=t;have hg2:EB 4 (A4 (acc++[.mk tk tn ts tm tl])) v' h':=by rw[Q0];exact d7
  simp only[EP,B9,Mp,A0v,A0k]at hx ha;simp[Fm,A6,k1,k4,A7,hx,hw,A5,ha];exact G0 hJ ⟨i+1,acc++[.mk tk tn ts tm tl],by omega,by simp[A6],by rw[Qw,hh],by simp[A6];exact hg2,by rw[Tm.sizes_append];simp only[Tm.sizes];omega⟩
 .rw[A0e (by omega)]at hs;simp only[Oq]at hs;simp[Fm,A6,k1,k4,A7];exact hΦ _ _ _ ⟨hh.symm,rfl,acc,by simp;exact hg,by omega⟩
theorem br (m:I6) (l:List Gol) (B8:l.length<=1099511627776) (acc0:G7) (J4:Tm.sizes acc0+RR l<=1099511627776) (b0 b1 b2 b3 b4:AV)
  (fr:Fr) (h:AH) (hh:h.boxes=[[b0,b1,b2,b3,b4,sl m 5 (l.map Ey)]]) (hl:fr.length=54) (h1:A0 fr 1=.ptr 0 0) (h3:EB 4 (A4 acc0) (A0 fr 3) h) (h5:A0 fr 5=.int .i64 0) :
  B6 (lp (A2 (K8 Q) (D6 BW) Fl) (fr,h)) λe C3 h'=>Kp Fl.wr fr C3/\e=.exit 2/\∃acc:List Tm,EB 4 (A4 acc) (A0 C3 3) h'/\Tm.sizes acc<=1099511627776:=by
 refine A9 rfl fr (λn fr h'=>∃(i:Nat) (acc:List Tm),i+n=l.length/\A0 fr 5=.int .i64 (i:Nat)/\h'.boxes=h.boxes/\EB 4 (A4 acc) (A0 fr 3) h'/\Tm.sizes acc+RR (l.drop i)<=1099511627776) ?_ l.length h ⟨0,acc0,by omega,h5,rfl,h3,J4⟩;rintro J Φ hJ hΦ n D4 ⟨bx,fams⟩ K ⟨i,acc,hi,k5,hb,hg,hs⟩;rw[hh]at hb;simp only at hb;subst hb;have A6:=K.1.trans hl;have k1:=A8 K 1 h1;have hal:=Tm.length_le acc;by_cases A7:i<l.length
 .have hx:=G1 (f:=Ey) (A0a A7);have hw:=C6 i (by omega);rw[A0b A7]at hs;simp only[RR]at hs;generalize l[i]=g at *
  have Ds:=Tm.length_le g.data;obtain⟨v',h',ha,d7,Qw⟩:=OH (c:=D6 BW) (bytes:=56) (x:=sl g.dm 4 (A4 g.data)) (ys:=A4 g.data) hg rfl (N0 _ _ _ _) (by simp[H3,maxLen];omega);have hg2:EB 4 (A4 (acc++g.data)) v' h':=by rw[ay];exact d7
  simp only[Ey]at hx;simp[Fl,A6,k1,k5,A7,hx,hw,ha];exact G0 hJ ⟨i+1,acc++g.data,by omega,by simp[A6],by rw[Qw,hh],by simp[A6];exact hg2,by rw[Tm.sizes_append];omega⟩
 .rw[A0e (by omega)]at hs;simp only[RR]at hs;simp[Fl,A6,k1,k5,A7];exact hΦ _ _ _ ⟨rfl,acc,by simp;exact hg,by omega⟩
theorem lH (h:AH) {acc:G7} {v:AV} (hg:EB 4 (A4 acc) v h) (hs:Tm.sizes acc<=1099511627776) (a b:Int) (hb:b<=9223372036854775807):∃u r,KR h true v=some u/\pc Q Lo [u,.int .i64 a,.int .i64 b]=some (.bool r):=by
 obtain⟨m,hm⟩:=SP hg;exact⟨_,_,hm,yM m acc a b hs hb⟩
theorem vn (n:Nar) (F:Fine n) (hS:Oq n.steps+RR n.goals<=1099511627776):∃b,pc Q FC [G4 n]=some (.bool b):=by
 suffices h:∃r,pc Q FC [G4 n]=some r/\∃b,r=.bool b by
  obtain⟨r,h1,b,rfl⟩:=h;exact⟨b,h1⟩
 have l1:=F.stepsL;have l2:=F.goalsL;clear F;obtain⟨name,rm,roles,fm,fresh,tm,tags,sm,steps,gm,goals⟩:=n;simp only at hS l1 l2;refine Fj FD λΨ hΨ fr hl h0=>?_;simp[FD,G4]at hl h0;by_cases c1:(16:Int)<(roles.length:Int)
 .simp[FD,hl,h0,B7 c1];exact hΨ _ ⟨_,rfl⟩
 by_cases c2:(16:Int)<(fresh.length:Int)
 .simp[FD,hl,h0,A3 c1,B7 c2];exact hΨ _ ⟨_,rfl⟩
 by_cases c3:(16:Int)<(tags.length:Int)
 .simp[FD,hl,h0,A3 c1,A3 c2,B7 c3];exact hΨ _ ⟨_,rfl⟩
 by_cases c4:(16:Int)<(steps.length:Int)
 .simp[FD,hl,h0,A3 c1,A3 c2,A3 c3,B7 c4];exact hΨ _ ⟨_,rfl⟩
 by_cases c5:(16:Int)<(goals.length:Int)
 .simp[FD,hl,h0,A3 c1,A3 c2,A3 c3,A3 c4,B7 c5];exact hΨ _ ⟨_,rfl⟩
 simp[FD,hl,h0,A3 c1,A3 c2,A3 c3,A3 c4,A3 c5];refine B6.mono (ir sm steps l1 (by omega) _ _ _ _ _ _ _ rfl ?_ ?_ ?_ ?_) ?_<;>first|(simp[hl];done)|skip
 rintro e D4 ⟨bx,fams⟩ ⟨K,hb,rfl,acc,hg,hs⟩;simp only at hb;subst hb;have A6:D4.length=67:=K.1.trans (by simp[hl]);have k1:A0 D4 1=.ptr 0 0:=A8 K 1 (by simp[hl]);clear K;simp;refine B6.mono (iq gm goals l2 acc (by omega) _ _ _ _ _ _ _ rfl ?_ ?_ ?_ ?_) ?_<;>first|(simp[A6,k1];done)|skip
 .simp;exact hg
 rintro e Q6 h2 ⟨K,rfl,acc,hg,hs⟩;have Bb:Q6.length=67:=K.1.trans (by simp[A6]);obtain⟨u,r,hu,hp⟩:=lH h2 hg hs 100 900 (by omega);simp[Bb,hu,hp];exact hΨ _ ⟨_,rfl⟩
theorem sv (n:Nar) (F:Fine n) (hS:Oq n.steps+RR n.goals<=1099511627776):∃b,pc Q BW [G4 n]=some (.bool b):=by
 suffices h:∃r,pc Q BW [G4 n]=some r/\∃b,r=.bool b by
  obtain⟨r,h1,b,rfl⟩:=h;exact⟨b,h1⟩
 obtain⟨bf,hF⟩:=vn n F hS;have l1:=F.stepsL;have l2:=F.goalsL;clear F;obtain⟨name,rm,roles,fm,fresh,tm,tags,sm,steps,gm,goals⟩:=n;simp only at hS l1 l2;refine Fj GL λΨ hΨ fr hl h0=>?_;simp[GL,G4]at hl h0 hF;cases bf with
 |false =>
  simp[GL,hl,h0,hF];exact hΨ _ ⟨_,rfl⟩
 |true =>
  by_cases c4:(5:Int)<(steps.length:Int)
  .simp[GL,hl,h0,hF,B7 c4];exact hΨ _ ⟨_,rfl⟩
  by_cases c5:(5:Int)<(goals.length:Int)
  .simp[GL,hl,h0,hF,A3 c4,B7 c5];exact hΨ _ ⟨_,rfl⟩
  simp[GL,hl,h0,hF,A3 c4,A3 c5];refine B6.mono (bt sm steps l1 (by omega) _ _ _ _ _ _ _ rfl ?_ ?_ ?_ ?_) ?_<;>first|(simp[hl];done)|skip
  rintro e D4 ⟨bx,fams⟩ ⟨K,hb,rfl,acc,hg,hs⟩;simp only at hb;subst hb;have A6:D4.length=54:=K.1.trans (by simp[hl]);have k1:A0 D4 1=.ptr 0 0:=A8 K 1 (by simp[hl]);clear K;simp;refine B6.mono (br gm goals l2 acc (by omega) _ _ _ _ _ _ _ rfl ?_ ?_ ?_ ?_) ?_<;>first|(simp[A6,k1];done)|skip
  .simp;exact hg
  rintro e Q6 h2 ⟨K,rfl,acc,hg,hs⟩;have Bb:Q6.length=54:=K.1.trans (by simp[A6]);obtain⟨u,r,hu,hp⟩:=lH h2 hg hs 25 60 (by omega);simp[Bb,hu,hp];exact hΨ _ ⟨_,rfl⟩
@[simp] theorem frz1_vm (h:AH) (am:Bool) (ks vs:G6):Ev h am (.vm ks vs)=some (.vm ks vs):=_root_.id rfl
@[simp] theorem frz_vm (h:AH) (am:Bool) (ks vs:G6):KR h am (.vm ks vs)=some (.vm ks vs):=_root_.id rfl
@[simp] theorem tame1_vm (h:AH) (ks vs:G6):KW h (.vm ks vs)=true:=_root_.id rfl
@[simp] theorem isTup_vm (ks vs:G6):(AV.vm ks vs).isTup=false:=_root_.id rfl
@[simp] theorem A0O (ks vs:G6):(AV.vm ks vs).cells=[.vm ks vs]:=_root_.id rfl
@[simp] theorem isTup_mp (b:Nat):(AV.mp b).isTup=false:=_root_.id rfl
@[simp] theorem A0N (b:Nat):(AV.mp b).cells=[.mp b]:=_root_.id rfl
theorem Zh (a b:J1):XU true (.str a) (.str b)=some (U7 a b):=by
 have:(a == b)=U7 a b:=by
  rw[Bool.eq_iff_iff,GW];obtain⟨a⟩:=a;obtain⟨b⟩:=b;show (a == b)=true↔_;rw[beq_iff_eq,ByteArray.mk.injEq]
 simp[XU,this]
theorem Te (a:J1):∀(l:List ByteArray) (i:Nat),l.any (U7 a)=true->NA true (.str a) (l.map AV.str) i=some (some (Q2 (U7 a) i l).toNat)
 | [],i,h=>by cases h
 |b::l,i,h=>by
  simp only[A0i,NA,Zh,Q2];cases hb:U7 a b with
  |true=>simp
  |false =>
   rw[A0x,hb,Bool.false_or]at h;simp only[Te a l (i+1) h];simp
theorem QA (a:J1):∀(l:List ByteArray) (i:Nat),l.any (U7 a)=false->NA true (.str a) (l.map AV.str) i=some none
 | [],i,_=>rfl
 |b::l,i,h=>by
  rw[A0x,Bool.or_eq_false_iff]at h;simp only[A0i,NA,Zh,h.1];exact QA a l (i+1) h.2
theorem jL (m:I6) (l:List ByteArray) (x:J1) (B8:l.length<=1099511627776) (fr:Fr) (h:AH) (hl:fr.length=19)
  (h0:A0 fr 0=sl m 1 (l.map AV.str)) (h1:A0 fr 1=.str x) (h5:A0 fr 5=.int .i64 0) :
  B6 (lp (A2 (K8 Q) (D6 R5) Cp) (fr,h)) λe C3 h'=>Kp Cp.wr fr C3/\(e=.exit 0/\idx (U7 x) l=-1\/e=.ret/\A0 C3 4=.int .i64 (idx (U7 x) l)):=by
 refine A9 rfl fr (λn fr h=>∃i,i+n=l.length/\A0 fr 5=.int .i64 (i:Nat)/\Q2 (U7 x) i (l.drop i)=idx (U7 x) l) ?_ l.length h ⟨0,by omega,h5,rfl⟩;rintro J Φ hJ hΦ n D4 DD K ⟨i,hi,k5,hr⟩;have A6:=K.1.trans hl;have k0:=A8 K 0 h0;have k1:=A8 K 1 h1;by_cases A7:i<l.length
 .have hx:=G1 (f:=AV.str) (A0a A7);have hw:=C6 i (by omega);rw[A0b A7]at hr;simp only[Q2,U7,decide_eq_true_eq]at hr;generalize l[i]=a at *
  by_cases hc:x.toList=a.toList
  .rw[if_pos hc]at hr;simp[Cp,A6,k0,k1,k5,A7,hx,hc];exact hΦ _ _ _ (.inr ⟨rfl,by simp[A6];exact hr⟩)
  .have hc':¬a.toList=x.toList:=λe=>hc e.symm;rw[if_neg hc]at hr;simp[Cp,A6,k0,k1,k5,A7,hx,hw,hc'];exact G0 hJ ⟨i+1,by omega,by simp[A6],hr⟩
 .rw[A0e (by omega)]at hr;simp[Cp,A6,k0,k5,A7];exact hΦ _ _ _ (.inl ⟨rfl,hr.symm⟩)
theorem sk (m:I6) (l:List ByteArray) (x:J1) (B8:l.length<=1099511627776):pc Q R5 [DS m l,.str x]=some (.int .i64 (idx (U7 x) l)):=by
 refine N3 PE λfr hl h0 h1=>?_;simp[PE,DS]at hl h0 h1;simp[PE];refine(jL m l x B8 _ _ (by simp[hl]) (by simp[h0]) (by simp[h1]) (by simp[hl])).mono ?_;rintro e C3 h' ⟨K,⟨rfl,he⟩|⟨rfl,h4⟩⟩
 .have hl':C3.length=19:=K.1.trans (by simp[hl]);simp[hl',he]
 .simp[h4]
def B5 (n:Nar):List ByteArray:=n.roles++n.fresh.map Fre.name++n.tags
def G2 (n:Nar):List Int:=n.roles.map (λ_=>1)++n.fresh.map Fre.sort++n.tags.map (λ_=>5)
def Yu (a b:List AV) (v w:AV) (h:AH):Prop:=(a=[]/\v=.vs true 0 []/\b=[]/\w=.vs true 0 [])\/(a≠[]/\b≠[]/\∃j k,j≠k/\v=.sl j a.length 0 a.length/\h.fams[j]?=some ⟨a,1,false⟩/\w=.sl k b.length 0 b.length/\h.fams[k]?=some ⟨b,1,false⟩)
theorem bN {c:Ctx} {a b:G6} {v w x y:AV} {h:AH} (hg:Yu a b v w h) (hm:c.mutApp=false) (m m':I6) (p q:Nat) (hp:p<=16) (hq:q<=16) (ha:a.length<=1099511627776) (hb:b.length<=1099511627776) :
  ∃v' h1 w' h2,K6 c h 1 p v (sl m 1 [x])=some (v',h1)/\K6 c h1 1 q w (sl m' 1 [y])=some (w',h2)/\Yu (a++[x]) (b++[y]) v' w' h2/\h1.boxes=h.boxes/\h2.boxes=h.boxes:=by
 have r0:(1:Nat)*p<=H3/\1<=maxLen:=by simp only[H3,maxLen];omega
 have r1:(1:Nat)*q<=H3/\1<=maxLen:=by simp only[H3,maxLen];omega
 have ra:(a.length+1)*p<=H3/\a.length+1<=maxLen:=by
  simp only[H3,maxLen];have:=A0t (a.length+1) hp;omega
 have rb:(b.length+1)*q<=H3/\b.length+1<=maxLen:=by
  simp only[H3,maxLen];have:=A0t (b.length+1) hq;omega
 rcases hg with ⟨rfl,rfl,rfl,rfl⟩|⟨hna,hnb,j,k,hjk,rfl,hj,rfl,hk⟩
 .refine⟨.sl h.fams.length 1 0 1,⟨h.boxes,h.fams++[⟨[x],1,false⟩]⟩,.sl (h.fams.length+1) 1 0 1,⟨h.boxes,h.fams++[⟨[x],1,false⟩]++[⟨[y],1,false⟩]⟩,?_,?_,?_,rfl,rfl⟩
  .rw[Pu,N0,A0j,if_neg (by simp),A0l,if_pos r0,hm]
  .rw[Pu,N0,A0j,if_neg (by simp),A0l,if_pos r1,hm];simp
  .refine .inr ⟨by simp,by simp,h.fams.length,h.fams.length+1,by omega,by simp,by simp,by simp,by simp⟩
 .have hj':=H4 hj;have EC:=H4 hk;refine⟨.sl j (a.length+1) 0 (a.length+1),⟨h.boxes,h.fams.set j ⟨a++[x],1,false⟩⟩,.sl k (b.length+1) 0 (b.length+1),⟨h.boxes,(h.fams.set j ⟨a++[x],1,false⟩).set k ⟨b++[y],1,false⟩⟩,?_,?_,?_,rfl,rfl⟩
  .rw[Lf,N0,A0j,hj,A0j,A0l,if_pos ⟨rfl,rfl,by omega,ra⟩]
  .rw[Lf,N0,A0j];simp only;rw[A0r hjk,hk,A0j,A0l,if_pos ⟨rfl,rfl,by omega,rb⟩]
  .refine .inr ⟨by simp,by simp,j,k,hjk,by simp,?_,by simp,?_⟩
   .simp only;rw[A0r (λe=>hjk e.symm),A0q hj']
   .simp only;rw[A0q (by simpa using EC)]
theorem uX {a b:G6} {v w:AV} {h:AH} (hg:Yu a b v w h):∃m m',KR h true v=some (sl m 1 a)/\KR h true w=some (sl m' 1 b):=by
 rcases hg with ⟨rfl,rfl,rfl,rfl⟩|⟨hna,hnb,j,k,hjk,rfl,hj,rfl,hk⟩
 .exact⟨(true,false),(true,false),Wk _ _,Wk _ _⟩
 .refine⟨(false,true),(false,true),?_,?_⟩
  .rw[PZ,CZ,hj,A0j,if_pos ⟨rfl,by omega,rfl⟩];simp
  .rw[PZ,CZ,hk,A0j,if_pos ⟨rfl,by omega,rfl⟩];simp
theorem ez (m:I6) (l:List ByteArray) (B8:l.length<=1099511627776) (b0 b2 b3 b4 b5:AV) (fr:Fr) (h:AH) (hh:h.boxes=[[b0,sl m 1 (l.map AV.str),b2,b3,b4,b5]]) (hl:fr.length=72) (h1:A0 fr 1=.ptr 0 0)
  (h4:A0 fr 4=.vs true 0 []) (h5:A0 fr 5=.vs true 0 []) (h6:A0 fr 6=.int .i64 0) :
  B6 (lp (A2 (K8 Q) (D6 X4) Fq) (fr,h)) λe C3 h'=>Kp Fq.wr fr C3/\e=.exit 0/\h'.boxes=h.boxes/\Yu (l.map AV.str) ((l.map λ_=>(1:Int)).map (AV.int .i64)) (A0 C3 4) (A0 C3 5) h':=by
 refine A9 rfl fr (λn fr h'=>∃i,i+n=l.length/\A0 fr 6=.int .i64 (i:Nat)/\h'.boxes=h.boxes/\Yu ((l.take i).map AV.str) (((l.take i).map λ_=>(1:Int)).map (AV.int .i64)) (A0 fr 4) (A0 fr 5) h') ?_ l.length h ⟨0,by omega,h6,rfl,.inl ⟨rfl,h4,rfl,h5⟩⟩;rintro J Φ hJ hΦ n D4 ⟨bx,fams⟩ K ⟨i,hi,k6,hb,hg⟩;rw[hh]at hb;simp only at hb;subst hb;have A6:=K.1.trans hl;have k1:=A8 K 1 h1;by_cases A7:i<l.length
 .have hx:=G1 (f:=AV.str) (A0a A7);have hw:=C6 i (by omega);obtain⟨v',DD,w',h2',ha1,ha2,d7,hb1,hb2⟩:=bN (c:=D6 X4) (x:=.str l[i]) (y:=.int .i64 1) hg rfl (true,true) (true,true) 16 8 (by omega) (by omega) (by simp;omega) (by simp;omega);have hg2:Yu ((l.take (i+1)).map AV.str) (((l.take (i+1)).map λ_=>(1:Int)).map (AV.int .i64)) v' w' h2':=by
   rw[A0Z A7,A0d,A0d,A0d];exact d7
  have tw:∀F:Fr,A0 F 4=v'->A0 F 5=w'->Yu ((l.take (i+1)).map AV.str) (((l.take (i+1)).map λ_=>(1:Int)).map (AV.int .i64)) (A0 F 4) (A0 F 5) h2':=λF e4 e5=>by rw[e4,e5];exact hg2
  generalize l[i]=a at *
  simp[Fq,A6,k1,k6,A7,hx,hw,A5,ha1,ha2];exact G0 hJ ⟨i+1,by omega,by simp[A6],by rw[hb2,hh],tw _ (by simp[A6]) (by simp[A6])⟩
 .have e:l.take i=l:=A0f (by omega);rw[e]at hg;have tw:∀F:Fr,A0 F 4=A0 D4 4->A0 F 5=A0 D4 5->Yu (l.map AV.str) ((l.map λ_=>(1:Int)).map (AV.int .i64)) (A0 F 4) (A0 F 5) _:=λF e4 e5=>by rw[e4,e5];exact hg
  simp[Fq,A6,k1,k6,A7];exact hΦ _ _ _ ⟨rfl,by rw[hh],tw _ (by simp) (by simp)⟩
theorem ew (m:I6) (l:List Fre) (B8:l.length<=1048576) (A B:G6) (hA:A.length<=1048576) (hB:B.length<=1048576) (b0 b1 b3 b4 b5:AV) (fr:Fr) (h:AH) (hh:h.boxes=[[b0,b1,sl m 3 (l.map Lz),b3,b4,b5]]) (hl:fr.length=72) (h1:A0 fr 1=.ptr 0 0)
  (h45:Yu A B (A0 fr 4) (A0 fr 5) h) (h7:A0 fr 7=.int .i64 0) :
  B6 (lp (A2 (K8 Q) (D6 X4) Fp) (fr,h)) λe C3 h'=>Kp Fp.wr fr C3/\e=.exit 2/\h'.boxes=h.boxes/\Yu (A++(l.map Fre.name).map AV.str) (B++(l.map Fre.sort).map (AV.int .i64)) (A0 C3 4) (A0 C3 5) h':=by
 refine A9 rfl fr (λn fr h'=>∃i,i+n=l.length/\A0 fr 7=.int .i64 (i:Nat)/\h'.boxes=h.boxes/\Yu (A++((l.take i).map Fre.name).map AV.str) (B++((l.take i).map Fre.sort).map (AV.int .i64)) (A0 fr 4) (A0 fr 5) h') ?_ l.length h ⟨0,by omega,h7,rfl,by rw[A0m,A0g,A0g,A0g,A0g,A0h,A0h];exact h45⟩;rintro J Φ hJ hΦ n D4 ⟨bx,fams⟩ K ⟨i,hi,k7,hb,hg⟩;rw[hh]at hb;simp only at hb;subst hb;have A6:=K.1.trans hl;have k1:=A8 K 1 h1;by_cases A7:i<l.length
 .have hx:=G1 (f:=Lz) (A0a A7);have hw:=C6 i (by omega);obtain⟨v',DD,w',h2',ha1,ha2,d7,hb1,hb2⟩:=bN (c:=D6 X4) (x:=.str l[i].name) (y:=.int .i64 l[i].sort) hg rfl (true,true) (true,true) 16 8 (by omega) (by omega) (by simp;omega) (by simp;omega);have hg2:Yu (A++((l.take (i+1)).map Fre.name).map AV.str) (B++((l.take (i+1)).map Fre.sort).map (AV.int .i64)) v' w' h2':=by
   rw[A0Z A7,A0d,A0d,A0d,A0d,←A0c,←A0c];exact d7
  have tw:∀F:Fr,A0 F 4=v'->A0 F 5=w'->Yu (A++((l.take (i+1)).map Fre.name).map AV.str) (B++((l.take (i+1)).map Fre.sort).map (AV.int .i64)) (A0 F 4) (A0 F 5) h2':=λF e4 e5=>by rw[e4,e5];exact hg2
  generalize l[i]=a at *
  obtain⟨r,nm,so⟩:=a;simp only[Lz]at hx ha1 ha2;simp[Fp,A6,k1,k7,A7,hx,hw,OO,AV.flat,A5,ha1,ha2,hb1];exact G0 hJ ⟨i+1,by omega,by simp[A6],by rw[hb2,hh],tw _ (by simp[A6]) (by simp[A6])⟩
 .have e:l.take i=l:=A0f (by omega);rw[e]at hg;have tw:∀F:Fr,A0 F 4=A0 D4 4->A0 F 5=A0 D4 5->Yu (A++(l.map Fre.name).map AV.str) (B++(l.map Fre.sort).map (AV.int .i64)) (A0 F 4) (A0 F 5) _:=λF e4 e5=>by rw[e4,e5];exact hg
  simp[Fp,A6,k1,k7,A7];exact hΦ _ _ _ ⟨rfl,by rw[hh],tw _ (by simp) (by simp)⟩
theorem ev (m:I6) (l:List ByteArray) (B8:l.length<=1048576) (A B:G6) (hA:A.length<=2097152) (hB:B.length<=2097152) (b0 b1 b2 b4 b5:AV) (fr:Fr) (h:AH) (hh:h.boxes=[[b0,b1,b2,sl m 1 (l.map AV.str),b4,b5]]) (hl:fr.length=72) (h1:A0 fr 1=.ptr 0 0)
  (h45:Yu A B (A0 fr 4) (A0 fr 5) h) (h8:A0 fr 8=.int .i64 0) :
  B6 (lp (A2 (K8 Q) (D6 X4) Fo) (fr,h)) λe C3 h'=>Kp Fo.wr fr C3/\e=.exit 4/\h'.boxes=h.boxes/\Yu (A++l.map AV.str) (B++(l.map λ_=>(5:Int)).map (AV.int .i64)) (A0 C3 4) (A0 C3 5) h':=by
 refine A9 rfl fr (λn fr h'=>∃i,i+n=l.length/\A0 fr 8=.int .i64 (i:Nat)/\h'.boxes=h.boxes/\Yu (A++(l.take i).map AV.str) (B++((l.take i).map λ_=>(5:Int)).map (AV.int .i64)) (A0 fr 4) (A0 fr 5) h') ?_ l.length h ⟨0,by omega,h8,rfl,by rw[A0m,A0g,A0g,A0g,A0h,A0h];exact h45⟩;rintro J Φ hJ hΦ n D4 ⟨bx,fams⟩ K ⟨i,hi,k8,hb,hg⟩;rw[hh]at hb;simp only at hb;subst hb;have A6:=K.1.trans hl;have k1:=A8 K 1 h1;by_cases A7:i<l.length
 .have hx:=G1 (f:=AV.str) (A0a A7);have hw:=C6 i (by omega);obtain⟨v',DD,w',h2',ha1,ha2,d7,hb1,hb2⟩:=bN (c:=D6 X4) (x:=.str l[i]) (y:=.int .i64 5) hg rfl (true,true) (true,true) 16 8 (by omega) (by omega) (by simp;omega) (by simp;omega);have hg2:Yu (A++(l.take (i+1)).map AV.str) (B++((l.take (i+1)).map λ_=>(5:Int)).map (AV.int .i64)) v' w' h2':=by
   rw[A0Z A7,A0d,A0d,A0d,←A0c,←A0c];exact d7
  have tw:∀F:Fr,A0 F 4=v'->A0 F 5=w'->Yu (A++(l.take (i+1)).map AV.str) (B++((l.take (i+1)).map λ_=>(5:Int)).map (AV.int .i64)) (A0 F 4) (A0 F 5) h2':=λF e4 e5=>by rw[e4,e5];exact hg2
  generalize l[i]=a at *
  simp[Fo,A6,k1,k8,A7,hx,hw,A5,ha1,ha2];exact G0 hJ ⟨i+1,by omega,by simp[A6],by rw[hb2,hh],tw _ (by simp[A6]) (by simp[A6])⟩
 .have e:l.take i=l:=A0f (by omega);rw[e]at hg;have tw:∀F:Fr,A0 F 4=A0 D4 4->A0 F 5=A0 D4 5->Yu (A++l.map AV.str) (B++(l.map λ_=>(5:Int)).map (AV.int .i64)) (A0 F 4) (A0 F 5) _:=λF e4 e5=>by rw[e4,e5];exact hg
  simp[Fo,A6,k1,k8,A7];exact hΦ _ _ _ ⟨rfl,by rw[hh],tw _ (by simp) (by simp)⟩
structure Short (n:Nar):Prop where
 roles:n.roles.length<=1048576
 fresh:n.fresh.length<=1048576
 tags:n.tags.length<=1048576
theorem YB (n:Nar) (S:Short n):∃r,pc Q X4 [G4 n]=some r/\∃m m':Bool×Bool,r=.tup [DS m (B5 n),sl m' 1 ((G2 n).map (AV.int .i64))]:=by
 have s1:=S.roles;have s2:=S.fresh;have s3:=S.tags;clear S;refine Fj PD λΨ hΨ fr hl h0=>?_;have en:(B5 n).map AV.str=n.roles.map AV.str++(n.fresh.map Fre.name).map AV.str++n.tags.map AV.str:=by simp only[B5,A0d]
 have es:(G2 n).map (AV.int .i64)=(n.roles.map λ_=>(1:Int)).map (AV.int .i64)++(n.fresh.map Fre.sort).map (AV.int .i64)++(n.tags.map λ_=>(5:Int)).map (AV.int .i64):=by simp only[G2,A0d]
 simp only[DS,en,es]at hΨ;clear en es;obtain⟨name,rm,roles,fm,fresh,tm,tags,sm,steps,gm,goals⟩:=n;simp only at *
 simp[PD,G4]at hl h0;simp[PD,h0];refine B6.mono (ez rm roles (by omega) _ _ _ _ _ _ _ rfl ?_ ?_ ?_ ?_ ?_) ?_<;>first|(simp[hl];done)|skip
 rintro e D4 ⟨bx,fams⟩ ⟨K,rfl,hb,hg⟩;simp only at hb;subst hb;have A6:D4.length=72:=K.1.trans (by simp[hl]);have k1:A0 D4 1=.ptr 0 0:=A8 K 1 (by simp[hl]);clear K;have tw:∀F:Fr,A0 F 4=A0 D4 4->A0 F 5=A0 D4 5->Yu (roles.map AV.str) ((roles.map λ_=>(1:Int)).map (AV.int .i64)) (A0 F 4) (A0 F 5) _:=λF e4 e5=>by rw[e4,e5];exact hg
 clear hg;simp;refine B6.mono (ew fm fresh (by omega) (roles.map AV.str) ((roles.map λ_=>(1:Int)).map (AV.int .i64)) (by simp;omega) (by simp;omega) _ _ _ _ _ _ _ rfl ?_ ?_ (tw _ ?_ ?_) ?_) ?_<;>first|(simp[A6,k1];done)|skip
 rintro e Q6 ⟨bx,fams2⟩ ⟨K,rfl,hb,hg⟩;simp only at hb;subst hb;have Bb:Q6.length=72:=K.1.trans (by simp[A6]);have k1':A0 Q6 1=.ptr 0 0:=A8 K 1 (by simp[k1]);clear K tw;have tw:∀F:Fr,A0 F 4=A0 Q6 4->A0 F 5=A0 Q6 5->Yu (roles.map AV.str++(fresh.map Fre.name).map AV.str) ((roles.map λ_=>(1:Int)).map (AV.int .i64)++(fresh.map Fre.sort).map (AV.int .i64)) (A0 F 4) (A0 F 5) _:=λF e4 e5=>by rw[e4,e5];exact hg
 clear hg;simp;refine B6.mono (ev tm tags (by omega) (roles.map AV.str++(fresh.map Fre.name).map AV.str) ((roles.map λ_=>(1:Int)).map (AV.int .i64)++(fresh.map Fre.sort).map (AV.int .i64)) (by simp;omega) (by simp;omega) _ _ _ _ _ _ _ rfl ?_ ?_ (tw _ ?_ ?_) ?_) ?_<;>first|(simp[Bb,k1'];done)|skip
 rintro e fr3 h3 ⟨K,rfl,hb,hg⟩;have hl3:fr3.length=72:=K.1.trans (by simp[Bb]);obtain⟨m,m',e1,e2⟩:=uX hg;generalize hA:roles.map AV.str++(fresh.map Fre.name).map AV.str++tags.map AV.str=A at *
 generalize hB:(roles.map λ_=>(1:Int)).map (AV.int .i64)++(fresh.map Fre.sort).map (AV.int .i64)++(tags.map λ_=>(5:Int)).map (AV.int .i64)=B at *
 simp[hl3,e1,e2];exact hΨ _ ⟨m,m',rfl⟩
def kO (m:Bool×Bool) (n:Nar):AV:=.agg [sl m 1 (n.roles.map .str),.vm ((B5 n).map .str) ((G2 n).map (.int .i64))]
theorem cL (h:AH) (b:Nat) (ks:List ByteArray) (vs:G6) (k:J1) (x:Int) (hb:h.boxes[b]?=some [.mbox (ks.map .str) vs]) (hk:ks.any (U7 k)=false) :
  ZH true h (.mp b) (.str k) (.int .i64 x)=some (C5,{h with boxes:=h.boxes.set b [.mbox ((ks++[k]).map .str) (vs++[.int .i64 x])]}):=by
 simp only[ZH,hb,vI,TG,QA k ks 0 hk];simp
end Go.Abs.Q
namespace Go.Abs
section
variable {O:Orc} {c:Ctx} {d:Option Nat} {op:ROp} {O3:List RO} {fr:Fr} {h:AH} {Ψ:Ex->Fr->AH->Prop}
theorem P7 (b:Bool) {x y:RCode}:B6 (xU (.bool b) O c x y fr h) Ψ=((b=true->B6 (A2 O c x (fr,h)) Ψ)/\(b=false->B6 (A2 O c y (fr,h)) Ψ)):=by
 cases b<;>simp
theorem M6 (b:Bool):B6 (krg (uL (.bool b) true O c d op O3 fr h)) Ψ=((b=true->B6 (krg (uO (B4 O c op fr h) O c d O3 fr)) Ψ)/\(b=false->B6 (krg (M0 O c O3 (put fr d C5) h)) Ψ)):=by
 cases b<;>simp
end
def Tm.kind:Tm->Int | .mk k _ _ _ _=>k
def Tm.name:Tm->ByteArray | .mk _ n _ _ _=>n
def Tm.sort:Tm->Int | .mk _ _ s _ _=>s
def Tm.cm:Tm->Bool×Bool | .mk _ _ _ m _=>m
def Tm.kids:Tm->List Tm | .mk _ _ _ _ l=>l
@[simp] theorem I3 (t:Tm):(B9 t).cells=[.int .i64 t.kind,.str t.name,.int .i64 t.sort,sl t.cm 4 (A4 t.kids)]:=by cases t;rfl
@[simp] theorem Vk (t:Tm):AV.agg [.int .i64 t.kind,.str t.name,.int .i64 t.sort,sl t.cm 4 (A4 t.kids)]=B9 t:=by cases t;rfl
@[simp] theorem tm_isTup (t:Tm):(B9 t).isTup=false:=by cases t;rfl
@[simp] theorem tm_frz (h:AH) (am:Bool) (t:Tm):KR h am (B9 t)=some (B9 t):=by cases t;rfl
@[simp] theorem tm_tame (h:AH) (t:Tm):CS h (B9 t)=true:=by cases t;rfl
@[simp] theorem zn (h:AH) (t:Tm):Dg h (B9 t)=some (B9 t):=by cases t;rfl
theorem Tm.kids_size (t:Tm):t.size=1+Tm.sizes t.kids:=by cases t;rfl
theorem tm_mk (k:Int) (n:J1) (s:Int) (m:I6) (l:G7):AV.agg [.int .i64 k,.str n,.int .i64 s,sl m 4 (A4 l)]=B9 (.mk k n s m l):=rfl
@[simp] theorem lenA_vs (h:AH) (f:Bool) (sz:Nat) (xs:G6):ZC h (.vs f sz xs)=some (.int .i64 xs.length,h):=rfl
@[simp] theorem A0H (fr:Fr):L7 fr none=some none:=rfl
@[simp] theorem A0G (fr:Fr) (k:IntKind) (i:Int):L7 fr (some (.c (.int k i)))=some (some i):=rfl
@[simp] theorem A0I (fr:Fr) (n:Nat):L7 fr (some (.t n))=(match A0 fr n with | .int _ i=>some (some i)|_=>none):=rfl
namespace Q
@[simp] theorem go_cells (g:Gol):(Ey g).cells=[.int .i64 g.kind,.str g.role,.str g.wth,sl g.dm 4 (A4 g.data),.int .i64 g.line]:=rfl
@[simp] theorem go_agg (g:Gol):AV.agg [.int .i64 g.kind,.str g.role,.str g.wth,sl g.dm 4 (A4 g.data),.int .i64 g.line]=Ey g:=rfl
@[simp] theorem go_isTup (g:Gol):(Ey g).isTup=false:=rfl
@[simp] theorem go_frz (h:AH) (am:Bool) (g:Gol):KR h am (Ey g)=some (Ey g):=rfl
@[simp] theorem go_tame (h:AH) (g:Gol):CS h (Ey g)=true:=rfl
@[simp] theorem gj (s:Ste):(EP s).cells=[.str s.frm,.str s.to,.int .i64 s.msg.kind,.str s.msg.name,.int .i64 s.msg.sort,sl s.msg.cm 4 (A4 s.msg.kids),.int .i64 s.line]:=by simp[EP]
@[simp] theorem st_agg (s:Ste):AV.agg [.str s.frm,.str s.to,.int .i64 s.msg.kind,.str s.msg.name,.int .i64 s.msg.sort,sl s.msg.cm 4 (A4 s.msg.kids),.int .i64 s.line]=EP s:=by simp[EP]
@[simp] theorem st_isTup (s:Ste):(EP s).isTup=false:=rfl
@[simp] theorem st_frz (h:AH) (am:Bool) (s:Ste):KR h am (EP s)=some (EP s):=by obtain⟨_,_,t,_⟩:=s;cases t;rfl
@[simp] theorem st_tame (h:AH) (s:Ste):CS h (EP s)=true:=by obtain⟨_,_,t,_⟩:=s;cases t;rfl
@[simp] theorem UO (f:Fre):(Lz f).cells=[.str f.role,.str f.name,.int .i64 f.sort]:=rfl
@[simp] theorem fr_agg (f:Fre):AV.agg [.str f.role,.str f.name,.int .i64 f.sort]=Lz f:=rfl
@[simp] theorem fr_isTup (f:Fre):(Lz f).isTup=false:=rfl
@[simp] theorem fr_frz (h:AH) (am:Bool) (f:Fre):KR h am (Lz f)=some (Lz f):=rfl
@[simp] theorem fr_tame (h:AH) (f:Fre):CS h (Lz f)=true:=rfl
theorem E5 (n:Nar):(G4 n).cells=[.str n.name,sl n.rm 1 (n.roles.map .str),sl n.fm 3 (n.fresh.map Lz),sl n.tm 1 (n.tags.map .str),sl n.sm 7 (n.steps.map EP),sl n.gm 5 (n.goals.map Ey)]:=rfl
@[simp] theorem na_agg (n:Nar):AV.agg [.str n.name,sl n.rm 1 (n.roles.map .str),sl n.fm 3 (n.fresh.map Lz),sl n.tm 1 (n.tags.map .str),sl n.sm 7 (n.steps.map EP),sl n.gm 5 (n.goals.map Ey)]=G4 n:=rfl
@[simp] theorem na_isTup (n:Nar):(G4 n).isTup=false:=rfl
@[simp] theorem na_frz (h:AH) (am:Bool) (n:Nar):KR h am (G4 n)=some (G4 n):=rfl
@[simp] theorem na_tame (h:AH) (n:Nar):CS h (G4 n)=true:=rfl
end Q
end Go.Abs
namespace Go.Abs.Q
open Go.Proofs
def t6 (t:Tm) (nm:ByteArray) (n:Int):Bool:=decide (t.kind=3)&&decide (t.name=nm)&&decide ((t.kids.length:Int)=n)
def Bz (rs:List ByteArray) (t:Tm):Bool:=decide (t.kind=2)&&rs.any (U7 t.name)
def Tg (f:Tm->Bool):List Tm->Bool
 |a::_=>f a
 |_=>false
def QV (f:Tm->Bool):List Tm->Bool
 |_::b::_=>f b
 |_=>false
def CP (rs:List ByteArray) (t:Tm):Bool:=t6 t (bs [115,107]) 1&&Tg (Bz rs) t.kids
def Hj (rs:List ByteArray) (t:Tm):Bool:=t6 t (bs [112,107]) 1&&Tg (CP rs) t.kids
def uu:List Tm->Bool
 |a::b::_=>decide (a.name≠b.name)
 |_=>false
def Vf (rs:List ByteArray) (t:Tm):Bool:=t6 t (bs [115,104,107]) 2&&Tg (Bz rs) t.kids&&QV (Bz rs) t.kids&&uu t.kids
def JL (rs:List ByteArray) (t:Tm):Int :=
 if t6 t (bs [112,97,105,114]) 2=true\/t6 t (bs [101,110,99]) 2=true then 2
 else if t6 t (bs [104,97,115,104]) 1=true then 1
 else if (t6 t (bs [97,101,110,99]) 2=true/\QV (Hj rs) t.kids=true)\/(t6 t (bs [115,105,103,110]) 2=true/\QV (CP rs) t.kids=true)then 1
 else if Hj rs t=true\/Vf rs t=true then 0 else -1
mutual
def y8 (ns rs:List ByteArray):Tm->Int
 | .mk k nm s m l=>if k≠3 then (if ns.any (U7 nm)=true then 0 else 13)else if JL rs (.mk k nm s m l)<0 then 10 else Yf ns rs (JL rs (.mk k nm s m l)).toNat l
def Yf (ns rs:List ByteArray):Nat->List Tm->Int
 |0,_=>0
 |_,[]=>0
 |n+1,t::l=>if y8 ns rs t≠0 then y8 ns rs t else Yf ns rs n l
end
theorem WO (ns rs:List ByteArray):∀(l:G7) (n:Nat),Yf ns rs n l=D3 (y8 ns rs) (l.take n)
 | [],0=>by simp[Yf,D3]
 | [],n+1=>by simp[Yf,D3]
 |t::l,0=>by simp[Yf,D3]
 |t::l,n+1=>by simp[Yf,D3,WO ns rs l n]
theorem Sn (ns rs:List ByteArray) (t:Tm):y8 ns rs t=if t.kind≠3 then (if ns.any (U7 t.name)=true then 0 else 13)else if JL rs t<0 then 10 else D3 (y8 ns rs) (t.kids.take (JL rs t).toNat):=by
 rw[←WO];cases t;rw[y8];rfl
def Nb (rs:List ByteArray) (a b:ByteArray):Int:=if rs.any (U7 a)=true/\rs.any (U7 b)=true then (if a=b then 1 else 0)else 13
def JA (ns rs:List ByteArray) (g:Gol):Int :=
 if rs.any (U7 g.role)=false then 13 else if OC g=true/\Nb rs g.role g.wth≠0 then Nb rs g.role g.wth else D3 (y8 ns rs) g.data
def HD (ns rs:List ByteArray) (s:Ste):Int:=if Nb rs s.frm s.to≠0 then Nb rs s.frm s.to else y8 ns rs s.msg
def S9 {α:Type} (g:α->Int) (ln:α->Int):List α->Int×Int
 | []=>(0,0)
 |a::l=>if g a≠0 then (ln a,g a)else S9 g ln l
def NP (seen:List ByteArray) (a:ByteArray) (f:Bool):Int:=if Qn a=true then 2 else if f=true/\(a=bs [101]\/a=bs [103])then 1 else if seen.any (U7 a)=true then 5 else 0
def zU (rs:List ByteArray):Option ByteArray->Bool
 |some x=>rs.any (U7 x)
 |none=>true
def d8 (rs:List ByteArray):List ByteArray->List (ByteArray×Option ByteArray)->Int
 |_,[]=>0
 |seen,(a,f)::r=>if NP seen a f.isSome≠0 then NP seen a f.isSome else if zU rs f=false then 13 else d8 rs (seen++[a]) r
theorem RI (rs:List ByteArray):∀(a b:List (ByteArray×Option ByteArray)) (seen:List ByteArray),d8 rs seen (a++b)=if d8 rs seen a≠0 then d8 rs seen a else d8 rs (seen++a.map (·.1)) b
 | [],b,seen=>by simp[d8]
 |(x,f)::a,b,seen=>by
  have ih:=RI rs a b (seen++[x]);by_cases h1:NP seen x f.isSome=0
  .by_cases h2:zU rs f=false
   .simp[d8,h1,h2]
   .rw[Bool.not_eq_false]at h2;simp[d8,h1,h2,ih]
  .simp[d8,h1]
def XT (n:Nar):List (ByteArray×Option ByteArray):=n.roles.map (λa=>(a,none))++n.fresh.map (λf=>(f.name,some f.role))++n.tags.map (λa=>(a,none))
def IM (n:Nar):Int:=d8 n.roles [] (XT n)
def Y0 (n:Nar):Int×Int :=
 if Pe n≠0 then (0,Pe n)else if IM n≠0 then (0,IM n)
 else if S9 (HD (B5 n) n.roles) Ste.line n.steps≠(0,0)then S9 (HD (B5 n) n.roles) Ste.line n.steps else S9 (JA (B5 n) n.roles) Gol.line n.goals
end Go.Abs.Q
namespace Go.Abs.Q
open Go.Proofs
attribute [local simp] E6 E8 fin K1 H2 P7 M6 R4 R3
theorem XI {t:Tm} {nm:J1} (h:t6 t nm 1=true):∃a,t.kids=[a]:=by
 simp only[t6,A0u,decide_eq_true_eq]at h;exact List.length_eq_one_iff.1 (by omega)
theorem WG (t:Tm) (nm:J1) (n:Int):pc Q Dl [B9 t,.str nm,.int .i64 n]=some (.bool (t6 t nm n)):=by
 refine HC Tw λfr hl h0 h1 h2=>?_;simp[Tw]at hl h0 h1 h2;simp +contextual (maxSteps:=10000000) [Tw,hl,h0,h1,h2,t6]
theorem Hg (m:I6) (l:List ByteArray) (x:J1) (h:l.length<=1048576):pc Q I7 [sl m 1 (l.map AV.str),.str x]=some (.bool (l.any (U7 x))):=Rf m l x (by omega)
theorem cu (m:I6) (rs:List ByteArray) (ks vs:G6) (hr:rs.length<=1048576) (t:Tm):pc Q Bw [.agg [sl m 1 (rs.map .str),.vm ks vs],B9 t]=some (.bool (Bz rs t)):=by
 have hC:=Hg m rs t.name hr;refine N3 JH λfr hl h0 h1=>?_;simp[JH]at hl h0 h1;simp +contextual (maxSteps:=10000000) [JH,hl,h0,h1,Bz,hC]
theorem YL (m:I6) (rs:List ByteArray) (ks vs:G6) (hr:rs.length<=1048576) (t:Tm):pc Q CL [.agg [sl m 1 (rs.map .str),.vm ks vs],B9 t]=some (.bool (CP rs t)):=by
 have hI:=WG t (bs [115,107]) 1;refine N3 CN λfr hl h0 h1=>?_;simp[CN]at hl h0 h1;cases ha:t6 t (bs [115,107]) 1 with
 |false =>
  rw[ha]at hI;simp[CN,hl,h0,h1,CP,hI,ha]
 |true =>
  rw[ha]at hI;obtain⟨a,hk⟩:=XI ha;have hx:IZ (A4 t.kids) 0=some (B9 a):=by rw[hk];rfl
  have hf:Tg (Bz rs) t.kids=Bz rs a:=by rw[hk];rfl
  have hR:=cu m rs ks vs hr a;simp[CN,hl,h0,h1,CP,hI,ha,hR,hx,hf]
theorem aW (m:I6) (rs:List ByteArray) (ks vs:G6) (hr:rs.length<=1048576) (t:Tm):pc Q DM [.agg [sl m 1 (rs.map .str),.vm ks vs],B9 t]=some (.bool (Hj rs t)):=by
 have hI:=WG t (bs [112,107]) 1;refine N3 Dd λfr hl h0 h1=>?_;simp[Dd]at hl h0 h1;cases ha:t6 t (bs [112,107]) 1 with
 |false =>
  rw[ha]at hI;simp[Dd,hl,h0,h1,Hj,hI,ha]
 |true =>
  rw[ha]at hI;obtain⟨a,hk⟩:=XI ha;have hx:IZ (A4 t.kids) 0=some (B9 a):=by rw[hk];rfl
  have hf:Tg (CP rs) t.kids=CP rs a:=by rw[hk];rfl
  have hR:=YL m rs ks vs hr a;simp[Dd,hl,h0,h1,Hj,hI,ha,hR,hx,hf]
theorem tJ (m:I6) (rs:List ByteArray) (ks vs:G6) (hr:rs.length<=1048576) (a b:J1):pc Q Gd [.agg [sl m 1 (rs.map .str),.vm ks vs],.str a,.str b]=some (.int .i64 (Nb rs a b)):=by
 have c1:=Hg m rs a hr;have c2:=Hg m rs b hr;refine HC KH λfr hl h0 h1 h2=>?_;simp[KH]at hl h0 h1 h2;have e:Nb rs a b=if rs.any (U7 a)=true/\rs.any (U7 b)=true then (if a=b then 1 else 0)else 13:=rfl
 generalize Nb rs a b=v at *
 generalize rs.any (U7 a)=x at *
 generalize rs.any (U7 b)=y at *
 cases x<;>cases y<;>simp +contextual [KH,hl,h0,h1,h2,c1,c2,e]
theorem Ke {α:Type} (p:α->Bool):∀(l:List α) (i:Nat),Q2 p i l<(i:Int)+l.length
 | [],i=>by simp[Q2];omega
 |a::l,i=>by
  have:=Ke p l (i+1);simp only[Q2,List.length_cons];split<;>omega
theorem wU (ks:List ByteArray) (vs:List Int) (hkv:ks.length=vs.length) (h:AH) (a:J1) :
  ∃v,Gq true true (.int .i64 0) h (.vm (ks.map .str) (vs.map (.int .i64))) (.str a)=some (.tup [.int .i64 v,.bool (ks.any (U7 a))],h):=by
 cases hk:ks.any (U7 a)with
 |false=>exact⟨0,by simp[Gq,TG,GZ,QA a ks 0 hk]⟩
 |true =>
  have hge:=(Dh (U7 a) ks 0).2 hk;have A7:=Ke (U7 a) ks 0;have hi:(Q2 (U7 a) 0 ks).toNat<vs.length:=by omega
  refine⟨vs[(Q2 (U7 a) 0 ks).toNat],?_⟩;simp[Gq,TG,GZ,Te a ks 0 hk,hi]
theorem nr (m:I6) (rs ns:List ByteArray) (vs:List Int) (m':I6) (l:G7) (B8:l.length<=1099511627776) (IH:∀t∈l,pc Q J7 [.agg [sl m 1 (rs.map .str),.vm (ns.map .str) (vs.map (.int .i64))],B9 t]=some (.int .i64 (y8 ns rs t))) (b1:G6) (fr:Fr) (h:AH) (hh:h.boxes=[[sl m 1 (rs.map .str),.vm (ns.map .str) (vs.map (.int .i64))],b1]) (hl:fr.length=98) (h2:A0 fr 2=.ptr 0 0) (h85:A0 fr 85=sl m' 4 (A4 l)) (h86:A0 fr 86=.int .i64 l.length) (h87:A0 fr 87=.int .i64 0) :
  B6 (lp (A2 (K8 Q) (D6 J7) U2) (fr,h)) λe C3 h'=>Kp U2.wr fr C3/\(e=.exit 1/\D3 (y8 ns rs) l=0\/e=.ret/\A0 C3 4=.int .i64 (D3 (y8 ns rs) l)):=by
 refine A9 rfl fr (λn fr h'=>∃(i:Nat),i+n=l.length/\A0 fr 87=.int .i64 (i:Nat)/\(∃B,h'.boxes=[sl m 1 (rs.map .str),.vm (ns.map .str) (vs.map (.int .i64))]::B)/\D3 (y8 ns rs) (l.drop i)=D3 (y8 ns rs) l) ?_ l.length h ⟨0,by omega,h87,⟨_,hh⟩,rfl⟩;rintro J Φ hJ hΦ n D4 H1 K ⟨i,hi,k87,hr⟩;have A6:=K.1.trans hl;have k2:=A8 K 2 h2;have k85:=A8 K 85 h85;have k86:=A8 K 86 h86;clear K;by_cases A7:i<l.length
 .have L3:=C6 i (by omega);obtain⟨⟨B,hB⟩,hr⟩:=hr;obtain⟨bx,fams⟩:=H1;simp only at hB;subst hB;have hx:=I0 A7;have hI:=IH l[i] (List.getElem_mem A7);rw[A0b A7]at hr;simp only[D3]at hr;generalize l[i]=t at *
  generalize y8 ns rs t=v at *
  by_cases hz:v=0
  .rw[if_neg (by simp[hz])]at hr;simp[U2,A6,k2,k85,k86,k87,A7,L3,hx,hI,hz];exact G0 hJ ⟨i+1,by omega,by simp[A6],⟨_,rfl⟩,hr⟩
  .rw[if_pos hz]at hr;simp[U2,A6,k2,k85,k86,k87,A7,hx,hI,hz];exact hΦ _ _ _ (.inr ⟨rfl,by simp[A6,hr]⟩)
 .obtain⟨_,hr⟩:=hr;rw[A0e (by omega)]at hr;simp[U2,A6,k86,k87,A7];exact hΦ _ _ _ (.inl ⟨rfl,hr.symm⟩)
theorem JX {t:Tm} {nm:J1} {n:Int} (h:(t.kids.length:Int)≠n):t6 t nm n=false:=by simp[t6,h]
theorem eY {l:G7} (h:l.length=2):∃a b,l=[a,b]:=by
 match l,h with
 | [a,b],_=>exact⟨a,b,rfl⟩
theorem li (m:I6) (rs ns:List ByteArray) (vs:List Int) (hr:rs.length<=1048576) (hkv:ns.length=vs.length):∀(n:Nat) (t:Tm),t.size<=n->t.size<=1099511627776 ->
  pc Q J7 [.agg [sl m 1 (rs.map .str),.vm (ns.map .str) (vs.map (.int .i64))],B9 t]=some (.int .i64 (y8 ns rs t)):=by
 intro n
 induction n with
 |zero=>intro t h;have:=t.size_pos;omega
 |succ n ih =>
  intro t hn hb;have J4:=t.kids_size;have B8:=Tm.length_le t.kids;have hkids:∀l:List Tm,(∀a∈l,a∈t.kids)->∀a∈l,pc Q J7 [.agg [sl m 1 (rs.map .str),.vm (ns.map .str) (vs.map (.int .i64))],B9 a]=some (.int .i64 (y8 ns rs a)) :=
   λl hs a ha=>ih a (by have:=Tm.size_le (hs a ha);omega) (by have:=Tm.size_le (hs a ha);omega)
  have Gl:=λ(m':Bool×Bool) (l:List Tm) (hs:∀a∈l,a∈t.kids) (hl:l.length<=1099511627776)=>nr m rs ns vs m' l hl (hkids l hs);clear ih hkids;have hE:=Sn ns rs t;have p1:=WG t (bs [112,97,105,114]) 2;have p2:=WG t (bs [101,110,99]) 2;have p3:=WG t (bs [104,97,115,104]) 1;have p4:=WG t (bs [97,101,110,99]) 2;have p5:=WG t (bs [115,105,103,110]) 2;have p6:=aW m rs (ns.map .str) (vs.map (.int .i64)) hr t;have p7:=WG t (bs [115,104,107]) 2;generalize y8 ns rs t=v at *
  refine N3 G9 λfr hl h0 h1=>?_;simp[G9]at hl h0 h1;by_cases hk:t.kind=3
  .rw[if_neg (by simp[hk])]at hE;have key:∀(m':Bool×Bool) (l:List Tm) (D4:Fr) (h:AH),(∀a∈l,a∈t.kids)->l.length<=1099511627776->v=D3 (y8 ns rs) l->D4.length=98->A0 D4 2=.ptr 0 0->A0 D4 85=sl m' 4 (A4 l)->A0 D4 86=.int .i64 l.length->A0 D4 87=.int .i64 0->(∃b1,h.boxes=[[sl m 1 (rs.map .str),.vm (ns.map .str) (vs.map (.int .i64))],b1]) ->
     B6 (lp (A2 (K8 Q) (D6 J7) U2) (D4,h)) (BL 1 (SQ (K8 Q) (D6 J7) (.seq (.region false [⟨some 4,.mov (.c (.int .i64 0)),none⟩]) .ret) (kU [.tmp 4] (.int .i64 v)))):=by
    rintro m' l D4 h hs hll rfl hl q2 q85 q86 q87 ⟨b1,hb⟩;refine B6.mono (Gl m' l hs hll b1 D4 h hb hl q2 q85 q86 q87) ?_;rintro e Q6 h2 ⟨K,⟨rfl,hz⟩|⟨rfl,k4⟩⟩
    .have Bb:=K.1.trans hl;simp[Bb,hz]
    .simp[k4]
   by_cases h2:t.kids.length=2
   .obtain⟨x,y,hxy⟩:=eY h2;have n0:IZ (A4 t.kids) 0=some (B9 x):=by rw[hxy];rfl
    have n1:IZ (A4 t.kids) 1=some (B9 y):=by rw[hxy];rfl
    have s1:=gd ⟨[[sl m 1 (rs.map .str),.vm (ns.map .str) (vs.map (.int .i64))],[.int .i64 t.kind,.str t.name,.int .i64 t.sort,sl t.cm 4 (A4 t.kids)]],[]⟩ t.cm 4 (by omega) (A4 t.kids) 1 (by simp[h2]);rw[show ((1:Nat):Int)=1 from rfl]at s1;have c1:=aW m rs (ns.map .str) (vs.map (.int .i64)) hr y;have c2:=YL m rs (ns.map .str) (vs.map (.int .i64)) hr y;have c3:=cu m rs (ns.map .str) (vs.map (.int .i64)) hr x;have c4:=cu m rs (ns.map .str) (vs.map (.int .i64)) hr y;have f1:QV (Hj rs) t.kids=Hj rs y:=by rw[hxy];rfl
    have f2:QV (CP rs) t.kids=CP rs y:=by rw[hxy];rfl
    have f3:Tg (Bz rs) t.kids=Bz rs x:=by rw[hxy];rfl
    have f4:QV (Bz rs) t.kids=Bz rs y:=by rw[hxy];rfl
    have f5:uu t.kids=decide (x.name≠y.name):=by rw[hxy];rfl
    have b3:t6 t (bs [104,97,115,104]) 1=false:=JX (by omega);have b6:Hj rs t=false:=by simp[Hj,JX (show (t.kids.length:Int)≠1 by omega)]
    simp only[JL,Vf,b3,b6,f1,f2,f3,f4,f5]at hE p3 p6;clear f1 f2 f3 f4 f5 b3 b6 Gl;have ex1:∀{a b:ByteArray},a≠b->t6 t a 2=true->t6 t b 2=false:=λBI ha=>by
     simp only[t6,A0u,decide_eq_true_eq]at ha;simp[t6,ha.1.2,BI]
    have x45:=ex1 (a:=bs [97,101,110,99]) (b:=bs [115,105,103,110]) (by decide);have x47:=ex1 (a:=bs [97,101,110,99]) (b:=bs [115,104,107]) (by decide);have x57:=ex1 (a:=bs [115,105,103,110]) (b:=bs [115,104,107]) (by decide);clear ex1;generalize t6 t (bs [112,97,105,114]) 2=b1 at *
    generalize t6 t (bs [101,110,99]) 2=b2 at *
    generalize t6 t (bs [97,101,110,99]) 2=b4 at *
    generalize t6 t (bs [115,105,103,110]) 2=b5 at *
    generalize t6 t (bs [115,104,107]) 2=b7 at *
    generalize Hj rs y=e1 at *
    generalize CP rs y=e2 at *
    generalize Bz rs x=e3 at *
    generalize Bz rs y=e4 at *
    have t2:t.kids.take 2=t.kids:=A0f (by omega);cases b1 with
    |true =>
     simp[t2]at hE;simp[G9,hl,h0,h1,B7 hk,p1];exact key t.cm t.kids _ _ (λ_ h=>h) (by omega) hE (by simp[hl]) (by simp[hl]) (by simp[hl]) (by simp[hl]) (by simp[hl]) ⟨_,rfl⟩
    |false =>
     cases b2 with
     |true =>
      simp[t2]at hE;simp[G9,hl,h0,h1,B7 hk,p1,p2];exact key t.cm t.kids _ _ (λ_ h=>h) (by omega) hE (by simp[hl]) (by simp[hl]) (by simp[hl]) (by simp[hl]) (by simp[hl]) ⟨_,rfl⟩
     |false =>
      cases b4 with
      |true =>
       obtain rfl:=x45 rfl;obtain rfl:=x47 rfl;cases e1 with
       |true =>
        simp at hE;simp[G9,hl,h0,h1,B7 hk,p1,p2,p3,p4,n1,c1,s1];exact key _ _ _ _ (λq h=>A0s h) (by rw[A0w];omega) hE (by simp[hl]) (by simp[hl]) (by simp[hl,C9];rfl) (by simp[hl]) (by simp[hl]) ⟨_,rfl⟩
       |false =>
        simp at hE;subst hE;simp[G9,hl,h0,h1,B7 hk,p1,p2,p3,p4,p5,p6,p7,n1,c1]
      |false =>
       cases b5 with
       |true =>
        obtain rfl:=x57 rfl;cases e2 with
        |true =>
         simp at hE;simp[G9,hl,h0,h1,B7 hk,p1,p2,p3,p4,p5,n1,c2,s1];exact key _ _ _ _ (λq h=>A0s h) (by rw[A0w];omega) hE (by simp[hl]) (by simp[hl]) (by simp[hl,C9];rfl) (by simp[hl]) (by simp[hl]) ⟨_,rfl⟩
        |false =>
         simp at hE;subst hE;simp[G9,hl,h0,h1,B7 hk,p1,p2,p3,p4,p5,p6,p7,n1,c2]
       |false =>
        cases b7 with
        |false =>
         simp at hE;subst hE;simp[G9,hl,h0,h1,B7 hk,p1,p2,p3,p4,p5,p6,p7]
        |true =>
         cases e3 with
         |false =>
          simp at hE;subst hE;simp[G9,hl,h0,h1,B7 hk,p1,p2,p3,p4,p5,p6,p7,n0,c3]
         |true =>
          cases e4 with
          |false =>
           simp at hE;subst hE;simp[G9,hl,h0,h1,B7 hk,p1,p2,p3,p4,p5,p6,p7,n0,n1,c3,c4]
          |true =>
           by_cases hxn:x.name=y.name
           .simp[hxn]at hE;subst hE;simp[G9,hl,h0,h1,B7 hk,p1,p2,p3,p4,p5,p6,p7,n0,n1,c3,c4,B7 hxn]
           .simp[hxn,D3]at hE;subst hE;simp[G9,hl,h0,h1,B7 hk,p1,p2,p3,p4,p5,p6,p7,n0,n1,c3,c4,A3 hxn];exact key (true,false) [] _ _ (λq h=>nomatch h) (by simp) rfl (by simp[hl]) (by simp[hl]) (by simp[hl];exact GT 4) (by simp[hl]) (by simp[hl]) ⟨_,rfl⟩
   .have b1:t6 t (bs [112,97,105,114]) 2=false:=JX (by omega);have b2:t6 t (bs [101,110,99]) 2=false:=JX (by omega);have b4:t6 t (bs [97,101,110,99]) 2=false:=JX (by omega);have b5:t6 t (bs [115,105,103,110]) 2=false:=JX (by omega);have b7:t6 t (bs [115,104,107]) 2=false:=JX (by omega);simp only[JL,Vf,b1,b2,b4,b5,b7]at hE p1 p2 p4 p5 p7;clear b1 b2 b4 b5 b7 Gl;have t1:t6 t (bs [104,97,115,104]) 1=true->t.kids.take 1=t.kids:=λh=>by
     obtain⟨a,ha⟩:=XI h;rw[ha];rfl
    generalize t6 t (bs [104,97,115,104]) 1=b3 at *
    generalize Hj rs t=b6 at *
    cases b3 with
    |true =>
     simp[t1 rfl]at hE;simp[G9,hl,h0,h1,B7 hk,p1,p2,p3];exact key t.cm t.kids _ _ (λ_ h=>h) (by omega) hE (by simp[hl]) (by simp[hl]) (by simp[hl]) (by simp[hl]) (by simp[hl]) ⟨_,rfl⟩
    |false =>
     cases b6 with
     |true =>
      simp[D3]at hE;subst hE;simp[G9,hl,h0,h1,B7 hk,p1,p2,p3,p4,p5,p6];exact key (true,false) [] _ _ (λq h=>nomatch h) (by simp) rfl (by simp[hl]) (by simp[hl]) (by simp[hl];exact GT 4) (by simp[hl]) (by simp[hl]) ⟨_,rfl⟩
     |false =>
      simp at hE;subst hE;simp[G9,hl,h0,h1,B7 hk,p1,p2,p3,p4,p5,p6,p7]
  .rw[if_pos hk]at hE;obtain⟨z,hz⟩:=wU ns vs hkv ⟨[[sl m 1 (rs.map .str),.vm (ns.map .str) (vs.map (.int .i64))],[.int .i64 t.kind,.str t.name,.int .i64 t.sort,sl t.cm 4 (A4 t.kids)]],[]⟩ t.name;simp +contextual (maxSteps:=10000000) [G9,hl,h0,h1,hk,hz,hE]
theorem PW (rs seen:List ByteArray) (a:J1) (r:List (ByteArray×Option ByteArray)):d8 rs seen ((a,none)::r)=if NP seen a false≠0 then NP seen a false else d8 rs (seen++[a]) r:=by
 rw[d8];simp[zU]
theorem VN (rs seen:List ByteArray) (a x:J1) (r:List (ByteArray×Option ByteArray)):d8 rs seen ((a,some x)::r)=if NP seen a true≠0 then NP seen a true else if rs.any (U7 x)=false then 13 else d8 rs (seen++[a]) r:=by
 rw[d8];rfl
theorem L6 {sz:Nat} {acc:G6} {v:AV} {h:AH} (hg:EB sz acc v h):v.isTup=false/\v.cells=[v]/\ED [v]=false:=by
 rcases hg with ⟨_,rfl⟩|⟨_,k,rfl,_⟩<;>exact⟨rfl,rfl,rfl⟩
theorem dD (h:AH) (seen:List ByteArray) (v:AV) (hb:h.boxes[1]?=some [v]) (hg:EB 1 (seen.map .str) v h) (B8:seen.length<=1048576) (a:J1) (f:Bool) :
  ∃w h',rc Q M5 [.str a,.bool f,.ptr 1 0] h=some (w,h')/\w=.int .i64 (NP seen a f)/\(NP seen a f=0->∃v',h'.boxes=h.boxes.set 1 [v']/\EB 1 ((seen++[a]).map .str) v' h'):=by
 have hH:pc Q Bx [.str a,.str (bs [35])]=some (.bool (Qn a)):=yR a 35;obtain⟨m,hm⟩:=SP hg;have hC:=Hg m seen a B8;obtain⟨v',h',ha,d7,Qw⟩:=Al (c:=D6 M5) (bytes:=16) (x:=.str a) hg rfl (true,true) (by simp;omega) (by simp;omega);have hg2:EB 1 ((seen++[a]).map AV.str) v' h':=by rw[A0d];exact d7
 have hv:=(L6 hg).2.2;obtain⟨c1,c2,c3⟩:=L6 d7;have A7:1<h.boxes.length:=H4 hb;have hE:NP seen a f=if Qn a=true then 2 else if f=true/\(a=bs [101]\/a=bs [103])then 1 else if seen.any (U7 a)=true then 5 else 0:=rfl
 generalize NP seen a f=z at *
 generalize seen.any (U7 a)=s at *
 generalize Qn a=x at *
 refine cz Q5 λfr hl h0 h1 h2=>?_;simp[Q5]at hl h0 h1 h2;cases x with
 |true =>
  simp at hE;simp[Q5,hl,h0,hH,hE]
 |false =>
  cases f with
  |true =>
   by_cases he:a=bs [101]
   .subst he;simp at hE;simp[Q5,hl,h0,h1,hH,hE]
   .by_cases hg:a=bs [103]
    .subst hg;simp at hE;simp[Q5,hl,h0,h1,hH,hE,A3 he]
    .simp[he,hg]at hE;cases s with
     |true =>
      simp at hE;simp[Q5,hl,h0,h1,h2,hH,hE,A3 he,A3 hg,hb,hv,hm,hC]
     |false =>
      simp at hE;subst hE;simp[Q5,hl,h0,h1,h2,hH,A3 he,A3 hg,hb,hv,hm,hC,A5,ha,Qw,c1,c2];exact⟨v',rfl,Bn d7 rfl⟩
  |false =>
   cases s with
   |true =>
    simp at hE;simp[Q5,hl,h0,h1,h2,hH,hE,hb,hv,hm,hC]
   |false =>
    simp at hE;subst hE;simp[Q5,hl,h0,h1,h2,hH,hb,hv,hm,hC,A5,ha,Qw,c1,c2];exact⟨v',rfl,Bn d7 rfl⟩
theorem nS (m:I6) (rs seen:List ByteArray) (l:List ByteArray) (B8:seen.length+l.length<=1048576) (A:G6) (fr:Fr) (h:AH) (hh:∃v B,h.boxes=A::[v]::B/\EB 1 (seen.map .str) v h) (hl:fr.length=64) (h4:A0 fr 4=.fn M5 [.ptr 1 0]) (h16:A0 fr 16=sl m 1 (l.map .str)) (h17:A0 fr 17=.int .i64 l.length) (h18:A0 fr 18=.int .i64 0) :
  B6 (lp (A2 (K8 Q) (D6 V0) AG) (fr,h)) λe C3 h'=>Kp AG.wr fr C3/\(e=.exit 0/\d8 rs seen (l.map λa=>(a,none))=0/\(∃v B,h'.boxes=A::[v]::B/\EB 1 ((seen++l).map .str) v h')\/e=.ret/\A0 C3 2=.int .i64 (d8 rs seen (l.map λa=>(a,none)))/\d8 rs seen (l.map λa=>(a,none))≠0):=by
 refine A9 rfl fr (λn fr h'=>∃(i:Nat),i+n=l.length/\A0 fr 18=.int .i64 (i:Nat)/\(∃v B,h'.boxes=A::[v]::B/\EB 1 ((seen++l.take i).map .str) v h')/\d8 rs (seen++l.take i) ((l.drop i).map λa=>(a,none))=d8 rs seen (l.map λa=>(a,none))) ?_ l.length h ⟨0,by omega,h18,by simpa using hh,by simp⟩;rintro J Φ hJ hΦ n D4 H1 K ⟨i,hi,k18,hr⟩;have A6:=K.1.trans hl;have k4:=A8 K 4 h4;have k16:=A8 K 16 h16;have k17:=A8 K 17 h17;clear K;by_cases A7:i<l.length
 .have L3:=C6 i (by omega);obtain⟨⟨v,B,hB,hg⟩,hr⟩:=hr;have hx:=G1 (f:=AV.str) (A0a A7);obtain⟨w,h',hN,hw2,hz⟩:=dD H1 _ v (by rw[hB];rfl) hg (by simp;omega) l[i] false;subst hw2;rw[A0b A7,A0i]at hr;rw[PW]at hr;by_cases Xb:NP (seen++l.take i) l[i] false=0
  .obtain⟨v',hb',d7⟩:=hz Xb;rw[if_neg (by simp[Xb])]at hr;simp[AG,A6,k4,k16,k17,k18,A7,L3,hx,hN,Xb];exact G0 hJ ⟨i+1,by omega,by simp[A6],⟨v',B,by rw[hb',hB];rfl,by rw[A0Z A7,←A0c];exact d7⟩,by rw[A0Z A7,←A0c];exact hr⟩
  .rw[if_pos Xb]at hr;simp[AG,A6,k4,k16,k17,k18,A7,hx,hN,Xb];exact hΦ _ _ _ (.inr ⟨rfl,by simp[A6,hr],by rw[←hr];exact Xb⟩)
 .obtain⟨hh',hr⟩:=hr;rw[A0e (by omega)]at hr;rw[A0f (by omega)]at hr hh';simp only[A0g,d8]at hr;simp[AG,A6,k17,k18,A7];exact hΦ _ _ _ (.inl ⟨rfl,hr.symm,hh'⟩)
theorem nQ (m:I6) (rs seen:List ByteArray) (l:List ByteArray) (B8:seen.length+l.length<=1048576) (A:G6) (fr:Fr) (h:AH) (hh:∃v B,h.boxes=A::[v]::B/\EB 1 (seen.map .str) v h) (hl:fr.length=64) (h4:A0 fr 4=.fn M5 [.ptr 1 0]) (h51:A0 fr 51=sl m 1 (l.map .str)) (h52:A0 fr 52=.int .i64 l.length) (h53:A0 fr 53=.int .i64 0) :
  B6 (lp (A2 (K8 Q) (D6 V0) AF) (fr,h)) λe C3 h'=>Kp AF.wr fr C3/\(e=.exit 4/\d8 rs seen (l.map λa=>(a,none))=0/\(∃v B,h'.boxes=A::[v]::B/\EB 1 ((seen++l).map .str) v h')\/e=.ret/\A0 C3 2=.int .i64 (d8 rs seen (l.map λa=>(a,none)))/\d8 rs seen (l.map λa=>(a,none))≠0):=by
 refine A9 rfl fr (λn fr h'=>∃(i:Nat),i+n=l.length/\A0 fr 53=.int .i64 (i:Nat)/\(∃v B,h'.boxes=A::[v]::B/\EB 1 ((seen++l.take i).map .str) v h')/\d8 rs (seen++l.take i) ((l.drop i).map λa=>(a,none))=d8 rs seen (l.map λa=>(a,none))) ?_ l.length h ⟨0,by omega,h53,by simpa using hh,by simp⟩;rintro J Φ hJ hΦ n D4 H1 K ⟨i,hi,k53,hr⟩;have A6:=K.1.trans hl;have k4:=A8 K 4 h4;have k51:=A8 K 51 h51;have k52:=A8 K 52 h52;clear K;by_cases A7:i<l.length
 .have L3:=C6 i (by omega);obtain⟨⟨v,B,hB,hg⟩,hr⟩:=hr;have hx:=G1 (f:=AV.str) (A0a A7);obtain⟨w,h',hN,hw2,hz⟩:=dD H1 _ v (by rw[hB];rfl) hg (by simp;omega) l[i] false;subst hw2;rw[A0b A7,A0i]at hr;rw[PW]at hr;by_cases Xb:NP (seen++l.take i) l[i] false=0
  .obtain⟨v',hb',d7⟩:=hz Xb;rw[if_neg (by simp[Xb])]at hr;simp[AF,A6,k4,k51,k52,k53,A7,L3,hx,hN,Xb];exact G0 hJ ⟨i+1,by omega,by simp[A6],⟨v',B,by rw[hb',hB];rfl,by rw[A0Z A7,←A0c];exact d7⟩,by rw[A0Z A7,←A0c];exact hr⟩
  .rw[if_pos Xb]at hr;simp[AF,A6,k4,k51,k52,k53,A7,hx,hN,Xb];exact hΦ _ _ _ (.inr ⟨rfl,by simp[A6,hr],by rw[←hr];exact Xb⟩)
 .obtain⟨hh',hr⟩:=hr;rw[A0e (by omega)]at hr;rw[A0f (by omega)]at hr hh';simp only[A0g,d8]at hr;simp[AF,A6,k52,k53,A7];exact hΦ _ _ _ (.inl ⟨rfl,hr.symm,hh'⟩)
theorem dN {α β:Type} (f:α->β) {l:List α} {i:Nat} (h:i<l.length):(l.map f).take (i+1)=(l.map f).take i++[f l[i]]:=by
 rw[A0Z (by simpa using h)];simp
theorem nR (m m0:I6) (rs seen:List ByteArray) (hrs:rs.length<=1048576) (l:List Fre) (B8:seen.length+l.length<=1048576) (a0 a2 a3 a4 a5:AV) (fr:Fr) (h:AH) (hh:∃v B,h.boxes=[a0,sl m0 1 (rs.map .str),a2,a3,a4,a5]::[v]::B/\EB 1 (seen.map .str) v h) (hl:fr.length=64) (h1:A0 fr 1=.ptr 0 0) (h4:A0 fr 4=.fn M5 [.ptr 1 0]) (h30:A0 fr 30=sl m 3 (l.map Lz)) (h31:A0 fr 31=.int .i64 l.length) (h32:A0 fr 32=.int .i64 0) :
  B6 (lp (A2 (K8 Q) (D6 V0) W2) (fr,h)) λe C3 h'=>Kp W2.wr fr C3/\(e=.exit 2/\d8 rs seen (l.map λf=>(f.name,some f.role))=0/\(∃v B,h'.boxes=[a0,sl m0 1 (rs.map .str),a2,a3,a4,a5]::[v]::B/\EB 1 ((seen++l.map Fre.name).map .str) v h')\/e=.ret/\A0 C3 2=.int .i64 (d8 rs seen (l.map λf=>(f.name,some f.role)))/\d8 rs seen (l.map λf=>(f.name,some f.role))≠0):=by
 refine A9 rfl fr (λn fr h'=>∃(i:Nat),i+n=l.length/\A0 fr 32=.int .i64 (i:Nat)/\(∃v B,h'.boxes=[a0,sl m0 1 (rs.map .str),a2,a3,a4,a5]::[v]::B/\EB 1 ((seen++(l.map Fre.name).take i).map .str) v h')/\d8 rs (seen++(l.map Fre.name).take i) ((l.drop i).map λf=>(f.name,some f.role))=d8 rs seen (l.map λf=>(f.name,some f.role))) ?_ l.length h ⟨0,by omega,h32,by simpa using hh,by simp⟩;rintro J Φ hJ hΦ n D4 H1 K ⟨i,hi,k32,hr⟩;have A6:=K.1.trans hl;have k1:=A8 K 1 h1;have k4:=A8 K 4 h4;have k30:=A8 K 30 h30;have k31:=A8 K 31 h31;clear K;by_cases A7:i<l.length
 .have L3:=C6 i (by omega);obtain⟨⟨v,B,hB,hg⟩,hr⟩:=hr;have hx:=G1 (f:=Lz) (A0a A7);have hC:=Hg m0 rs l[i].role hrs;obtain⟨bx,fams⟩:=H1;simp only at hB;subst hB;obtain⟨w,h',hN,hw2,hz⟩:=dD ⟨[a0,sl m0 1 (rs.map .str),a2,a3,a4,a5]::[v]::(B++[(Lz l[i]).cells]),fams⟩ _ v rfl (Bn hg rfl) (by simp;omega) l[i].name true;subst hw2;rw[A0b A7,A0i]at hr;rw[VN]at hr;by_cases Xb:NP (seen++(l.map Fre.name).take i) l[i].name true=0
  .obtain⟨v',hb',d7⟩:=hz Xb;rw[if_neg (by simp[Xb])]at hr;simp only[A0n,A0o]at hb';simp only[UO]at hN hb';cases hq:rs.any (U7 l[i].role)with
   |true =>
    rw[hq]at hC hr;rw[if_neg (by simp)]at hr;simp[W2,A6,k1,k4,k30,k31,k32,A7,L3,hx,hN,Xb,hb',hC];exact G0 hJ ⟨i+1,by omega,by simp[A6],⟨v',_,hb',by rw[dN _ A7,←A0c];exact Bn d7 rfl⟩,by rw[dN _ A7,←A0c];exact hr⟩
   |false =>
    rw[hq]at hC hr;rw[if_pos rfl]at hr;simp[W2,A6,k1,k4,k30,k31,k32,A7,hx,hN,Xb,hb',hC];exact hΦ _ _ _ (.inr ⟨rfl,by rw[←hr];simp[A6],by rw[←hr];omega⟩)
  .rw[if_pos Xb]at hr;simp only[UO]at hN;simp[W2,A6,k4,k30,k31,k32,A7,hx,hN,Xb];exact hΦ _ _ _ (.inr ⟨rfl,by simp[A6,hr],by rw[←hr];exact Xb⟩)
 .obtain⟨hh',hr⟩:=hr;rw[A0e (by omega)]at hr;rw[A0f (by simp;omega)]at hr hh';simp only[A0g,d8]at hr;simp[W2,A6,k31,k32,A7];exact hΦ _ _ _ (.inl ⟨rfl,hr.symm,hh'⟩)
theorem fj (n:Nar) (hS:n.roles.length+n.fresh.length+n.tags.length<=1048576):pc Q V0 [G4 n]=some (.int .i64 (IM n)):=by
 have hE:IM n=if d8 n.roles [] (n.roles.map λa=>(a,none))≠0 then d8 n.roles [] (n.roles.map λa=>(a,none))
   else if d8 n.roles n.roles (n.fresh.map λf=>(f.name,some f.role))≠0 then d8 n.roles n.roles (n.fresh.map λf=>(f.name,some f.role))
   else d8 n.roles (n.roles++n.fresh.map Fre.name) (n.tags.map λa=>(a,none)):=by
  unfold IM XT;rw[RI,RI];have e1:(n.roles.map λa=>((a,none):ByteArray×Option ByteArray)).map (·.1)=n.roles:=by simp[A0p]
  have e2:(n.fresh.map λf=>((f.name,some f.role):ByteArray×Option ByteArray)).map (·.1)=n.fresh.map Fre.name:=by simp[A0p]
  rw[A0d,e1,e2,A0k];split<;>simp_all
 generalize IM n=z at *
 obtain⟨name,rm,roles,fm,fresh,tm,tags,sm,steps,gm,goals⟩:=n;simp only at hE hS;refine H6 LF λfr hl h0=>?_;simp[LF,G4]at hl h0;simp[LF,hl,h0];refine B6.mono (nS rm roles [] roles (by simp;omega) [.str name,sl rm 1 (roles.map .str),sl fm 3 (fresh.map Lz),sl tm 1 (tags.map .str),sl sm 7 (steps.map EP),sl gm 5 (goals.map Ey)] _ _ ?_ ?_ ?_ ?_ ?_ ?_) ?_<;>first|(simp[hl];done)|skip
 .exact⟨_,_,rfl,DB _ _⟩
 rintro e D4 h1 ⟨K,⟨rfl,hz,hh⟩|⟨rfl,k2,hz⟩⟩
 .have J3:D4.length=64:=K.1.trans (by simp[hl]);have Fe:A0 D4 1=.ptr 0 0:=A8 K 1 (by simp[hl]);have ND:A0 D4 4=.fn M5 [.ptr 1 0]:=A8 K 4 (by simp[hl]);clear K;rw[if_neg (by simp[hz])]at hE;rw[A0k]at hh;have hh0:=hh;obtain⟨v,B,hB,hg⟩:=hh;simp[J3,Fe,hB];refine B6.mono (nR fm rm roles roles (by omega) fresh (by omega) _ _ _ _ _ _ h1 hh0 ?_ ?_ ?_ ?_ ?_ ?_) ?_<;>first|(simp[J3,Fe,ND];done)|skip
  rintro e Q6 h2 ⟨K,⟨rfl,hz,hh⟩|⟨rfl,k2,hz⟩⟩
  .have T6:Q6.length=64:=K.1.trans (by simp[J3]);have k1fr2:A0 Q6 1=.ptr 0 0:=A8 K 1 (by simp[Fe]);have k4fr2:A0 Q6 4=.fn M5 [.ptr 1 0]:=A8 K 4 (by simp[ND]);clear K;rw[if_neg (by simp[hz])]at hE;have hh0:=hh;obtain⟨v,B,hB,hg⟩:=hh;simp[T6,k1fr2,hB];refine B6.mono (nQ tm roles (roles++fresh.map Fre.name) tags (by simp;omega) _ _ h2 hh0 ?_ ?_ ?_ ?_ ?_) ?_<;>first|(simp[T6,k4fr2];done)|skip
   rintro e fr3 h3 ⟨K,⟨rfl,hz,hh⟩|⟨rfl,k2,hz⟩⟩
   .have hlfr3:fr3.length=64:=K.1.trans (by simp[T6]);clear K;rw[hz]at hE;simp[hlfr3,hE]
   .simp[k2,hE]
  .rw[if_pos hz]at hE;simp[k2,hE]
 .rw[if_pos hz]at hE;simp[k2,hE]
end Go.Abs.Q
namespace Go.Abs.Q
open Go.Proofs
attribute [local simp] E6 E8 fin K1 H2
theorem vH (h:AH) (b:Nat) (ks vs:G6) (hb:h.boxes[b]?=some [.mbox ks vs]):Ev h true (.mp b)=some (.vm ks vs):=by simp[Ev,hb]
@[simp] theorem zL (ks vs:G6):ED [.mbox ks vs]=true:=rfl
theorem RJ {rs seen:List ByteArray} {a:J1} {r:List (ByteArray×Option ByteArray)} (h:d8 rs seen ((a,none)::r)=0):seen.any (U7 a)=false/\d8 rs (seen++[a]) r=0:=by
 rw[PW]at h;by_cases hz:NP seen a false=0
 .rw[if_neg (by simp[hz])]at h;refine⟨?_,h⟩;unfold NP at hz;cases hs:seen.any (U7 a)with
  |false=>rfl
  |true =>
   rw[hs]at hz;split at hz<;>simp at hz
 .rw[if_pos hz]at h;exact absurd h hz
theorem XP {rs seen:List ByteArray} {a x:J1} {r:List (ByteArray×Option ByteArray)} (h:d8 rs seen ((a,some x)::r)=0):seen.any (U7 a)=false/\rs.any (U7 x)=true/\d8 rs (seen++[a]) r=0:=by
 rw[VN]at h;by_cases hz:NP seen a true=0
 .rw[if_neg (by simp[hz])]at h;have h2:seen.any (U7 a)=false:=by
   unfold NP at hz;cases hs:seen.any (U7 a)with
   |false=>rfl
   |true =>
    rw[hs]at hz;split at hz
    .simp at hz
    .split at hz<;>simp at hz
  cases hx:rs.any (U7 x)with
  |false=>rw[hx,if_pos rfl]at h;omega
  |true=>rw[hx,if_neg (by simp)]at h;exact⟨h2,rfl,h⟩
 .rw[if_pos hz]at h;exact absurd h hz
theorem sA (m:I6) (rs seen:List ByteArray) (so:List Int) (l:List ByteArray) (B8:l.length<=1048576) (hd:d8 rs seen (l.map λa=>(a,none))=0) (A C:G6) (t0:AV) (B:List (List AV)) (fr:Fr) (h:AH) (hh:h.boxes=A::C::[.mbox (seen.map .str) (so.map (.int .i64))]::[t0,.mp 2]::B) (hl:fr.length=51) (h3:A0 fr 3=.ptr 3 0) (h15:A0 fr 15=sl m 1 (l.map .str)) (h16:A0 fr 16=.int .i64 l.length) (h17:A0 fr 17=.int .i64 0) :
  B6 (lp (A2 (K8 Q) (D6 BZ) Fu) (fr,h)) λe C3 h'=>Kp Fu.wr fr C3/\e=.exit 0/\h'.boxes=A::C::[.mbox ((seen++l).map .str) ((so++l.map λ_=>(1:Int)).map (.int .i64))]::[t0,.mp 2]::B:=by
 refine A9 rfl fr (λn fr h'=>∃(i:Nat),i+n=l.length/\A0 fr 17=.int .i64 (i:Nat)/\h'.boxes=A::C::[.mbox ((seen++l.take i).map .str) ((so++(l.take i).map λ_=>(1:Int)).map (.int .i64))]::[t0,.mp 2]::B/\d8 rs (seen++l.take i) ((l.drop i).map λa=>(a,none))=0) ?_ l.length h ⟨0,by omega,h17,by rw[hh,A0m,A0g,A0h,A0h],by simpa using hd⟩;rintro J Φ hJ hΦ n D4 H1 K ⟨i,hi,k17,hr⟩;have A6:=K.1.trans hl;have k3:=A8 K 3 h3;have k15:=A8 K 15 h15;have k16:=A8 K 16 h16;clear K;by_cases A7:i<l.length
 .have L3:=C6 i (by omega);obtain⟨hB,hr⟩:=hr;obtain⟨bx,fams⟩:=H1;simp only at hB;subst hB;have hx:=G1 (f:=AV.str) (A0a A7);rw[A0b A7,A0i]at hr;obtain⟨q1,q2⟩:=RJ hr;have hM:=cL ⟨A::C::[.mbox ((seen++l.take i).map .str) ((so++(l.take i).map λ_=>(1:Int)).map (.int .i64))]::[t0,.mp 2]::B,fams⟩ 2 _ _ l[i] 1 rfl q1;have e1:(seen++l.take i++[l[i]])=seen++l.take (i+1):=by rw[A0Z A7,A0c]
  have e2:(so++(l.take i).map λ_=>(1:Int)).map (AV.int .i64)++[.int .i64 1]=(so++(l.take (i+1)).map λ_=>(1:Int)).map (AV.int .i64):=by
   rw[A0Z A7];simp only[A0d,A0i,A0g,A0c]
  rw[e1,e2]at hM;rw[e1]at q2;simp only[A0n,A0o]at hM;generalize (seen++l.take i).map AV.str=U at *
  generalize (so++(l.take i).map λ_=>(1:Int)).map (AV.int .i64)=V at *
  generalize hU:(seen++l.take (i+1)).map AV.str=U' at *
  generalize hV:(so++(l.take (i+1)).map λ_=>(1:Int)).map (AV.int .i64)=V' at *
  simp[Fu,A6,k3,k15,k16,k17,A7,L3,hx,hM];exact G0 hJ ⟨i+1,by omega,by simp[A6],by rw[hU,hV],q2⟩
 .obtain⟨hB,hr⟩:=hr;rw[A0e (by omega)]at hr;rw[A0f (by omega)]at hB;simp[Fu,A6,k16,k17,A7];exact hΦ _ _ _ ⟨rfl,hB⟩
theorem ry (m:I6) (rs seen:List ByteArray) (so:List Int) (l:List ByteArray) (B8:l.length<=1048576) (hd:d8 rs seen (l.map λa=>(a,none))=0) (A C:G6) (t0:AV) (B:List (List AV)) (fr:Fr) (h:AH) (hh:h.boxes=A::C::[.mbox (seen.map .str) (so.map (.int .i64))]::[t0,.mp 2]::B) (hl:fr.length=51) (h3:A0 fr 3=.ptr 3 0) (h40:A0 fr 40=sl m 1 (l.map .str)) (h41:A0 fr 41=.int .i64 l.length) (h42:A0 fr 42=.int .i64 0) :
  B6 (lp (A2 (K8 Q) (D6 BZ) Fs) (fr,h)) λe C3 h'=>Kp Fs.wr fr C3/\e=.exit 4/\h'.boxes=A::C::[.mbox ((seen++l).map .str) ((so++l.map λ_=>(5:Int)).map (.int .i64))]::[t0,.mp 2]::B:=by
 refine A9 rfl fr (λn fr h'=>∃(i:Nat),i+n=l.length/\A0 fr 42=.int .i64 (i:Nat)/\h'.boxes=A::C::[.mbox ((seen++l.take i).map .str) ((so++(l.take i).map λ_=>(5:Int)).map (.int .i64))]::[t0,.mp 2]::B/\d8 rs (seen++l.take i) ((l.drop i).map λa=>(a,none))=0) ?_ l.length h ⟨0,by omega,h42,by rw[hh,A0m,A0g,A0h,A0h],by simpa using hd⟩;rintro J Φ hJ hΦ n D4 H1 K ⟨i,hi,k42,hr⟩;have A6:=K.1.trans hl;have k3:=A8 K 3 h3;have k40:=A8 K 40 h40;have k41:=A8 K 41 h41;clear K;by_cases A7:i<l.length
 .have L3:=C6 i (by omega);obtain⟨hB,hr⟩:=hr;obtain⟨bx,fams⟩:=H1;simp only at hB;subst hB;have hx:=G1 (f:=AV.str) (A0a A7);rw[A0b A7,A0i]at hr;obtain⟨q1,q2⟩:=RJ hr;have hM:=cL ⟨A::C::[.mbox ((seen++l.take i).map .str) ((so++(l.take i).map λ_=>(5:Int)).map (.int .i64))]::[t0,.mp 2]::B,fams⟩ 2 _ _ l[i] 5 rfl q1;have e1:(seen++l.take i++[l[i]])=seen++l.take (i+1):=by rw[A0Z A7,A0c]
  have e2:(so++(l.take i).map λ_=>(5:Int)).map (AV.int .i64)++[.int .i64 5]=(so++(l.take (i+1)).map λ_=>(5:Int)).map (AV.int .i64):=by
   rw[A0Z A7];simp only[A0d,A0i,A0g,A0c]
  rw[e1,e2]at hM;rw[e1]at q2;simp only[A0n,A0o]at hM;generalize (seen++l.take i).map AV.str=U at *
  generalize (so++(l.take i).map λ_=>(5:Int)).map (AV.int .i64)=V at *
  generalize hU:(seen++l.take (i+1)).map AV.str=U' at *
  generalize hV:(so++(l.take (i+1)).map λ_=>(5:Int)).map (AV.int .i64)=V' at *
  simp[Fs,A6,k3,k40,k41,k42,A7,L3,hx,hM];exact G0 hJ ⟨i+1,by omega,by simp[A6],by rw[hU,hV],q2⟩
 .obtain⟨hB,hr⟩:=hr;rw[A0e (by omega)]at hr;rw[A0f (by omega)]at hB;simp[Fs,A6,k41,k42,A7];exact hΦ _ _ _ ⟨rfl,hB⟩
theorem rz (m:I6) (rs seen:List ByteArray) (so:List Int) (l:List Fre) (B8:l.length<=1048576) (hd:d8 rs seen (l.map λf=>(f.name,some f.role))=0) (A C:G6) (t0:AV) (fr:Fr) (h:AH) (hh:h.boxes=A::C::[.mbox (seen.map .str) (so.map (.int .i64))]::[t0,.mp 2]::[]) (hl:fr.length=51) (h3:A0 fr 3=.ptr 3 0) (h26:A0 fr 26=sl m 3 (l.map Lz)) (h27:A0 fr 27=.int .i64 l.length) (h28:A0 fr 28=.int .i64 0) :
  B6 (lp (A2 (K8 Q) (D6 BZ) Ft) (fr,h)) λe C3 h'=>Kp Ft.wr fr C3/\e=.exit 2/\∃B,h'.boxes=A::C::[.mbox ((seen++l.map Fre.name).map .str) ((so++l.map Fre.sort).map (.int .i64))]::[t0,.mp 2]::B:=by
 refine A9 rfl fr (λn fr h'=>∃(i:Nat),i+n=l.length/\A0 fr 28=.int .i64 (i:Nat)/\(∃B,h'.boxes=A::C::[.mbox ((seen++(l.map Fre.name).take i).map .str) ((so++(l.map Fre.sort).take i).map (.int .i64))]::[t0,.mp 2]::B)/\d8 rs (seen++(l.map Fre.name).take i) ((l.drop i).map λf=>(f.name,some f.role))=0) ?_ l.length h ⟨0,by omega,h28,⟨[],by rw[hh,A0m,A0m,A0h,A0h]⟩,by simpa using hd⟩;rintro J Φ hJ hΦ n D4 H1 K ⟨i,hi,k28,hr⟩;have A6:=K.1.trans hl;have k3:=A8 K 3 h3;have k26:=A8 K 26 h26;have k27:=A8 K 27 h27;clear K;by_cases A7:i<l.length
 .have L3:=C6 i (by omega);obtain⟨⟨B,hB⟩,hr⟩:=hr;obtain⟨bx,fams⟩:=H1;simp only at hB;subst hB;have hx:=G1 (f:=Lz) (A0a A7);rw[A0b A7,A0i]at hr;obtain⟨q1,-,q2⟩:=XP hr;have hM:=cL ⟨A::C::[.mbox ((seen++(l.map Fre.name).take i).map .str) ((so++(l.map Fre.sort).take i).map (.int .i64))]::[t0,.mp 2]::(B++[(Lz l[i]).cells]),fams⟩ 2 _ _ l[i].name l[i].sort rfl q1;have e1:(seen++(l.map Fre.name).take i++[l[i].name])=seen++(l.map Fre.name).take (i+1):=by rw[dN _ A7,A0c]
  have e2:(so++(l.map Fre.sort).take i).map (AV.int .i64)++[.int .i64 l[i].sort]=(so++(l.map Fre.sort).take (i+1)).map (AV.int .i64):=by
   rw[dN _ A7];simp only[A0d,A0i,A0g,A0c]
  rw[e1,e2]at hM;rw[e1]at q2;simp only[A0n,A0o,UO]at hM;generalize (seen++(l.map Fre.name).take i).map AV.str=U at *
  generalize (so++(l.map Fre.sort).take i).map (AV.int .i64)=V at *
  generalize hU:(seen++(l.map Fre.name).take (i+1)).map AV.str=U' at *
  generalize hV:(so++(l.map Fre.sort).take (i+1)).map (AV.int .i64)=V' at *
  simp[Ft,A6,k3,k26,k27,k28,A7,L3,hx,hM];exact G0 hJ ⟨i+1,by omega,by simp[A6],⟨_,by rw[hU,hV]⟩,q2⟩
 .obtain⟨⟨B,hB⟩,hr⟩:=hr;rw[A0e (by omega)]at hr;rw[A0f (by simp;omega),A0f (by simp;omega)]at hB;simp[Ft,A6,k27,k28,A7];exact hΦ _ _ _ ⟨rfl,B,hB⟩
theorem ml {n:Nar} (hd:IM n=0):d8 n.roles [] (n.roles.map λa=>(a,none))=0/\d8 n.roles n.roles (n.fresh.map λf=>(f.name,some f.role))=0/\d8 n.roles (n.roles++n.fresh.map Fre.name) (n.tags.map λa=>(a,none))=0:=by
 have e1:(n.roles.map λa=>((a,none):ByteArray×Option ByteArray)).map (·.1)=n.roles:=by simp[A0p]
 have e2:(n.fresh.map λf=>((f.name,some f.role):ByteArray×Option ByteArray)).map (·.1)=n.fresh.map Fre.name:=by simp[A0p]
 unfold IM XT at hd;rw[RI,RI,A0d,e1,e2,A0k,A0k]at hd;by_cases d1:d8 n.roles [] (n.roles.map λa=>(a,none))=0
 .rw[if_neg (c:=d8 n.roles [] (n.roles.map λa=>(a,none))≠0) (by simp[d1])]at hd;by_cases d2:d8 n.roles n.roles (n.fresh.map λf=>(f.name,some f.role))=0
  .rw[if_neg (by simp[d2])]at hd;exact⟨d1,d2,hd⟩
  .rw[if_pos d2]at hd;exact absurd hd d2
 .simp[d1]at hd
theorem TO (n:Nar) (hS:n.roles.length+n.fresh.length+n.tags.length<=1048576) (hd:IM n=0):pc Q BZ [G4 n]=some (kO n.rm n):=by
 obtain⟨d1,d2,hd⟩:=ml hd;unfold kO B5 G2;obtain⟨name,rm,roles,fm,fresh,tm,tags,sm,steps,gm,goals⟩:=n;simp only at hd d1 d2 hS ⊢;generalize hU:(roles++fresh.map Fre.name++tags).map AV.str=U;generalize hV:((roles.map λ_=>(1:Int))++fresh.map Fre.sort++tags.map λ_=>(5:Int)).map (AV.int .i64)=V;refine H6 PI λfr hl h0=>?_;simp[PI,G4]at hl h0;simp[PI,hl,h0,C8,D8];refine B6.mono (sA rm roles [] [] roles (by omega) d1 [.str name,sl rm 1 (roles.map .str),sl fm 3 (fresh.map Lz),sl tm 1 (tags.map .str),sl sm 7 (steps.map EP),sl gm 5 (goals.map Ey)] [.vs true 0 [],.nilm] (sl rm 1 (roles.map .str)) [] _ _ ?_ ?_ ?_ ?_ ?_ ?_) ?_<;>first|(simp[hl];done)|skip
 rintro e D4 ⟨bx,fams⟩ ⟨K,rfl,hB⟩;simp only at hB;subst hB;have J3:D4.length=51:=K.1.trans (by simp[hl]);have Fe:A0 D4 1=.ptr 0 0:=A8 K 1 (by simp[hl]);have GX:A0 D4 2=.ptr 1 0:=A8 K 2 (by simp[hl]);have OP:A0 D4 3=.ptr 3 0:=A8 K 3 (by simp[hl]);clear K;simp[J3,Fe];refine B6.mono (rz fm roles roles (roles.map λ_=>1) fresh (by omega) d2 [.str name,sl rm 1 (roles.map .str),sl fm 3 (fresh.map Lz),sl tm 1 (tags.map .str),sl sm 7 (steps.map EP),sl gm 5 (goals.map Ey)] [.vs true 0 [],.nilm] (sl rm 1 (roles.map .str)) _ _ ?_ ?_ ?_ ?_ ?_ ?_) ?_<;>first|(simp[J3,OP];done)|skip
 rintro e Q6 ⟨bx,fams⟩ ⟨K,rfl,B,hB⟩;simp only at hB;subst hB;have T6:Q6.length=51:=K.1.trans (by simp[J3]);have k1fr2:A0 Q6 1=.ptr 0 0:=A8 K 1 (by simp[Fe]);have k2fr2:A0 Q6 2=.ptr 1 0:=A8 K 2 (by simp[GX]);have k3fr2:A0 Q6 3=.ptr 3 0:=A8 K 3 (by simp[OP]);clear K;simp[T6,k1fr2];refine B6.mono (ry tm roles (roles++fresh.map Fre.name) ((roles.map λ_=>1)++fresh.map Fre.sort) tags (by omega) hd [.str name,sl rm 1 (roles.map .str),sl fm 3 (fresh.map Lz),sl tm 1 (tags.map .str),sl sm 7 (steps.map EP),sl gm 5 (goals.map Ey)] [.vs true 0 [],.nilm] (sl rm 1 (roles.map .str)) B _ _ ?_ ?_ ?_ ?_ ?_ ?_) ?_<;>first|(simp[T6,k3fr2];done)|skip
 rintro e fr3 ⟨bx,fams⟩ ⟨K,rfl,hB⟩;simp only at hB;rw[hU,hV]at hB;subst hB;have hlfr3:fr3.length=51:=K.1.trans (by simp[T6]);have k1fr3:A0 fr3 1=.ptr 0 0:=A8 K 1 (by simp[k1fr2]);have k2fr3:A0 fr3 2=.ptr 1 0:=A8 K 2 (by simp[k2fr2]);have k3fr3:A0 fr3 3=.ptr 3 0:=A8 K 3 (by simp[k3fr2]);clear K;have hF:∀(A C T:List AV) (B:List (List AV)) (f:List Fam),Ev ⟨A::C::[.mbox U V]::T::B,f⟩ true (.mp 2)=some (.vm U V):=λ_ _ _ _ _=>vH _ 2 U V rfl;simp[hlfr3,k2fr3,k3fr3,hF]
end Go.Abs.Q
