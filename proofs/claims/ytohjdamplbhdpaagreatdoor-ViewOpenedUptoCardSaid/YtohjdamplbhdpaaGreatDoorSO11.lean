/- A part of the proof. -/
import Derived.Test.YtohjdamplbhdpaaGreatDoorSO10
set_option linter.all false
open List renaming take_succ_eq_append_getElem->A0Q,getElem?_eq_getElem->A0R,drop_eq_getElem_cons->A0S,append_assoc->A0T,map_append->A0U,drop_eq_nil_of_le->A0V,take_of_length_le->A0W,map_nil->A0X,append_nil->A0Y,map_cons->A0Z,nil_append->A0b,length_singleton->A0c,take_zero->A0d,set_cons_succ->A0e,set_cons_zero->A0f,getElem?_set_self->A0h,getElem?_set_ne->A0i,mem_of_mem_take->A0j,cons_append->A0m,length_take->A0n,any_cons->A0o
open Option renaming bind_some->A0a
open Function renaming comp_def->A0g
open Nat renaming mul_le_mul_left->A0k
open Bool renaming and_eq_true->A0l
namespace Go.Abs.Q
open Go.Proofs
attribute [local simp] E1 E5 fin J7 G4
def Od:List Ste->Nat
 | []=>0
 |s::l=>s.msg.size+Od l
def RK:List Gol->Nat
 | []=>0
 |g::l=>Tm.sizes g.data+RK l
theorem P8 (a:G7) (t:Tm):A4 (a++[t])=A4 a++[B9 t]:=by simp[D0]
theorem af (a b:G7):A4 (a++b)=A4 a++A4 b:=by simp[D0]
theorem ic (m:I7) (l:List Ste) (B8:l.length<=1099511627776) (J4:Od l<=1099511627776) (b0 b1 b2 b3 b5:AV)
  (fr:Fr) (h:AH) (hh:h.boxes=[[b0,b1,b2,b3,sl m 7 (l.map El),b5]]) (hl:fr.length=67) (h1:A0 fr 1=.ptr 0 0) (h3:A0 fr 3=.vs true 0 []) (h4:A0 fr 4=.int .i64 0) :
  B7 (lp (A2 (K8 Q) (D6 Ep) IQ) (fr,h)) λe C4 h'=>Kp IQ.wr fr C4/\h'.boxes=h.boxes/\e=.exit 0/\∃acc:List Tm,Dr 4 (A4 acc) (A0 C4 3) h'/\Tm.sizes acc<=Od l:=by
 refine B4 rfl fr (λn fr h'=>∃(i:Nat) (acc:List Tm),i+n=l.length/\A0 fr 4=.int .i64 (i:Nat)/\h'.boxes=h.boxes/\Dr 4 (A4 acc) (A0 fr 3) h'/\Tm.sizes acc+Od (l.drop i)<=Od l) ?_ l.length h ⟨0,[],by omega,h4,rfl,by rw[h3];exact Ct _ _,by simp[Tm.sizes]⟩;rintro J Φ hJ hΦ n D5 ⟨bx,fams⟩ K ⟨i,acc,hi,k4,hb,hg,hs⟩;rw[hh]at hb;simp only at hb;subst hb;have A6:=K.1.trans hl;have k1:=A8 K 1 h1;have hal:=Tm.length_le acc;by_cases A7:i<l.length
 .have hx:=G2 (f:=El) (A0R A7);have hw:=C6 i (by omega);rw[A0S A7]at hs;simp only[Od]at hs;generalize l[i]=f at *
  obtain⟨r,nm,t,ln⟩:=f;simp only at hs;obtain⟨v',h',ha,Z6,Qo⟩:=Af (c:=D6 Ep) (bytes:=56) (x:=B9 t) hg rfl (true,true) (by simp;omega) (by simp;omega);have hts:=t.size_pos;obtain⟨tk,tn,ts,tm,tl⟩:=t;have hg2:Dr 4 (A4 (acc++[.mk tk tn ts tm tl])) v' h':=by rw[P8];exact Z6
  simp only[El,B9,Mg,A0m,A0b]at hx ha;simp[IQ,A6,k1,k4,A7,hx,hw,A5,ha];exact E9 hJ ⟨i+1,acc++[.mk tk tn ts tm tl],by omega,by simp[A6],by rw[Qo,hh],by simp[A6];exact hg2,by rw[Tm.sizes_append];simp only[Tm.sizes];omega⟩
 .rw[A0V (by omega)]at hs;simp only[Od]at hs;simp[IQ,A6,k1,k4,A7];exact hΦ _ _ _ ⟨hh.symm,rfl,acc,by simp;exact hg,by omega⟩
theorem ib (m:I7) (l:List Gol) (B8:l.length<=1099511627776) (acc0:G7) (J4:Tm.sizes acc0+RK l<=1099511627776) (b0 b1 b2 b3 b4:AV)
  (fr:Fr) (h:AH) (hh:h.boxes=[[b0,b1,b2,b3,b4,sl m 5 (l.map En)]]) (hl:fr.length=67) (h1:A0 fr 1=.ptr 0 0) (h3:Dr 4 (A4 acc0) (A0 fr 3) h) (h5:A0 fr 5=.int .i64 0) :
  B7 (lp (A2 (K8 Q) (D6 Ep) IP) (fr,h)) λe C4 h'=>Kp IP.wr fr C4/\e=.exit 2/\∃acc:List Tm,Dr 4 (A4 acc) (A0 C4 3) h'/\Tm.sizes acc<=1099511627776:=by
 refine B4 rfl fr (λn fr h'=>∃(i:Nat) (acc:List Tm),i+n=l.length/\A0 fr 5=.int .i64 (i:Nat)/\h'.boxes=h.boxes/\Dr 4 (A4 acc) (A0 fr 3) h'/\Tm.sizes acc+RK (l.drop i)<=1099511627776) ?_ l.length h ⟨0,acc0,by omega,h5,rfl,h3,J4⟩;rintro J Φ hJ hΦ n D5 ⟨bx,fams⟩ K ⟨i,acc,hi,k5,hb,hg,hs⟩;rw[hh]at hb;simp only at hb;subst hb;have A6:=K.1.trans hl;have k1:=A8 K 1 h1;have hal:=Tm.length_le acc;by_cases A7:i<l.length
 .have hx:=G2 (f:=En) (A0R A7);have hw:=C6 i (by omega);rw[A0S A7]at hs;simp only[RK]at hs;generalize l[i]=g at *
  have Di:=Tm.length_le g.data;obtain⟨v',h',ha,Z6,Qo⟩:=Nu (c:=D6 Ep) (bytes:=56) (x:=sl g.dm 4 (A4 g.data)) (ys:=A4 g.data) hg rfl (M9 _ _ _ _) (by simp[H2,maxLen];omega);have hg2:Dr 4 (A4 (acc++g.data)) v' h':=by rw[af];exact Z6
  simp only[En]at hx;simp[IP,A6,k1,k5,A7,hx,hw,ha];exact E9 hJ ⟨i+1,acc++g.data,by omega,by simp[A6],by rw[Qo,hh],by simp[A6];exact hg2,by rw[Tm.sizes_append];omega⟩
 .rw[A0V (by omega)]at hs;simp only[RK]at hs;simp[IP,A6,k1,k5,A7];exact hΦ _ _ _ ⟨rfl,acc,by simp;exact hg,by omega⟩
theorem bb (m:I7) (l:List Ste) (B8:l.length<=1099511627776) (J4:Od l<=1099511627776) (b0 b1 b2 b3 b5:AV)
  (fr:Fr) (h:AH) (hh:h.boxes=[[b0,b1,b2,b3,sl m 7 (l.map El),b5]]) (hl:fr.length=54) (h1:A0 fr 1=.ptr 0 0) (h3:A0 fr 3=.vs true 0 []) (h4:A0 fr 4=.int .i64 0) :
  B7 (lp (A2 (K8 Q) (D6 BQ) Fd) (fr,h)) λe C4 h'=>Kp Fd.wr fr C4/\h'.boxes=h.boxes/\e=.exit 0/\∃acc:List Tm,Dr 4 (A4 acc) (A0 C4 3) h'/\Tm.sizes acc<=Od l:=by
 refine B4 rfl fr (λn fr h'=>∃(i:Nat) (acc:List Tm),i+n=l.length/\A0 fr 4=.int .i64 (i:Nat)/\h'.boxes=h.boxes/\Dr 4 (A4 acc) (A0 fr 3) h'/\Tm.sizes acc+Od (l.drop i)<=Od l) ?_ l.length h ⟨0,[],by omega,h4,rfl,by rw[h3];exact Ct _ _,by simp[Tm.sizes]⟩;rintro J Φ hJ hΦ n D5 ⟨bx,fams⟩ K ⟨i,acc,hi,k4,hb,hg,hs⟩;rw[hh]at hb;simp only at hb;subst hb;have A6:=K.1.trans hl;have k1:=A8 K 1 h1;have hal:=Tm.length_le acc;by_cases A7:i<l.length
 .have hx:=G2 (f:=El) (A0R A7);have hw:=C6 i (by omega);rw[A0S A7]at hs;simp only[Od]at hs;generalize l[i]=f at *
  obtain⟨r,nm,t,ln⟩:=f;simp only at hs;obtain⟨v',h',ha,Z6,Qo⟩:=Af (c:=D6 BQ) (bytes:=56) (x:=B9 t) hg rfl (true,true) (by simp;omega) (by simp;omega);have hts:=t.size_pos;obtain⟨tk,tn,ts,tm,tl⟩:=t;have hg2:Dr 4 (A4 (acc++[.mk tk tn ts tm tl])) v' h':=by rw[P8];exact Z6
  simp only[El,B9,Mg,A0m,A0b]at hx ha;simp[Fd,A6,k1,k4,A7,hx,hw,A5,ha];exact E9 hJ ⟨i+1,acc++[.mk tk tn ts tm tl],by omega,by simp[A6],by rw[Qo,hh],by simp[A6];exact hg2,by rw[Tm.sizes_append];simp only[Tm.sizes];omega⟩
 .rw[A0V (by omega)]at hs;simp only[Od]at hs;simp[Fd,A6,k1,k4,A7];exact hΦ _ _ _ ⟨hh.symm,rfl,acc,by simp;exact hg,by omega⟩
theorem ba (m:I7) (l:List Gol) (B8:l.length<=1099511627776) (acc0:G7) (J4:Tm.sizes acc0+RK l<=1099511627776) (b0 b1 b2 b3 b4:AV)
  (fr:Fr) (h:AH) (hh:h.boxes=[[b0,b1,b2,b3,b4,sl m 5 (l.map En)]]) (hl:fr.length=54) (h1:A0 fr 1=.ptr 0 0) (h3:Dr 4 (A4 acc0) (A0 fr 3) h) (h5:A0 fr 5=.int .i64 0) :
  B7 (lp (A2 (K8 Q) (D6 BQ) FZ) (fr,h)) λe C4 h'=>Kp FZ.wr fr C4/\e=.exit 2/\∃acc:List Tm,Dr 4 (A4 acc) (A0 C4 3) h'/\Tm.sizes acc<=1099511627776:=by
 refine B4 rfl fr (λn fr h'=>∃(i:Nat) (acc:List Tm),i+n=l.length/\A0 fr 5=.int .i64 (i:Nat)/\h'.boxes=h.boxes/\Dr 4 (A4 acc) (A0 fr 3) h'/\Tm.sizes acc+RK (l.drop i)<=1099511627776) ?_ l.length h ⟨0,acc0,by omega,h5,rfl,h3,J4⟩;rintro J Φ hJ hΦ n D5 ⟨bx,fams⟩ K ⟨i,acc,hi,k5,hb,hg,hs⟩;rw[hh]at hb;simp only at hb;subst hb;have A6:=K.1.trans hl;have k1:=A8 K 1 h1;have hal:=Tm.length_le acc;by_cases A7:i<l.length
 .have hx:=G2 (f:=En) (A0R A7);have hw:=C6 i (by omega);rw[A0S A7]at hs;simp only[RK]at hs;generalize l[i]=g at *
  have Di:=Tm.length_le g.data;obtain⟨v',h',ha,Z6,Qo⟩:=Nu (c:=D6 BQ) (bytes:=56) (x:=sl g.dm 4 (A4 g.data)) (ys:=A4 g.data) hg rfl (M9 _ _ _ _) (by simp[H2,maxLen];omega);have hg2:Dr 4 (A4 (acc++g.data)) v' h':=by rw[af];exact Z6
  simp only[En]at hx;simp[FZ,A6,k1,k5,A7,hx,hw,ha];exact E9 hJ ⟨i+1,acc++g.data,by omega,by simp[A6],by rw[Qo,hh],by simp[A6];exact hg2,by rw[Tm.sizes_append];omega⟩
 .rw[A0V (by omega)]at hs;simp only[RK]at hs;simp[FZ,A6,k1,k5,A7];exact hΦ _ _ _ ⟨rfl,acc,by simp;exact hg,by omega⟩
theorem kw (h:AH) {acc:G7} {v:AV} (hg:Dr 4 (A4 acc) v h) (hs:Tm.sizes acc<=1099511627776) (a b:Int) (hb:b<=9223372036854775807):∃u r,KH h true v=some u/\pc Q Ge [u,.int .i64 a,.int .i64 b]=some (.bool r):=by
 obtain⟨m,hm⟩:=SI hg;exact⟨_,_,hm,sH m acc a b hs hb⟩
theorem vZ (n:Nar) (F:Fine n) (hS:Od n.steps+RK n.goals<=1099511627776):∃b,pc Q Ep [G8 n]=some (.bool b):=by
 suffices h:∃r,pc Q Ep [G8 n]=some r/\∃b,r=.bool b by
  obtain⟨r,h1,b,rfl⟩:=h;exact⟨b,h1⟩
 have l1:=F.stepsL;have l2:=F.goalsL;clear F;obtain⟨name,rm,roles,fm,fresh,tm,tags,sm,steps,gm,goals⟩:=n;simp only at hS l1 l2;refine GU Er λΨ hΨ fr hl h0=>?_;simp[Er,G8]at hl h0;by_cases c1:(16:Int)<(roles.length:Int)
 .simp[Er,hl,h0,B6 c1];exact hΨ _ ⟨_,rfl⟩
 by_cases c2:(16:Int)<(fresh.length:Int)
 .simp[Er,hl,h0,A3 c1,B6 c2];exact hΨ _ ⟨_,rfl⟩
 by_cases c3:(16:Int)<(tags.length:Int)
 .simp[Er,hl,h0,A3 c1,A3 c2,B6 c3];exact hΨ _ ⟨_,rfl⟩
 by_cases c4:(16:Int)<(steps.length:Int)
 .simp[Er,hl,h0,A3 c1,A3 c2,A3 c3,B6 c4];exact hΨ _ ⟨_,rfl⟩
 by_cases c5:(16:Int)<(goals.length:Int)
 .simp[Er,hl,h0,A3 c1,A3 c2,A3 c3,A3 c4,B6 c5];exact hΨ _ ⟨_,rfl⟩
 simp[Er,hl,h0,A3 c1,A3 c2,A3 c3,A3 c4,A3 c5];refine B7.mono (ic sm steps l1 (by omega) _ _ _ _ _ _ _ rfl ?_ ?_ ?_ ?_) ?_<;>first|(simp[hl];done)|skip
 rintro e D5 ⟨bx,fams⟩ ⟨K,hb,rfl,acc,hg,hs⟩;simp only at hb;subst hb;have A6:D5.length=67:=K.1.trans (by simp[hl]);have k1:A0 D5 1=.ptr 0 0:=A8 K 1 (by simp[hl]);clear K;simp;refine B7.mono (ib gm goals l2 acc (by omega) _ _ _ _ _ _ _ rfl ?_ ?_ ?_ ?_) ?_<;>first|(simp[A6,k1];done)|skip
 .simp;exact hg
 rintro e R1 h2 ⟨K,rfl,acc,hg,hs⟩;have CK:R1.length=67:=K.1.trans (by simp[A6]);obtain⟨u,r,hu,hp⟩:=kw h2 hg hs 100 900 (by omega);simp[CK,hu,hp];exact hΨ _ ⟨_,rfl⟩
theorem sd (n:Nar) (F:Fine n) (hS:Od n.steps+RK n.goals<=1099511627776):∃b,pc Q BQ [G8 n]=some (.bool b):=by
 suffices h:∃r,pc Q BQ [G8 n]=some r/\∃b,r=.bool b by
  obtain⟨r,h1,b,rfl⟩:=h;exact⟨b,h1⟩
 obtain⟨bf,hF⟩:=vZ n F hS;have l1:=F.stepsL;have l2:=F.goalsL;clear F;obtain⟨name,rm,roles,fm,fresh,tm,tags,sm,steps,gm,goals⟩:=n;simp only at hS l1 l2;refine GU GA λΨ hΨ fr hl h0=>?_;simp[GA,G8]at hl h0 hF;cases bf with
 |false =>
  simp[GA,hl,h0,hF];exact hΨ _ ⟨_,rfl⟩
 |true =>
  by_cases c4:(5:Int)<(steps.length:Int)
  .simp[GA,hl,h0,hF,B6 c4];exact hΨ _ ⟨_,rfl⟩
  by_cases c5:(5:Int)<(goals.length:Int)
  .simp[GA,hl,h0,hF,A3 c4,B6 c5];exact hΨ _ ⟨_,rfl⟩
  simp[GA,hl,h0,hF,A3 c4,A3 c5];refine B7.mono (bb sm steps l1 (by omega) _ _ _ _ _ _ _ rfl ?_ ?_ ?_ ?_) ?_<;>first|(simp[hl];done)|skip
  rintro e D5 ⟨bx,fams⟩ ⟨K,hb,rfl,acc,hg,hs⟩;simp only at hb;subst hb;have A6:D5.length=54:=K.1.trans (by simp[hl]);have k1:A0 D5 1=.ptr 0 0:=A8 K 1 (by simp[hl]);clear K;simp;refine B7.mono (ba gm goals l2 acc (by omega) _ _ _ _ _ _ _ rfl ?_ ?_ ?_ ?_) ?_<;>first|(simp[A6,k1];done)|skip
  .simp;exact hg
  rintro e R1 h2 ⟨K,rfl,acc,hg,hs⟩;have CK:R1.length=54:=K.1.trans (by simp[A6]);obtain⟨u,r,hu,hp⟩:=kw h2 hg hs 25 60 (by omega);simp[CK,hu,hp];exact hΨ _ ⟨_,rfl⟩
@[simp] theorem frz1_vm (h:AH) (am:Bool) (ks vs:G3):Ej h am (.vm ks vs)=some (.vm ks vs):=_root_.id rfl
@[simp] theorem frz_vm (h:AH) (am:Bool) (ks vs:G3):KH h am (.vm ks vs)=some (.vm ks vs):=_root_.id rfl
@[simp] theorem tame1_vm (h:AH) (ks vs:G3):KO h (.vm ks vs)=true:=_root_.id rfl
@[simp] theorem isTup_vm (ks vs:G3):(AV.vm ks vs).isTup=false:=_root_.id rfl
@[simp] theorem A0F (ks vs:G3):(AV.vm ks vs).cells=[.vm ks vs]:=_root_.id rfl
@[simp] theorem isTup_mp (b:Nat):(AV.mp b).isTup=false:=_root_.id rfl
@[simp] theorem A0E (b:Nat):(AV.mp b).cells=[.mp b]:=_root_.id rfl
theorem ZV (a b:J2):XC true (.str a) (.str b)=some (V4 a b):=by
 have:(a == b)=V4 a b:=by
  rw[Bool.eq_iff_iff,IX];obtain⟨a⟩:=a;obtain⟨b⟩:=b;show (a == b)=true↔_;rw[beq_iff_eq,ByteArray.mk.injEq]
 simp[XC,this]
theorem TU (a:J2):∀(l:List ByteArray) (i:Nat),l.any (V4 a)=true->Mq true (.str a) (l.map AV.str) i=some (some (S6 (V4 a) i l).toNat)
 | [],i,h=>by cases h
 |b::l,i,h=>by
  simp only[A0Z,Mq,ZV,S6];cases hb:V4 a b with
  |true=>simp
  |false =>
   rw[A0o,hb,Bool.false_or]at h;simp only[TU a l (i+1) h];simp
theorem Pq (a:J2):∀(l:List ByteArray) (i:Nat),l.any (V4 a)=false->Mq true (.str a) (l.map AV.str) i=some none
 | [],i,_=>rfl
 |b::l,i,h=>by
  rw[A0o,Bool.or_eq_false_iff]at h;simp only[A0Z,Mq,ZV,h.1];exact Pq a l (i+1) h.2
theorem jC (m:I7) (l:List ByteArray) (x:J2) (B8:l.length<=1099511627776) (fr:Fr) (h:AH) (hl:fr.length=19)
  (h0:A0 fr 0=sl m 1 (l.map AV.str)) (h1:A0 fr 1=.str x) (h5:A0 fr 5=.int .i64 0) :
  B7 (lp (A2 (K8 Q) (D6 Q9) Ck) (fr,h)) λe C4 h'=>Kp Ck.wr fr C4/\(e=.exit 0/\idx (V4 x) l=-1\/e=.ret/\A0 C4 4=.int .i64 (idx (V4 x) l)):=by
 refine B4 rfl fr (λn fr h=>∃i,i+n=l.length/\A0 fr 5=.int .i64 (i:Nat)/\S6 (V4 x) i (l.drop i)=idx (V4 x) l) ?_ l.length h ⟨0,by omega,h5,rfl⟩;rintro J Φ hJ hΦ n D5 Cv K ⟨i,hi,k5,hr⟩;have A6:=K.1.trans hl;have k0:=A8 K 0 h0;have k1:=A8 K 1 h1;by_cases A7:i<l.length
 .have hx:=G2 (f:=AV.str) (A0R A7);have hw:=C6 i (by omega);rw[A0S A7]at hr;simp only[S6,V4,decide_eq_true_eq]at hr;generalize l[i]=a at *
  by_cases hc:x.toList=a.toList
  .rw[if_pos hc]at hr;simp[Ck,A6,k0,k1,k5,A7,hx,hc];exact hΦ _ _ _ (.inr ⟨rfl,by simp[A6];exact hr⟩)
  .have hc':¬a.toList=x.toList:=λe=>hc e.symm;rw[if_neg hc]at hr;simp[Ck,A6,k0,k1,k5,A7,hx,hw,hc'];exact E9 hJ ⟨i+1,by omega,by simp[A6],hr⟩
 .rw[A0V (by omega)]at hr;simp[Ck,A6,k0,k5,A7];exact hΦ _ _ _ (.inl ⟨rfl,hr.symm⟩)
theorem sX (m:I7) (l:List ByteArray) (x:J2) (B8:l.length<=1099511627776):pc Q Q9 [DJ m l,.str x]=some (.int .i64 (idx (V4 x) l)):=by
 refine O9 Oq λfr hl h0 h1=>?_;simp[Oq,DJ]at hl h0 h1;simp[Oq];refine(jC m l x B8 _ _ (by simp[hl]) (by simp[h0]) (by simp[h1]) (by simp[hl])).mono ?_;rintro e C4 h' ⟨K,⟨rfl,he⟩|⟨rfl,h4⟩⟩
 .have hl':C4.length=19:=K.1.trans (by simp[hl]);simp[hl',he]
 .simp[h4]
def B5 (n:Nar):List ByteArray:=n.roles++n.fresh.map Fre.name++n.tags
def G6 (n:Nar):List Int:=n.roles.map (λ_=>1)++n.fresh.map Fre.sort++n.tags.map (λ_=>5)
def Yg (a b:List AV) (v w:AV) (h:AH):Prop:=(a=[]/\v=.vs true 0 []/\b=[]/\w=.vs true 0 [])\/(a≠[]/\b≠[]/\∃j k,j≠k/\v=.sl j a.length 0 a.length/\h.fams[j]?=some ⟨a,1,false⟩/\w=.sl k b.length 0 b.length/\h.fams[k]?=some ⟨b,1,false⟩)
theorem ax {c:Ctx} {a b:G3} {v w x y:AV} {h:AH} (hg:Yg a b v w h) (hm:c.mutApp=false) (m m':I7) (p q:Nat) (hp:p<=16) (hq:q<=16) (ha:a.length<=1099511627776) (hb:b.length<=1099511627776) :
  ∃v' h1 w' h2,K1 c h 1 p v (sl m 1 [x])=some (v',h1)/\K1 c h1 1 q w (sl m' 1 [y])=some (w',h2)/\Yg (a++[x]) (b++[y]) v' w' h2/\h1.boxes=h.boxes/\h2.boxes=h.boxes:=by
 have r0:(1:Nat)*p<=H2/\1<=maxLen:=by simp only[H2,maxLen];omega
 have r1:(1:Nat)*q<=H2/\1<=maxLen:=by simp only[H2,maxLen];omega
 have ra:(a.length+1)*p<=H2/\a.length+1<=maxLen:=by
  simp only[H2,maxLen];have:=A0k (a.length+1) hp;omega
 have rb:(b.length+1)*q<=H2/\b.length+1<=maxLen:=by
  simp only[H2,maxLen];have:=A0k (b.length+1) hq;omega
 rcases hg with ⟨rfl,rfl,rfl,rfl⟩|⟨hna,hnb,j,k,hjk,rfl,hj,rfl,hk⟩
 .refine⟨.sl h.fams.length 1 0 1,⟨h.boxes,h.fams++[⟨[x],1,false⟩]⟩,.sl (h.fams.length+1) 1 0 1,⟨h.boxes,h.fams++[⟨[x],1,false⟩]++[⟨[y],1,false⟩]⟩,?_,?_,?_,rfl,rfl⟩
  .rw[Pj,M9,A0a,if_neg (by simp),A0c,if_pos r0,hm]
  .rw[Pj,M9,A0a,if_neg (by simp),A0c,if_pos r1,hm];simp
  .refine .inr ⟨by simp,by simp,h.fams.length,h.fams.length+1,by omega,by simp,by simp,by simp,by simp⟩
 .have hj':=H3 hj;have Dt:=H3 hk;refine⟨.sl j (a.length+1) 0 (a.length+1),⟨h.boxes,h.fams.set j ⟨a++[x],1,false⟩⟩,.sl k (b.length+1) 0 (b.length+1),⟨h.boxes,(h.fams.set j ⟨a++[x],1,false⟩).set k ⟨b++[y],1,false⟩⟩,?_,?_,?_,rfl,rfl⟩
  .rw[LV,M9,A0a,hj,A0a,A0c,if_pos ⟨rfl,rfl,by omega,ra⟩]
  .rw[LV,M9,A0a];simp only;rw[A0i hjk,hk,A0a,A0c,if_pos ⟨rfl,rfl,by omega,rb⟩]
  .refine .inr ⟨by simp,by simp,j,k,hjk,by simp,?_,by simp,?_⟩
   .simp only;rw[A0i (λe=>hjk e.symm),A0h hj']
   .simp only;rw[A0h (by simpa using Dt)]
theorem uO {a b:G3} {v w:AV} {h:AH} (hg:Yg a b v w h):∃m m',KH h true v=some (sl m 1 a)/\KH h true w=some (sl m' 1 b):=by
 rcases hg with ⟨rfl,rfl,rfl,rfl⟩|⟨hna,hnb,j,k,hjk,rfl,hj,rfl,hk⟩
 .exact⟨(true,false),(true,false),WV _ _,WV _ _⟩
 .refine⟨(false,true),(false,true),?_,?_⟩
  .rw[PK,CS,hj,A0a,if_pos ⟨rfl,by omega,rfl⟩];simp
  .rw[PK,CS,hk,A0a,if_pos ⟨rfl,by omega,rfl⟩];simp
theorem eV (m:I7) (l:List ByteArray) (B8:l.length<=1099511627776) (b0 b2 b3 b4 b5:AV) (fr:Fr) (h:AH) (hh:h.boxes=[[b0,sl m 1 (l.map AV.str),b2,b3,b4,b5]]) (hl:fr.length=72) (h1:A0 fr 1=.ptr 0 0)
  (h4:A0 fr 4=.vs true 0 []) (h5:A0 fr 5=.vs true 0 []) (h6:A0 fr 6=.int .i64 0) :
  B7 (lp (A2 (K8 Q) (D6 W8) Fh) (fr,h)) λe C4 h'=>Kp Fh.wr fr C4/\e=.exit 0/\h'.boxes=h.boxes/\Yg (l.map AV.str) ((l.map λ_=>(1:Int)).map (AV.int .i64)) (A0 C4 4) (A0 C4 5) h':=by
 refine B4 rfl fr (λn fr h'=>∃i,i+n=l.length/\A0 fr 6=.int .i64 (i:Nat)/\h'.boxes=h.boxes/\Yg ((l.take i).map AV.str) (((l.take i).map λ_=>(1:Int)).map (AV.int .i64)) (A0 fr 4) (A0 fr 5) h') ?_ l.length h ⟨0,by omega,h6,rfl,.inl ⟨rfl,h4,rfl,h5⟩⟩;rintro J Φ hJ hΦ n D5 ⟨bx,fams⟩ K ⟨i,hi,k6,hb,hg⟩;rw[hh]at hb;simp only at hb;subst hb;have A6:=K.1.trans hl;have k1:=A8 K 1 h1;by_cases A7:i<l.length
 .have hx:=G2 (f:=AV.str) (A0R A7);have hw:=C6 i (by omega);obtain⟨v',Cv,w',h2',ha1,ha2,Z6,hb1,hb2⟩:=ax (c:=D6 W8) (x:=.str l[i]) (y:=.int .i64 1) hg rfl (true,true) (true,true) 16 8 (by omega) (by omega) (by simp;omega) (by simp;omega);have hg2:Yg ((l.take (i+1)).map AV.str) (((l.take (i+1)).map λ_=>(1:Int)).map (AV.int .i64)) v' w' h2':=by
   rw[A0Q A7,A0U,A0U,A0U];exact Z6
  have tw:∀F:Fr,A0 F 4=v'->A0 F 5=w'->Yg ((l.take (i+1)).map AV.str) (((l.take (i+1)).map λ_=>(1:Int)).map (AV.int .i64)) (A0 F 4) (A0 F 5) h2':=λF e4 e5=>by rw[e4,e5];exact hg2
  generalize l[i]=a at *
  simp[Fh,A6,k1,k6,A7,hx,hw,A5,ha1,ha2];exact E9 hJ ⟨i+1,by omega,by simp[A6],by rw[hb2,hh],tw _ (by simp[A6]) (by simp[A6])⟩
 .have e:l.take i=l:=A0W (by omega);rw[e]at hg;have tw:∀F:Fr,A0 F 4=A0 D5 4->A0 F 5=A0 D5 5->Yg (l.map AV.str) ((l.map λ_=>(1:Int)).map (AV.int .i64)) (A0 F 4) (A0 F 5) _:=λF e4 e5=>by rw[e4,e5];exact hg
  simp[Fh,A6,k1,k6,A7];exact hΦ _ _ _ ⟨rfl,by rw[hh],tw _ (by simp) (by simp)⟩
theorem eU (m:I7) (l:List Fre) (B8:l.length<=1048576) (A B:G3) (hA:A.length<=1048576) (hB:B.length<=1048576) (b0 b1 b3 b4 b5:AV) (fr:Fr) (h:AH) (hh:h.boxes=[[b0,b1,sl m 3 (l.map Lp),b3,b4,b5]]) (hl:fr.length=72) (h1:A0 fr 1=.ptr 0 0)
  (h45:Yg A B (A0 fr 4) (A0 fr 5) h) (h7:A0 fr 7=.int .i64 0) :
  B7 (lp (A2 (K8 Q) (D6 W8) Fg) (fr,h)) λe C4 h'=>Kp Fg.wr fr C4/\e=.exit 2/\h'.boxes=h.boxes/\Yg (A++(l.map Fre.name).map AV.str) (B++(l.map Fre.sort).map (AV.int .i64)) (A0 C4 4) (A0 C4 5) h':=by
 refine B4 rfl fr (λn fr h'=>∃i,i+n=l.length/\A0 fr 7=.int .i64 (i:Nat)/\h'.boxes=h.boxes/\Yg (A++((l.take i).map Fre.name).map AV.str) (B++((l.take i).map Fre.sort).map (AV.int .i64)) (A0 fr 4) (A0 fr 5) h') ?_ l.length h ⟨0,by omega,h7,rfl,by rw[A0d,A0X,A0X,A0X,A0X,A0Y,A0Y];exact h45⟩;rintro J Φ hJ hΦ n D5 ⟨bx,fams⟩ K ⟨i,hi,k7,hb,hg⟩;rw[hh]at hb;simp only at hb;subst hb;have A6:=K.1.trans hl;have k1:=A8 K 1 h1;by_cases A7:i<l.length
 .have hx:=G2 (f:=Lp) (A0R A7);have hw:=C6 i (by omega);obtain⟨v',Cv,w',h2',ha1,ha2,Z6,hb1,hb2⟩:=ax (c:=D6 W8) (x:=.str l[i].name) (y:=.int .i64 l[i].sort) hg rfl (true,true) (true,true) 16 8 (by omega) (by omega) (by simp;omega) (by simp;omega);have hg2:Yg (A++((l.take (i+1)).map Fre.name).map AV.str) (B++((l.take (i+1)).map Fre.sort).map (AV.int .i64)) v' w' h2':=by
   rw[A0Q A7,A0U,A0U,A0U,A0U,←A0T,←A0T];exact Z6
  have tw:∀F:Fr,A0 F 4=v'->A0 F 5=w'->Yg (A++((l.take (i+1)).map Fre.name).map AV.str) (B++((l.take (i+1)).map Fre.sort).map (AV.int .i64)) (A0 F 4) (A0 F 5) h2':=λF e4 e5=>by rw[e4,e5];exact hg2
  generalize l[i]=a at *
  obtain⟨r,nm,so⟩:=a;simp only[Lp]at hx ha1 ha2;simp[Fg,A6,k1,k7,A7,hx,hw,OD,AV.flat,A5,ha1,ha2,hb1];exact E9 hJ ⟨i+1,by omega,by simp[A6],by rw[hb2,hh],tw _ (by simp[A6]) (by simp[A6])⟩
 .have e:l.take i=l:=A0W (by omega);rw[e]at hg;have tw:∀F:Fr,A0 F 4=A0 D5 4->A0 F 5=A0 D5 5->Yg (A++(l.map Fre.name).map AV.str) (B++(l.map Fre.sort).map (AV.int .i64)) (A0 F 4) (A0 F 5) _:=λF e4 e5=>by rw[e4,e5];exact hg
  simp[Fg,A6,k1,k7,A7];exact hΦ _ _ _ ⟨rfl,by rw[hh],tw _ (by simp) (by simp)⟩
theorem eT (m:I7) (l:List ByteArray) (B8:l.length<=1048576) (A B:G3) (hA:A.length<=2097152) (hB:B.length<=2097152) (b0 b1 b2 b4 b5:AV) (fr:Fr) (h:AH) (hh:h.boxes=[[b0,b1,b2,sl m 1 (l.map AV.str),b4,b5]]) (hl:fr.length=72) (h1:A0 fr 1=.ptr 0 0)
  (h45:Yg A B (A0 fr 4) (A0 fr 5) h) (h8:A0 fr 8=.int .i64 0) :
  B7 (lp (A2 (K8 Q) (D6 W8) Ff) (fr,h)) λe C4 h'=>Kp Ff.wr fr C4/\e=.exit 4/\h'.boxes=h.boxes/\Yg (A++l.map AV.str) (B++(l.map λ_=>(5:Int)).map (AV.int .i64)) (A0 C4 4) (A0 C4 5) h':=by
 refine B4 rfl fr (λn fr h'=>∃i,i+n=l.length/\A0 fr 8=.int .i64 (i:Nat)/\h'.boxes=h.boxes/\Yg (A++(l.take i).map AV.str) (B++((l.take i).map λ_=>(5:Int)).map (AV.int .i64)) (A0 fr 4) (A0 fr 5) h') ?_ l.length h ⟨0,by omega,h8,rfl,by rw[A0d,A0X,A0X,A0X,A0Y,A0Y];exact h45⟩;rintro J Φ hJ hΦ n D5 ⟨bx,fams⟩ K ⟨i,hi,k8,hb,hg⟩;rw[hh]at hb;simp only at hb;subst hb;have A6:=K.1.trans hl;have k1:=A8 K 1 h1;by_cases A7:i<l.length
 .have hx:=G2 (f:=AV.str) (A0R A7);have hw:=C6 i (by omega);obtain⟨v',Cv,w',h2',ha1,ha2,Z6,hb1,hb2⟩:=ax (c:=D6 W8) (x:=.str l[i]) (y:=.int .i64 5) hg rfl (true,true) (true,true) 16 8 (by omega) (by omega) (by simp;omega) (by simp;omega);have hg2:Yg (A++(l.take (i+1)).map AV.str) (B++((l.take (i+1)).map λ_=>(5:Int)).map (AV.int .i64)) v' w' h2':=by
   rw[A0Q A7,A0U,A0U,A0U,←A0T,←A0T];exact Z6
  have tw:∀F:Fr,A0 F 4=v'->A0 F 5=w'->Yg (A++(l.take (i+1)).map AV.str) (B++((l.take (i+1)).map λ_=>(5:Int)).map (AV.int .i64)) (A0 F 4) (A0 F 5) h2':=λF e4 e5=>by rw[e4,e5];exact hg2
  generalize l[i]=a at *
  simp[Ff,A6,k1,k8,A7,hx,hw,A5,ha1,ha2];exact E9 hJ ⟨i+1,by omega,by simp[A6],by rw[hb2,hh],tw _ (by simp[A6]) (by simp[A6])⟩
 .have e:l.take i=l:=A0W (by omega);rw[e]at hg;have tw:∀F:Fr,A0 F 4=A0 D5 4->A0 F 5=A0 D5 5->Yg (A++l.map AV.str) (B++(l.map λ_=>(5:Int)).map (AV.int .i64)) (A0 F 4) (A0 F 5) _:=λF e4 e5=>by rw[e4,e5];exact hg
  simp[Ff,A6,k1,k8,A7];exact hΦ _ _ _ ⟨rfl,by rw[hh],tw _ (by simp) (by simp)⟩
structure Short (n:Nar):Prop where
 roles:n.roles.length<=1048576
 fresh:n.fresh.length<=1048576
 tags:n.tags.length<=1048576
theorem Xn (n:Nar) (S:Short n):∃r,pc Q W8 [G8 n]=some r/\∃m m':Bool×Bool,r=.tup [DJ m (B5 n),sl m' 1 ((G6 n).map (AV.int .i64))]:=by
 have s1:=S.roles;have s2:=S.fresh;have s3:=S.tags;clear S;refine GU Oo λΨ hΨ fr hl h0=>?_;have en:(B5 n).map AV.str=n.roles.map AV.str++(n.fresh.map Fre.name).map AV.str++n.tags.map AV.str:=by simp only[B5,A0U]
 have es:(G6 n).map (AV.int .i64)=(n.roles.map λ_=>(1:Int)).map (AV.int .i64)++(n.fresh.map Fre.sort).map (AV.int .i64)++(n.tags.map λ_=>(5:Int)).map (AV.int .i64):=by simp only[G6,A0U]
 simp only[DJ,en,es]at hΨ;clear en es;obtain⟨name,rm,roles,fm,fresh,tm,tags,sm,steps,gm,goals⟩:=n;simp only at *
 simp[Oo,G8]at hl h0;simp[Oo,h0];refine B7.mono (eV rm roles (by omega) _ _ _ _ _ _ _ rfl ?_ ?_ ?_ ?_ ?_) ?_<;>first|(simp[hl];done)|skip
 rintro e D5 ⟨bx,fams⟩ ⟨K,rfl,hb,hg⟩;simp only at hb;subst hb;have A6:D5.length=72:=K.1.trans (by simp[hl]);have k1:A0 D5 1=.ptr 0 0:=A8 K 1 (by simp[hl]);clear K;have tw:∀F:Fr,A0 F 4=A0 D5 4->A0 F 5=A0 D5 5->Yg (roles.map AV.str) ((roles.map λ_=>(1:Int)).map (AV.int .i64)) (A0 F 4) (A0 F 5) _:=λF e4 e5=>by rw[e4,e5];exact hg
 clear hg;simp;refine B7.mono (eU fm fresh (by omega) (roles.map AV.str) ((roles.map λ_=>(1:Int)).map (AV.int .i64)) (by simp;omega) (by simp;omega) _ _ _ _ _ _ _ rfl ?_ ?_ (tw _ ?_ ?_) ?_) ?_<;>first|(simp[A6,k1];done)|skip
 rintro e R1 ⟨bx,fams2⟩ ⟨K,rfl,hb,hg⟩;simp only at hb;subst hb;have CK:R1.length=72:=K.1.trans (by simp[A6]);have k1':A0 R1 1=.ptr 0 0:=A8 K 1 (by simp[k1]);clear K tw;have tw:∀F:Fr,A0 F 4=A0 R1 4->A0 F 5=A0 R1 5->Yg (roles.map AV.str++(fresh.map Fre.name).map AV.str) ((roles.map λ_=>(1:Int)).map (AV.int .i64)++(fresh.map Fre.sort).map (AV.int .i64)) (A0 F 4) (A0 F 5) _:=λF e4 e5=>by rw[e4,e5];exact hg
 clear hg;simp;refine B7.mono (eT tm tags (by omega) (roles.map AV.str++(fresh.map Fre.name).map AV.str) ((roles.map λ_=>(1:Int)).map (AV.int .i64)++(fresh.map Fre.sort).map (AV.int .i64)) (by simp;omega) (by simp;omega) _ _ _ _ _ _ _ rfl ?_ ?_ (tw _ ?_ ?_) ?_) ?_<;>first|(simp[CK,k1'];done)|skip
 rintro e fr3 h3 ⟨K,rfl,hb,hg⟩;have hl3:fr3.length=72:=K.1.trans (by simp[CK]);obtain⟨m,m',e1,e2⟩:=uO hg;generalize hA:roles.map AV.str++(fresh.map Fre.name).map AV.str++tags.map AV.str=A at *
 generalize hB:(roles.map λ_=>(1:Int)).map (AV.int .i64)++(fresh.map Fre.sort).map (AV.int .i64)++(tags.map λ_=>(5:Int)).map (AV.int .i64)=B at *
 simp[hl3,e1,e2];exact hΨ _ ⟨m,m',rfl⟩
def kG (m:Bool×Bool) (n:Nar):AV:=.agg [sl m 1 (n.roles.map .str),.vm ((B5 n).map .str) ((G6 n).map (.int .i64))]
theorem bu (h:AH) (b:Nat) (ks:List ByteArray) (vs:G3) (k:J2) (x:Int) (hb:h.boxes[b]?=some [.mbox (ks.map .str) vs]) (hk:ks.any (V4 k)=false) :
  Yt true h (.mp b) (.str k) (.int .i64 x)=some (C5,{h with boxes:=h.boxes.set b [.mbox ((ks++[k]).map .str) (vs++[.int .i64 x])]}):=by
 simp only[Yt,hb,uy,Sw,Pq k ks 0 hk];simp
end Go.Abs.Q
namespace Go.Abs
section
variable {O:Orc} {c:Ctx} {d:Option Nat} {op:ROp} {N8:List RO} {fr:Fr} {h:AH} {Ψ:Ex->Fr->AH->Prop}
theorem O2 (b:Bool) {x y:RCode}:B7 (xK (.bool b) O c x y fr h) Ψ=((b=true->B7 (A2 O c x (fr,h)) Ψ)/\(b=false->B7 (A2 O c y (fr,h)) Ψ)):=by
 cases b<;>simp
theorem L3 (b:Bool):B7 (krg (uD (.bool b) true O c d op N8 fr h)) Ψ=((b=true->B7 (krg (uF (A9 O c op fr h) O c d N8 fr)) Ψ)/\(b=false->B7 (krg (L7 O c N8 (put fr d C5) h)) Ψ)):=by
 cases b<;>simp
end
def Tm.kind:Tm->Int | .mk k _ _ _ _=>k
def Tm.name:Tm->ByteArray | .mk _ n _ _ _=>n
def Tm.sort:Tm->Int | .mk _ _ s _ _=>s
def Tm.cm:Tm->Bool×Bool | .mk _ _ _ m _=>m
def Tm.kids:Tm->List Tm | .mk _ _ _ _ l=>l
@[simp] theorem I1 (t:Tm):(B9 t).cells=[.int .i64 t.kind,.str t.name,.int .i64 t.sort,sl t.cm 4 (A4 t.kids)]:=by cases t;rfl
@[simp] theorem Yb (t:Tm):AV.agg [.int .i64 t.kind,.str t.name,.int .i64 t.sort,sl t.cm 4 (A4 t.kids)]=B9 t:=by cases t;rfl
@[simp] theorem tm_isTup (t:Tm):(B9 t).isTup=false:=by cases t;rfl
@[simp] theorem tm_frz (h:AH) (am:Bool) (t:Tm):KH h am (B9 t)=some (B9 t):=by cases t;rfl
@[simp] theorem tm_tame (h:AH) (t:Tm):CM h (B9 t)=true:=by cases t;rfl
@[simp] theorem ze (h:AH) (t:Tm):DX h (B9 t)=some (B9 t):=by cases t;rfl
theorem Tm.kids_size (t:Tm):t.size=1+Tm.sizes t.kids:=by cases t;rfl
theorem tm_mk (k:Int) (n:J2) (s:Int) (m:I7) (l:G7):AV.agg [.int .i64 k,.str n,.int .i64 s,sl m 4 (A4 l)]=B9 (.mk k n s m l):=rfl
@[simp] theorem lenA_vs (h:AH) (f:Bool) (sz:Nat) (xs:G3):bZ h (.vs f sz xs)=some (.int .i64 xs.length,h):=rfl
@[simp] theorem zx (fr:Fr):L6 fr none=some none:=rfl
@[simp] theorem zw (fr:Fr) (k:IntKind) (i:Int):L6 fr (some (.c (.int k i)))=some (some i):=rfl
@[simp] theorem zy (fr:Fr) (n:Nat):L6 fr (some (.t n))=(match A0 fr n with | .int _ i=>some (some i)|_=>none):=rfl
namespace Q
@[simp] theorem go_cells (g:Gol):(En g).cells=[.int .i64 g.kind,.str g.role,.str g.wth,sl g.dm 4 (A4 g.data),.int .i64 g.line]:=rfl
@[simp] theorem go_agg (g:Gol):AV.agg [.int .i64 g.kind,.str g.role,.str g.wth,sl g.dm 4 (A4 g.data),.int .i64 g.line]=En g:=rfl
@[simp] theorem go_isTup (g:Gol):(En g).isTup=false:=rfl
@[simp] theorem go_frz (h:AH) (am:Bool) (g:Gol):KH h am (En g)=some (En g):=rfl
@[simp] theorem go_tame (h:AH) (g:Gol):CM h (En g)=true:=rfl
@[simp] theorem gW (s:Ste):(El s).cells=[.str s.frm,.str s.to,.int .i64 s.msg.kind,.str s.msg.name,.int .i64 s.msg.sort,sl s.msg.cm 4 (A4 s.msg.kids),.int .i64 s.line]:=by simp[El]
@[simp] theorem st_agg (s:Ste):AV.agg [.str s.frm,.str s.to,.int .i64 s.msg.kind,.str s.msg.name,.int .i64 s.msg.sort,sl s.msg.cm 4 (A4 s.msg.kids),.int .i64 s.line]=El s:=by simp[El]
@[simp] theorem st_isTup (s:Ste):(El s).isTup=false:=rfl
@[simp] theorem st_frz (h:AH) (am:Bool) (s:Ste):KH h am (El s)=some (El s):=by obtain⟨_,_,t,_⟩:=s;cases t;rfl
@[simp] theorem st_tame (h:AH) (s:Ste):CM h (El s)=true:=by obtain⟨_,_,t,_⟩:=s;cases t;rfl
@[simp] theorem UE (f:Fre):(Lp f).cells=[.str f.role,.str f.name,.int .i64 f.sort]:=rfl
@[simp] theorem fr_agg (f:Fre):AV.agg [.str f.role,.str f.name,.int .i64 f.sort]=Lp f:=rfl
@[simp] theorem fr_isTup (f:Fre):(Lp f).isTup=false:=rfl
@[simp] theorem fr_frz (h:AH) (am:Bool) (f:Fre):KH h am (Lp f)=some (Lp f):=rfl
@[simp] theorem fr_tame (h:AH) (f:Fre):CM h (Lp f)=true:=rfl
theorem E7 (n:Nar):(G8 n).cells=[.str n.name,sl n.rm 1 (n.roles.map .str),sl n.fm 3 (n.fresh.map Lp),sl n.tm 1 (n.tags.map .str),sl n.sm 7 (n.steps.map El),sl n.gm 5 (n.goals.map En)]:=rfl
@[simp] theorem na_agg (n:Nar):AV.agg [.str n.name,sl n.rm 1 (n.roles.map .str),sl n.fm 3 (n.fresh.map Lp),sl n.tm 1 (n.tags.map .str),sl n.sm 7 (n.steps.map El),sl n.gm 5 (n.goals.map En)]=G8 n:=rfl
@[simp] theorem na_isTup (n:Nar):(G8 n).isTup=false:=rfl
@[simp] theorem na_frz (h:AH) (am:Bool) (n:Nar):KH h am (G8 n)=some (G8 n):=rfl
@[simp] theorem na_tame (h:AH) (n:Nar):CM h (G8 n)=true:=rfl
end Q
end Go.Abs
namespace Go.Abs.Q
open Go.Proofs
def s8 (t:Tm) (nm:ByteArray) (n:Int):Bool:=decide (t.kind=3)&&decide (t.name=nm)&&decide ((t.kids.length:Int)=n)
def Bt (rs:List ByteArray) (t:Tm):Bool:=decide (t.kind=2)&&rs.any (V4 t.name)
def TW (f:Tm->Bool):List Tm->Bool
 |a::_=>f a
 |_=>false
def QL (f:Tm->Bool):List Tm->Bool
 |_::b::_=>f b
 |_=>false
def CJ (rs:List ByteArray) (t:Tm):Bool:=s8 t (bs [115,107]) 1&&TW (Bt rs) t.kids
def HT (rs:List ByteArray) (t:Tm):Bool:=s8 t (bs [112,107]) 1&&TW (CJ rs) t.kids
def uh:List Tm->Bool
 |a::b::_=>decide (a.name≠b.name)
 |_=>false
def VS (rs:List ByteArray) (t:Tm):Bool:=s8 t (bs [115,104,107]) 2&&TW (Bt rs) t.kids&&QL (Bt rs) t.kids&&uh t.kids
def Ix (rs:List ByteArray) (t:Tm):Int :=
 if s8 t (bs [112,97,105,114]) 2=true\/s8 t (bs [101,110,99]) 2=true then 2
 else if s8 t (bs [104,97,115,104]) 1=true then 1
 else if (s8 t (bs [97,101,110,99]) 2=true/\QL (HT rs) t.kids=true)\/(s8 t (bs [115,105,103,110]) 2=true/\QL (CJ rs) t.kids=true)then 1
 else if HT rs t=true\/VS rs t=true then 0 else -1
mutual
def x6 (ns rs:List ByteArray):Tm->Int
 | .mk k nm s m l=>if k≠3 then (if ns.any (V4 nm)=true then 0 else 13)else if Ix rs (.mk k nm s m l)<0 then 10 else YR ns rs (Ix rs (.mk k nm s m l)).toNat l
def YR (ns rs:List ByteArray):Nat->List Tm->Int
 |0,_=>0
 |_,[]=>0
 |n+1,t::l=>if x6 ns rs t≠0 then x6 ns rs t else YR ns rs n l
end
theorem WB (ns rs:List ByteArray):∀(l:G7) (n:Nat),YR ns rs n l=D3 (x6 ns rs) (l.take n)
 | [],0=>by simp[YR,D3]
 | [],n+1=>by simp[YR,D3]
 |t::l,0=>by simp[YR,D3]
 |t::l,n+1=>by simp[YR,D3,WB ns rs l n]
theorem Sf (ns rs:List ByteArray) (t:Tm):x6 ns rs t=if t.kind≠3 then (if ns.any (V4 t.name)=true then 0 else 13)else if Ix rs t<0 then 10 else D3 (x6 ns rs) (t.kids.take (Ix rs t).toNat):=by
 rw[←WB];cases t;rw[x6];rfl
def NN (rs:List ByteArray) (a b:ByteArray):Int:=if rs.any (V4 a)=true/\rs.any (V4 b)=true then (if a=b then 1 else 0)else 13
def Ik (ns rs:List ByteArray) (g:Gol):Int :=
 if rs.any (V4 g.role)=false then 13 else if No g=true/\NN rs g.role g.wth≠0 then NN rs g.role g.wth else D3 (x6 ns rs) g.data
def Gn (ns rs:List ByteArray) (s:Ste):Int:=if NN rs s.frm s.to≠0 then NN rs s.frm s.to else x6 ns rs s.msg
def S1 {α:Type} (g:α->Int) (ln:α->Int):List α->Int×Int
 | []=>(0,0)
 |a::l=>if g a≠0 then (ln a,g a)else S1 g ln l
def ND (seen:List ByteArray) (a:ByteArray) (f:Bool):Int:=if Qd a=true then 2 else if f=true/\(a=bs [101]\/a=bs [103])then 1 else if seen.any (V4 a)=true then 5 else 0
def zJ (rs:List ByteArray):Option ByteArray->Bool
 |some x=>rs.any (V4 x)
 |none=>true
def Z7 (rs:List ByteArray):List ByteArray->List (ByteArray×Option ByteArray)->Int
 |_,[]=>0
 |seen,(a,f)::r=>if ND seen a f.isSome≠0 then ND seen a f.isSome else if zJ rs f=false then 13 else Z7 rs (seen++[a]) r
theorem RC (rs:List ByteArray):∀(a b:List (ByteArray×Option ByteArray)) (seen:List ByteArray),Z7 rs seen (a++b)=if Z7 rs seen a≠0 then Z7 rs seen a else Z7 rs (seen++a.map (·.1)) b
 | [],b,seen=>by simp[Z7]
 |(x,f)::a,b,seen=>by
  have ih:=RC rs a b (seen++[x]);by_cases h1:ND seen x f.isSome=0
  .by_cases h2:zJ rs f=false
   .simp[Z7,h1,h2]
   .rw[Bool.not_eq_false]at h2;simp[Z7,h1,h2,ih]
  .simp[Z7,h1]
def XB (n:Nar):List (ByteArray×Option ByteArray):=n.roles.map (λa=>(a,none))++n.fresh.map (λf=>(f.name,some f.role))++n.tags.map (λa=>(a,none))
def Hx (n:Nar):Int:=Z7 n.roles [] (XB n)
def l8 (n:Nar):Int×Int :=
 if PQ n≠0 then (0,PQ n)else if Hx n≠0 then (0,Hx n)
 else if S1 (Gn (B5 n) n.roles) Ste.line n.steps≠(0,0)then S1 (Gn (B5 n) n.roles) Ste.line n.steps else S1 (Ik (B5 n) n.roles) Gol.line n.goals
end Go.Abs.Q
namespace Go.Abs.Q
open Go.Proofs
attribute [local simp] E1 E5 fin J7 G4 O2 L3 P2 P1
theorem Wq {t:Tm} {nm:J2} (h:s8 t nm 1=true):∃a,t.kids=[a]:=by
 simp only[s8,A0l,decide_eq_true_eq]at h;exact List.length_eq_one_iff.1 (by omega)
theorem Vt (t:Tm) (nm:J2) (n:Int):pc Q Dc [B9 t,.str nm,.int .i64 n]=some (.bool (s8 t nm n)):=by
 refine FX Tj λfr hl h0 h1 h2=>?_;simp[Tj]at hl h0 h1 h2;simp +contextual (maxSteps:=10000000) [Tj,hl,h0,h1,h2,s8]
theorem HQ (m:I7) (l:List ByteArray) (x:J2) (h:l.length<=1048576):pc Q I5 [sl m 1 (l.map AV.str),.str x]=some (.bool (l.any (V4 x))):=Rb m l x (by omega)
theorem cd (m:I7) (rs:List ByteArray) (ks vs:G3) (hr:rs.length<=1048576) (t:Tm):pc Q Bp [.agg [sl m 1 (rs.map .str),.vm ks vs],B9 t]=some (.bool (Bt rs t)):=by
 have hC:=HQ m rs t.name hr;refine O9 Is λfr hl h0 h1=>?_;simp[Is]at hl h0 h1;simp +contextual (maxSteps:=10000000) [Is,hl,h0,h1,Bt,hC]
theorem Xw (m:I7) (rs:List ByteArray) (ks vs:G3) (hr:rs.length<=1048576) (t:Tm):pc Q CF [.agg [sl m 1 (rs.map .str),.vm ks vs],B9 t]=some (.bool (CJ rs t)):=by
 have hI:=Vt t (bs [115,107]) 1;refine O9 CH λfr hl h0 h1=>?_;simp[CH]at hl h0 h1;cases ha:s8 t (bs [115,107]) 1 with
 |false =>
  rw[ha]at hI;simp[CH,hl,h0,h1,CJ,hI,ha]
 |true =>
  rw[ha]at hI;obtain⟨a,hk⟩:=Wq ha;have hx:KN (A4 t.kids) 0=some (B9 a):=by rw[hk];rfl
  have hf:TW (Bt rs) t.kids=Bt rs a:=by rw[hk];rfl
  have hR:=cd m rs ks vs hr a;simp[CH,hl,h0,h1,CJ,hI,ha,hR,hx,hf]
theorem aK (m:I7) (rs:List ByteArray) (ks vs:G3) (hr:rs.length<=1048576) (t:Tm):pc Q DD [.agg [sl m 1 (rs.map .str),.vm ks vs],B9 t]=some (.bool (HT rs t)):=by
 have hI:=Vt t (bs [112,107]) 1;refine O9 DU λfr hl h0 h1=>?_;simp[DU]at hl h0 h1;cases ha:s8 t (bs [112,107]) 1 with
 |false =>
  rw[ha]at hI;simp[DU,hl,h0,h1,HT,hI,ha]
 |true =>
  rw[ha]at hI;obtain⟨a,hk⟩:=Wq ha;have hx:KN (A4 t.kids) 0=some (B9 a):=by rw[hk];rfl
  have hf:TW (CJ rs) t.kids=CJ rs a:=by rw[hk];rfl
  have hR:=Xw m rs ks vs hr a;simp[DU,hl,h0,h1,HT,hI,ha,hR,hx,hf]
theorem sw (m:I7) (rs:List ByteArray) (ks vs:G3) (hr:rs.length<=1048576) (a b:J2):pc Q GP [.agg [sl m 1 (rs.map .str),.vm ks vs],.str a,.str b]=some (.int .i64 (NN rs a b)):=by
 have c1:=HQ m rs a hr;have c2:=HQ m rs b hr;refine FX KA λfr hl h0 h1 h2=>?_;simp[KA]at hl h0 h1 h2;have e:NN rs a b=if rs.any (V4 a)=true/\rs.any (V4 b)=true then (if a=b then 1 else 0)else 13:=rfl
 generalize NN rs a b=v at *
 generalize rs.any (V4 a)=x at *
 generalize rs.any (V4 b)=y at *
 cases x<;>cases y<;>simp +contextual [KA,hl,h0,h1,h2,c1,c2,e]
theorem KX {α:Type} (p:α->Bool):∀(l:List α) (i:Nat),S6 p i l<(i:Int)+l.length
 | [],i=>by simp[S6];omega
 |a::l,i=>by
  have:=KX p l (i+1);simp only[S6,List.length_cons];split<;>omega
theorem wL (ks:List ByteArray) (vs:List Int) (hkv:ks.length=vs.length) (h:AH) (a:J2) :
  ∃v,Gb true true (.int .i64 0) h (.vm (ks.map .str) (vs.map (.int .i64))) (.str a)=some (.tup [.int .i64 v,.bool (ks.any (V4 a))],h):=by
 cases hk:ks.any (V4 a)with
 |false=>exact⟨0,by simp[Gb,Sw,GL,Pq a ks 0 hk]⟩
 |true =>
  have hge:=(DY (V4 a) ks 0).2 hk;have A7:=KX (V4 a) ks 0;have hi:(S6 (V4 a) 0 ks).toNat<vs.length:=by omega
  refine⟨vs[(S6 (V4 a) 0 ks).toNat],?_⟩;simp[Gb,Sw,GL,TU a ks 0 hk,hi]
theorem nc (m:I7) (rs ns:List ByteArray) (vs:List Int) (m':I7) (l:G7) (B8:l.length<=1099511627776) (IH:∀t∈l,pc Q J5 [.agg [sl m 1 (rs.map .str),.vm (ns.map .str) (vs.map (.int .i64))],B9 t]=some (.int .i64 (x6 ns rs t))) (b1:G3) (fr:Fr) (h:AH) (hh:h.boxes=[[sl m 1 (rs.map .str),.vm (ns.map .str) (vs.map (.int .i64))],b1]) (hl:fr.length=98) (h2:A0 fr 2=.ptr 0 0) (h85:A0 fr 85=sl m' 4 (A4 l)) (h86:A0 fr 86=.int .i64 l.length) (h87:A0 fr 87=.int .i64 0) :
  B7 (lp (A2 (K8 Q) (D6 J5) T6) (fr,h)) λe C4 h'=>Kp T6.wr fr C4/\(e=.exit 1/\D3 (x6 ns rs) l=0\/e=.ret/\A0 C4 4=.int .i64 (D3 (x6 ns rs) l)):=by
 refine B4 rfl fr (λn fr h'=>∃(i:Nat),i+n=l.length/\A0 fr 87=.int .i64 (i:Nat)/\(∃B,h'.boxes=[sl m 1 (rs.map .str),.vm (ns.map .str) (vs.map (.int .i64))]::B)/\D3 (x6 ns rs) (l.drop i)=D3 (x6 ns rs) l) ?_ l.length h ⟨0,by omega,h87,⟨_,hh⟩,rfl⟩;rintro J Φ hJ hΦ n D5 H1 K ⟨i,hi,k87,hr⟩;have A6:=K.1.trans hl;have k2:=A8 K 2 h2;have k85:=A8 K 85 h85;have k86:=A8 K 86 h86;clear K;by_cases A7:i<l.length
 .have L4:=C6 i (by omega);obtain⟨⟨B,hB⟩,hr⟩:=hr;obtain⟨bx,fams⟩:=H1;simp only at hB;subst hB;have hx:=H9 A7;have hI:=IH l[i] (List.getElem_mem A7);rw[A0S A7]at hr;simp only[D3]at hr;generalize l[i]=t at *
  generalize x6 ns rs t=v at *
  by_cases hz:v=0
  .rw[if_neg (by simp[hz])]at hr;simp[T6,A6,k2,k85,k86,k87,A7,L4,hx,hI,hz];exact E9 hJ ⟨i+1,by omega,by simp[A6],⟨_,rfl⟩,hr⟩
  .rw[if_pos hz]at hr;simp[T6,A6,k2,k85,k86,k87,A7,hx,hI,hz];exact hΦ _ _ _ (.inr ⟨rfl,by simp[A6,hr]⟩)
 .obtain⟨_,hr⟩:=hr;rw[A0V (by omega)]at hr;simp[T6,A6,k86,k87,A7];exact hΦ _ _ _ (.inl ⟨rfl,hr.symm⟩)
theorem JM {t:Tm} {nm:J2} {n:Int} (h:(t.kids.length:Int)≠n):s8 t nm n=false:=by simp[s8,h]
theorem eK {l:G7} (h:l.length=2):∃a b,l=[a,b]:=by
 match l,h with
 | [a,b],_=>exact⟨a,b,rfl⟩
theorem lW (m:I7) (rs ns:List ByteArray) (vs:List Int) (hr:rs.length<=1048576) (hkv:ns.length=vs.length):∀(n:Nat) (t:Tm),t.size<=n->t.size<=1099511627776 ->
  pc Q J5 [.agg [sl m 1 (rs.map .str),.vm (ns.map .str) (vs.map (.int .i64))],B9 t]=some (.int .i64 (x6 ns rs t)):=by
 intro n
 induction n with
 |zero=>intro t h;have:=t.size_pos;omega
 |succ n ih =>
  intro t hn hb;have J4:=t.kids_size;have B8:=Tm.length_le t.kids;have hkids:∀l:List Tm,(∀a∈l,a∈t.kids)->∀a∈l,pc Q J5 [.agg [sl m 1 (rs.map .str),.vm (ns.map .str) (vs.map (.int .i64))],B9 a]=some (.int .i64 (x6 ns rs a)) :=
   λl hs a ha=>ih a (by have:=Tm.size_le (hs a ha);omega) (by have:=Tm.size_le (hs a ha);omega)
  have GW:=λ(m':Bool×Bool) (l:List Tm) (hs:∀a∈l,a∈t.kids) (hl:l.length<=1099511627776)=>nc m rs ns vs m' l hl (hkids l hs);clear ih hkids;have hE:=Sf ns rs t;have p1:=Vt t (bs [112,97,105,114]) 2;have p2:=Vt t (bs [101,110,99]) 2;have p3:=Vt t (bs [104,97,115,104]) 1;have p4:=Vt t (bs [97,101,110,99]) 2;have p5:=Vt t (bs [115,105,103,110]) 2;have p6:=aK m rs (ns.map .str) (vs.map (.int .i64)) hr t;have p7:=Vt t (bs [115,104,107]) 2;generalize x6 ns rs t=v at *
  refine O9 G9 λfr hl h0 h1=>?_;simp[G9]at hl h0 h1;by_cases hk:t.kind=3
  .rw[if_neg (by simp[hk])]at hE;have key:∀(m':Bool×Bool) (l:List Tm) (D5:Fr) (h:AH),(∀a∈l,a∈t.kids)->l.length<=1099511627776->v=D3 (x6 ns rs) l->D5.length=98->A0 D5 2=.ptr 0 0->A0 D5 85=sl m' 4 (A4 l)->A0 D5 86=.int .i64 l.length->A0 D5 87=.int .i64 0->(∃b1,h.boxes=[[sl m 1 (rs.map .str),.vm (ns.map .str) (vs.map (.int .i64))],b1]) ->
     B7 (lp (A2 (K8 Q) (D6 J5) T6) (D5,h)) (BL 1 (SQ (K8 Q) (D6 J5) (.seq (.region false [⟨some 4,.mov (.c (.int .i64 0)),none⟩]) .ret) (kM [.tmp 4] (.int .i64 v)))):=by
    rintro m' l D5 h hs hll rfl hl q2 q85 q86 q87 ⟨b1,hb⟩;refine B7.mono (GW m' l hs hll b1 D5 h hb hl q2 q85 q86 q87) ?_;rintro e R1 h2 ⟨K,⟨rfl,hz⟩|⟨rfl,k4⟩⟩
    .have CK:=K.1.trans hl;simp[CK,hz]
    .simp[k4]
   by_cases h2:t.kids.length=2
   .obtain⟨x,y,hxy⟩:=eK h2;have n0:KN (A4 t.kids) 0=some (B9 x):=by rw[hxy];rfl
    have n1:KN (A4 t.kids) 1=some (B9 y):=by rw[hxy];rfl
    have s1:=gR ⟨[[sl m 1 (rs.map .str),.vm (ns.map .str) (vs.map (.int .i64))],[.int .i64 t.kind,.str t.name,.int .i64 t.sort,sl t.cm 4 (A4 t.kids)]],[]⟩ t.cm 4 (by omega) (A4 t.kids) 1 (by simp[h2]);rw[show ((1:Nat):Int)=1 from rfl]at s1;have c1:=aK m rs (ns.map .str) (vs.map (.int .i64)) hr y;have c2:=Xw m rs (ns.map .str) (vs.map (.int .i64)) hr y;have c3:=cd m rs (ns.map .str) (vs.map (.int .i64)) hr x;have c4:=cd m rs (ns.map .str) (vs.map (.int .i64)) hr y;have f1:QL (HT rs) t.kids=HT rs y:=by rw[hxy];rfl
    have f2:QL (CJ rs) t.kids=CJ rs y:=by rw[hxy];rfl
    have f3:TW (Bt rs) t.kids=Bt rs x:=by rw[hxy];rfl
    have f4:QL (Bt rs) t.kids=Bt rs y:=by rw[hxy];rfl
    have f5:uh t.kids=decide (x.name≠y.name):=by rw[hxy];rfl
    have b3:s8 t (bs [104,97,115,104]) 1=false:=JM (by omega);have b6:HT rs t=false:=by simp[HT,JM (show (t.kids.length:Int)≠1 by omega)]
    simp only[Ix,VS,b3,b6,f1,f2,f3,f4,f5]at hE p3 p6;clear f1 f2 f3 f4 f5 b3 b6 GW;have ex1:∀{a b:ByteArray},a≠b->s8 t a 2=true->s8 t b 2=false:=λHH ha=>by
     simp only[s8,A0l,decide_eq_true_eq]at ha;simp[s8,ha.1.2,HH]
    have x45:=ex1 (a:=bs [97,101,110,99]) (b:=bs [115,105,103,110]) (by decide);have x47:=ex1 (a:=bs [97,101,110,99]) (b:=bs [115,104,107]) (by decide);have x57:=ex1 (a:=bs [115,105,103,110]) (b:=bs [115,104,107]) (by decide);clear ex1;generalize s8 t (bs [112,97,105,114]) 2=b1 at *
    generalize s8 t (bs [101,110,99]) 2=b2 at *
    generalize s8 t (bs [97,101,110,99]) 2=b4 at *
    generalize s8 t (bs [115,105,103,110]) 2=b5 at *
    generalize s8 t (bs [115,104,107]) 2=b7 at *
    generalize HT rs y=e1 at *
    generalize CJ rs y=e2 at *
    generalize Bt rs x=e3 at *
    generalize Bt rs y=e4 at *
    have t2:t.kids.take 2=t.kids:=A0W (by omega);cases b1 with
    |true =>
     simp[t2]at hE;simp[G9,hl,h0,h1,B6 hk,p1];exact key t.cm t.kids _ _ (λ_ h=>h) (by omega) hE (by simp[hl]) (by simp[hl]) (by simp[hl]) (by simp[hl]) (by simp[hl]) ⟨_,rfl⟩
    |false =>
     cases b2 with
     |true =>
      simp[t2]at hE;simp[G9,hl,h0,h1,B6 hk,p1,p2];exact key t.cm t.kids _ _ (λ_ h=>h) (by omega) hE (by simp[hl]) (by simp[hl]) (by simp[hl]) (by simp[hl]) (by simp[hl]) ⟨_,rfl⟩
     |false =>
      cases b4 with
      |true =>
       obtain rfl:=x45 rfl;obtain rfl:=x47 rfl;cases e1 with
       |true =>
        simp at hE;simp[G9,hl,h0,h1,B6 hk,p1,p2,p3,p4,n1,c1,s1];exact key _ _ _ _ (λq h=>A0j h) (by rw[A0n];omega) hE (by simp[hl]) (by simp[hl]) (by simp[hl,D0];rfl) (by simp[hl]) (by simp[hl]) ⟨_,rfl⟩
       |false =>
        simp at hE;subst hE;simp[G9,hl,h0,h1,B6 hk,p1,p2,p3,p4,p5,p6,p7,n1,c1]
      |false =>
       cases b5 with
       |true =>
        obtain rfl:=x57 rfl;cases e2 with
        |true =>
         simp at hE;simp[G9,hl,h0,h1,B6 hk,p1,p2,p3,p4,p5,n1,c2,s1];exact key _ _ _ _ (λq h=>A0j h) (by rw[A0n];omega) hE (by simp[hl]) (by simp[hl]) (by simp[hl,D0];rfl) (by simp[hl]) (by simp[hl]) ⟨_,rfl⟩
        |false =>
         simp at hE;subst hE;simp[G9,hl,h0,h1,B6 hk,p1,p2,p3,p4,p5,p6,p7,n1,c2]
       |false =>
        cases b7 with
        |false =>
         simp at hE;subst hE;simp[G9,hl,h0,h1,B6 hk,p1,p2,p3,p4,p5,p6,p7]
        |true =>
         cases e3 with
         |false =>
          simp at hE;subst hE;simp[G9,hl,h0,h1,B6 hk,p1,p2,p3,p4,p5,p6,p7,n0,c3]
         |true =>
          cases e4 with
          |false =>
           simp at hE;subst hE;simp[G9,hl,h0,h1,B6 hk,p1,p2,p3,p4,p5,p6,p7,n0,n1,c3,c4]
          |true =>
           by_cases hxn:x.name=y.name
           .simp[hxn]at hE;subst hE;simp[G9,hl,h0,h1,B6 hk,p1,p2,p3,p4,p5,p6,p7,n0,n1,c3,c4,B6 hxn]
           .simp[hxn,D3]at hE;subst hE;simp[G9,hl,h0,h1,B6 hk,p1,p2,p3,p4,p5,p6,p7,n0,n1,c3,c4,A3 hxn];exact key (true,false) [] _ _ (λq h=>nomatch h) (by simp) rfl (by simp[hl]) (by simp[hl]) (by simp[hl];exact Il 4) (by simp[hl]) (by simp[hl]) ⟨_,rfl⟩
   .have b1:s8 t (bs [112,97,105,114]) 2=false:=JM (by omega);have b2:s8 t (bs [101,110,99]) 2=false:=JM (by omega);have b4:s8 t (bs [97,101,110,99]) 2=false:=JM (by omega);have b5:s8 t (bs [115,105,103,110]) 2=false:=JM (by omega);have b7:s8 t (bs [115,104,107]) 2=false:=JM (by omega);simp only[Ix,VS,b1,b2,b4,b5,b7]at hE p1 p2 p4 p5 p7;clear b1 b2 b4 b5 b7 GW;have t1:s8 t (bs [104,97,115,104]) 1=true->t.kids.take 1=t.kids:=λh=>by
     obtain⟨a,ha⟩:=Wq h;rw[ha];rfl
    generalize s8 t (bs [104,97,115,104]) 1=b3 at *
    generalize HT rs t=b6 at *
    cases b3 with
    |true =>
     simp[t1 rfl]at hE;simp[G9,hl,h0,h1,B6 hk,p1,p2,p3];exact key t.cm t.kids _ _ (λ_ h=>h) (by omega) hE (by simp[hl]) (by simp[hl]) (by simp[hl]) (by simp[hl]) (by simp[hl]) ⟨_,rfl⟩
    |false =>
     cases b6 with
     |true =>
      simp[D3]at hE;subst hE;simp[G9,hl,h0,h1,B6 hk,p1,p2,p3,p4,p5,p6];exact key (true,false) [] _ _ (λq h=>nomatch h) (by simp) rfl (by simp[hl]) (by simp[hl]) (by simp[hl];exact Il 4) (by simp[hl]) (by simp[hl]) ⟨_,rfl⟩
     |false =>
      simp at hE;subst hE;simp[G9,hl,h0,h1,B6 hk,p1,p2,p3,p4,p5,p6,p7]
  .rw[if_pos hk]at hE;obtain⟨z,hz⟩:=wL ns vs hkv ⟨[[sl m 1 (rs.map .str),.vm (ns.map .str) (vs.map (.int .i64))],[.int .i64 t.kind,.str t.name,.int .i64 t.sort,sl t.cm 4 (A4 t.kids)]],[]⟩ t.name;simp +contextual (maxSteps:=10000000) [G9,hl,h0,h1,hk,hz,hE]
theorem PH (rs seen:List ByteArray) (a:J2) (r:List (ByteArray×Option ByteArray)):Z7 rs seen ((a,none)::r)=if ND seen a false≠0 then ND seen a false else Z7 rs (seen++[a]) r:=by
 rw[Z7];simp[zJ]
theorem VA (rs seen:List ByteArray) (a x:J2) (r:List (ByteArray×Option ByteArray)):Z7 rs seen ((a,some x)::r)=if ND seen a true≠0 then ND seen a true else if rs.any (V4 x)=false then 13 else Z7 rs (seen++[a]) r:=by
 rw[Z7];rfl
theorem L5 {sz:Nat} {acc:G3} {v:AV} {h:AH} (hg:Dr sz acc v h):v.isTup=false/\v.cells=[v]/\Es [v]=false:=by
 rcases hg with ⟨_,rfl⟩|⟨_,k,rfl,_⟩<;>exact⟨rfl,rfl,rfl⟩
theorem ck (h:AH) (seen:List ByteArray) (v:AV) (hb:h.boxes[1]?=some [v]) (hg:Dr 1 (seen.map .str) v h) (B8:seen.length<=1048576) (a:J2) (f:Bool) :
  ∃w h',rc Q M3 [.str a,.bool f,.ptr 1 0] h=some (w,h')/\w=.int .i64 (ND seen a f)/\(ND seen a f=0->∃v',h'.boxes=h.boxes.set 1 [v']/\Dr 1 ((seen++[a]).map .str) v' h'):=by
 have hH:pc Q Bq [.str a,.str (bs [35])]=some (.bool (Qd a)):=yI a 35;obtain⟨m,hm⟩:=SI hg;have hC:=HQ m seen a B8;obtain⟨v',h',ha,Z6,Qo⟩:=Af (c:=D6 M3) (bytes:=16) (x:=.str a) hg rfl (true,true) (by simp;omega) (by simp;omega);have hg2:Dr 1 ((seen++[a]).map AV.str) v' h':=by rw[A0U];exact Z6
 have hv:=(L5 hg).2.2;obtain⟨c1,c2,c3⟩:=L5 Z6;have A7:1<h.boxes.length:=H3 hb;have hE:ND seen a f=if Qd a=true then 2 else if f=true/\(a=bs [101]\/a=bs [103])then 1 else if seen.any (V4 a)=true then 5 else 0:=rfl
 generalize ND seen a f=z at *
 generalize seen.any (V4 a)=s at *
 generalize Qd a=x at *
 refine ch Q3 λfr hl h0 h1 h2=>?_;simp[Q3]at hl h0 h1 h2;cases x with
 |true =>
  simp at hE;simp[Q3,hl,h0,hH,hE]
 |false =>
  cases f with
  |true =>
   by_cases he:a=bs [101]
   .subst he;simp at hE;simp[Q3,hl,h0,h1,hH,hE]
   .by_cases hg:a=bs [103]
    .subst hg;simp at hE;simp[Q3,hl,h0,h1,hH,hE,A3 he]
    .simp[he,hg]at hE;cases s with
     |true =>
      simp at hE;simp[Q3,hl,h0,h1,h2,hH,hE,A3 he,A3 hg,hb,hv,hm,hC]
     |false =>
      simp at hE;subst hE;simp[Q3,hl,h0,h1,h2,hH,A3 he,A3 hg,hb,hv,hm,hC,A5,ha,Qo,c1,c2];exact⟨v',rfl,Bg Z6 rfl⟩
  |false =>
   cases s with
   |true =>
    simp at hE;simp[Q3,hl,h0,h1,h2,hH,hE,hb,hv,hm,hC]
   |false =>
    simp at hE;subst hE;simp[Q3,hl,h0,h1,h2,hH,hb,hv,hm,hC,A5,ha,Qo,c1,c2];exact⟨v',rfl,Bg Z6 rfl⟩
theorem nN (m:I7) (rs seen:List ByteArray) (l:List ByteArray) (B8:seen.length+l.length<=1048576) (A:G3) (fr:Fr) (h:AH) (hh:∃v B,h.boxes=A::[v]::B/\Dr 1 (seen.map .str) v h) (hl:fr.length=64) (h4:A0 fr 4=.fn M3 [.ptr 1 0]) (h16:A0 fr 16=sl m 1 (l.map .str)) (h17:A0 fr 17=.int .i64 l.length) (h18:A0 fr 18=.int .i64 0) :
  B7 (lp (A2 (K8 Q) (D6 U4) y9) (fr,h)) λe C4 h'=>Kp y9.wr fr C4/\(e=.exit 0/\Z7 rs seen (l.map λa=>(a,none))=0/\(∃v B,h'.boxes=A::[v]::B/\Dr 1 ((seen++l).map .str) v h')\/e=.ret/\A0 C4 2=.int .i64 (Z7 rs seen (l.map λa=>(a,none)))/\Z7 rs seen (l.map λa=>(a,none))≠0):=by
 refine B4 rfl fr (λn fr h'=>∃(i:Nat),i+n=l.length/\A0 fr 18=.int .i64 (i:Nat)/\(∃v B,h'.boxes=A::[v]::B/\Dr 1 ((seen++l.take i).map .str) v h')/\Z7 rs (seen++l.take i) ((l.drop i).map λa=>(a,none))=Z7 rs seen (l.map λa=>(a,none))) ?_ l.length h ⟨0,by omega,h18,by simpa using hh,by simp⟩;rintro J Φ hJ hΦ n D5 H1 K ⟨i,hi,k18,hr⟩;have A6:=K.1.trans hl;have k4:=A8 K 4 h4;have k16:=A8 K 16 h16;have k17:=A8 K 17 h17;clear K;by_cases A7:i<l.length
 .have L4:=C6 i (by omega);obtain⟨⟨v,B,hB,hg⟩,hr⟩:=hr;have hx:=G2 (f:=AV.str) (A0R A7);obtain⟨w,h',hN,hw2,hz⟩:=ck H1 _ v (by rw[hB];rfl) hg (by simp;omega) l[i] false;subst hw2;rw[A0S A7,A0Z]at hr;rw[PH]at hr;by_cases XL:ND (seen++l.take i) l[i] false=0
  .obtain⟨v',hb',Z6⟩:=hz XL;rw[if_neg (by simp[XL])]at hr;simp[y9,A6,k4,k16,k17,k18,A7,L4,hx,hN,XL];exact E9 hJ ⟨i+1,by omega,by simp[A6],⟨v',B,by rw[hb',hB];rfl,by rw[A0Q A7,←A0T];exact Z6⟩,by rw[A0Q A7,←A0T];exact hr⟩
  .rw[if_pos XL]at hr;simp[y9,A6,k4,k16,k17,k18,A7,hx,hN,XL];exact hΦ _ _ _ (.inr ⟨rfl,by simp[A6,hr],by rw[←hr];exact XL⟩)
 .obtain⟨hh',hr⟩:=hr;rw[A0V (by omega)]at hr;rw[A0W (by omega)]at hr hh';simp only[A0X,Z7]at hr;simp[y9,A6,k17,k18,A7];exact hΦ _ _ _ (.inl ⟨rfl,hr.symm,hh'⟩)
theorem nL (m:I7) (rs seen:List ByteArray) (l:List ByteArray) (B8:seen.length+l.length<=1048576) (A:G3) (fr:Fr) (h:AH) (hh:∃v B,h.boxes=A::[v]::B/\Dr 1 (seen.map .str) v h) (hl:fr.length=64) (h4:A0 fr 4=.fn M3 [.ptr 1 0]) (h51:A0 fr 51=sl m 1 (l.map .str)) (h52:A0 fr 52=.int .i64 l.length) (h53:A0 fr 53=.int .i64 0) :
  B7 (lp (A2 (K8 Q) (D6 U4) y8) (fr,h)) λe C4 h'=>Kp y8.wr fr C4/\(e=.exit 4/\Z7 rs seen (l.map λa=>(a,none))=0/\(∃v B,h'.boxes=A::[v]::B/\Dr 1 ((seen++l).map .str) v h')\/e=.ret/\A0 C4 2=.int .i64 (Z7 rs seen (l.map λa=>(a,none)))/\Z7 rs seen (l.map λa=>(a,none))≠0):=by
 refine B4 rfl fr (λn fr h'=>∃(i:Nat),i+n=l.length/\A0 fr 53=.int .i64 (i:Nat)/\(∃v B,h'.boxes=A::[v]::B/\Dr 1 ((seen++l.take i).map .str) v h')/\Z7 rs (seen++l.take i) ((l.drop i).map λa=>(a,none))=Z7 rs seen (l.map λa=>(a,none))) ?_ l.length h ⟨0,by omega,h53,by simpa using hh,by simp⟩;rintro J Φ hJ hΦ n D5 H1 K ⟨i,hi,k53,hr⟩;have A6:=K.1.trans hl;have k4:=A8 K 4 h4;have k51:=A8 K 51 h51;have k52:=A8 K 52 h52;clear K;by_cases A7:i<l.length
 .have L4:=C6 i (by omega);obtain⟨⟨v,B,hB,hg⟩,hr⟩:=hr;have hx:=G2 (f:=AV.str) (A0R A7);obtain⟨w,h',hN,hw2,hz⟩:=ck H1 _ v (by rw[hB];rfl) hg (by simp;omega) l[i] false;subst hw2;rw[A0S A7,A0Z]at hr;rw[PH]at hr;by_cases XL:ND (seen++l.take i) l[i] false=0
  .obtain⟨v',hb',Z6⟩:=hz XL;rw[if_neg (by simp[XL])]at hr;simp[y8,A6,k4,k51,k52,k53,A7,L4,hx,hN,XL];exact E9 hJ ⟨i+1,by omega,by simp[A6],⟨v',B,by rw[hb',hB];rfl,by rw[A0Q A7,←A0T];exact Z6⟩,by rw[A0Q A7,←A0T];exact hr⟩
  .rw[if_pos XL]at hr;simp[y8,A6,k4,k51,k52,k53,A7,hx,hN,XL];exact hΦ _ _ _ (.inr ⟨rfl,by simp[A6,hr],by rw[←hr];exact XL⟩)
 .obtain⟨hh',hr⟩:=hr;rw[A0V (by omega)]at hr;rw[A0W (by omega)]at hr hh';simp only[A0X,Z7]at hr;simp[y8,A6,k52,k53,A7];exact hΦ _ _ _ (.inl ⟨rfl,hr.symm,hh'⟩)
theorem cz {α β:Type} (f:α->β) {l:List α} {i:Nat} (h:i<l.length):(l.map f).take (i+1)=(l.map f).take i++[f l[i]]:=by
 rw[A0Q (by simpa using h)];simp
theorem nM (m m0:I7) (rs seen:List ByteArray) (hrs:rs.length<=1048576) (l:List Fre) (B8:seen.length+l.length<=1048576) (a0 a2 a3 a4 a5:AV) (fr:Fr) (h:AH) (hh:∃v B,h.boxes=[a0,sl m0 1 (rs.map .str),a2,a3,a4,a5]::[v]::B/\Dr 1 (seen.map .str) v h) (hl:fr.length=64) (h1:A0 fr 1=.ptr 0 0) (h4:A0 fr 4=.fn M3 [.ptr 1 0]) (h30:A0 fr 30=sl m 3 (l.map Lp)) (h31:A0 fr 31=.int .i64 l.length) (h32:A0 fr 32=.int .i64 0) :
  B7 (lp (A2 (K8 Q) (D6 U4) V7) (fr,h)) λe C4 h'=>Kp V7.wr fr C4/\(e=.exit 2/\Z7 rs seen (l.map λf=>(f.name,some f.role))=0/\(∃v B,h'.boxes=[a0,sl m0 1 (rs.map .str),a2,a3,a4,a5]::[v]::B/\Dr 1 ((seen++l.map Fre.name).map .str) v h')\/e=.ret/\A0 C4 2=.int .i64 (Z7 rs seen (l.map λf=>(f.name,some f.role)))/\Z7 rs seen (l.map λf=>(f.name,some f.role))≠0):=by
 refine B4 rfl fr (λn fr h'=>∃(i:Nat),i+n=l.length/\A0 fr 32=.int .i64 (i:Nat)/\(∃v B,h'.boxes=[a0,sl m0 1 (rs.map .str),a2,a3,a4,a5]::[v]::B/\Dr 1 ((seen++(l.map Fre.name).take i).map .str) v h')/\Z7 rs (seen++(l.map Fre.name).take i) ((l.drop i).map λf=>(f.name,some f.role))=Z7 rs seen (l.map λf=>(f.name,some f.role))) ?_ l.length h ⟨0,by omega,h32,by simpa using hh,by simp⟩;rintro J Φ hJ hΦ n D5 H1 K ⟨i,hi,k32,hr⟩;have A6:=K.1.trans hl;have k1:=A8 K 1 h1;have k4:=A8 K 4 h4;have k30:=A8 K 30 h30;have k31:=A8 K 31 h31;clear K;by_cases A7:i<l.length
 .have L4:=C6 i (by omega);obtain⟨⟨v,B,hB,hg⟩,hr⟩:=hr;have hx:=G2 (f:=Lp) (A0R A7);have hC:=HQ m0 rs l[i].role hrs;obtain⟨bx,fams⟩:=H1;simp only at hB;subst hB;obtain⟨w,h',hN,hw2,hz⟩:=ck ⟨[a0,sl m0 1 (rs.map .str),a2,a3,a4,a5]::[v]::(B++[(Lp l[i]).cells]),fams⟩ _ v rfl (Bg hg rfl) (by simp;omega) l[i].name true;subst hw2;rw[A0S A7,A0Z]at hr;rw[VA]at hr;by_cases XL:ND (seen++(l.map Fre.name).take i) l[i].name true=0
  .obtain⟨v',hb',Z6⟩:=hz XL;rw[if_neg (by simp[XL])]at hr;simp only[A0e,A0f]at hb';simp only[UE]at hN hb';cases hq:rs.any (V4 l[i].role)with
   |true =>
    rw[hq]at hC hr;rw[if_neg (by simp)]at hr;simp[V7,A6,k1,k4,k30,k31,k32,A7,L4,hx,hN,XL,hb',hC];exact E9 hJ ⟨i+1,by omega,by simp[A6],⟨v',_,hb',by rw[cz _ A7,←A0T];exact Bg Z6 rfl⟩,by rw[cz _ A7,←A0T];exact hr⟩
   |false =>
    rw[hq]at hC hr;rw[if_pos rfl]at hr;simp[V7,A6,k1,k4,k30,k31,k32,A7,hx,hN,XL,hb',hC];exact hΦ _ _ _ (.inr ⟨rfl,by rw[←hr];simp[A6],by rw[←hr];omega⟩)
  .rw[if_pos XL]at hr;simp only[UE]at hN;simp[V7,A6,k4,k30,k31,k32,A7,hx,hN,XL];exact hΦ _ _ _ (.inr ⟨rfl,by simp[A6,hr],by rw[←hr];exact XL⟩)
 .obtain⟨hh',hr⟩:=hr;rw[A0V (by omega)]at hr;rw[A0W (by simp;omega)]at hr hh';simp only[A0X,Z7]at hr;simp[V7,A6,k31,k32,A7];exact hΦ _ _ _ (.inl ⟨rfl,hr.symm,hh'⟩)
theorem fS (n:Nar) (hS:n.roles.length+n.fresh.length+n.tags.length<=1048576):pc Q U4 [G8 n]=some (.int .i64 (Hx n)):=by
 have hE:Hx n=if Z7 n.roles [] (n.roles.map λa=>(a,none))≠0 then Z7 n.roles [] (n.roles.map λa=>(a,none))
   else if Z7 n.roles n.roles (n.fresh.map λf=>(f.name,some f.role))≠0 then Z7 n.roles n.roles (n.fresh.map λf=>(f.name,some f.role))
   else Z7 n.roles (n.roles++n.fresh.map Fre.name) (n.tags.map λa=>(a,none)):=by
  unfold Hx XB;rw[RC,RC];have e1:(n.roles.map λa=>((a,none):ByteArray×Option ByteArray)).map (·.1)=n.roles:=by simp[A0g]
  have e2:(n.fresh.map λf=>((f.name,some f.role):ByteArray×Option ByteArray)).map (·.1)=n.fresh.map Fre.name:=by simp[A0g]
  rw[A0U,e1,e2,A0b];split<;>simp_all
 generalize Hx n=z at *
 obtain⟨name,rm,roles,fm,fresh,tm,tags,sm,steps,gm,goals⟩:=n;simp only at hE hS;refine H5 Kx λfr hl h0=>?_;simp[Kx,G8]at hl h0;simp[Kx,hl,h0];refine B7.mono (nN rm roles [] roles (by simp;omega) [.str name,sl rm 1 (roles.map .str),sl fm 3 (fresh.map Lp),sl tm 1 (tags.map .str),sl sm 7 (steps.map El),sl gm 5 (goals.map En)] _ _ ?_ ?_ ?_ ?_ ?_ ?_) ?_<;>first|(simp[hl];done)|skip
 .exact⟨_,_,rfl,Ct _ _⟩
 rintro e D5 h1 ⟨K,⟨rfl,hz,hh⟩|⟨rfl,k2,hz⟩⟩
 .have J0:D5.length=64:=K.1.trans (by simp[hl]);have FS:A0 D5 1=.ptr 0 0:=A8 K 1 (by simp[hl]);have Mt:A0 D5 4=.fn M3 [.ptr 1 0]:=A8 K 4 (by simp[hl]);clear K;rw[if_neg (by simp[hz])]at hE;rw[A0b]at hh;have hh0:=hh;obtain⟨v,B,hB,hg⟩:=hh;simp[J0,FS,hB];refine B7.mono (nM fm rm roles roles (by omega) fresh (by omega) _ _ _ _ _ _ h1 hh0 ?_ ?_ ?_ ?_ ?_ ?_) ?_<;>first|(simp[J0,FS,Mt];done)|skip
  rintro e R1 h2 ⟨K,⟨rfl,hz,hh⟩|⟨rfl,k2,hz⟩⟩
  .have S7:R1.length=64:=K.1.trans (by simp[J0]);have k1fr2:A0 R1 1=.ptr 0 0:=A8 K 1 (by simp[FS]);have k4fr2:A0 R1 4=.fn M3 [.ptr 1 0]:=A8 K 4 (by simp[Mt]);clear K;rw[if_neg (by simp[hz])]at hE;have hh0:=hh;obtain⟨v,B,hB,hg⟩:=hh;simp[S7,k1fr2,hB];refine B7.mono (nL tm roles (roles++fresh.map Fre.name) tags (by simp;omega) _ _ h2 hh0 ?_ ?_ ?_ ?_ ?_) ?_<;>first|(simp[S7,k4fr2];done)|skip
   rintro e fr3 h3 ⟨K,⟨rfl,hz,hh⟩|⟨rfl,k2,hz⟩⟩
   .have hlfr3:fr3.length=64:=K.1.trans (by simp[S7]);clear K;rw[hz]at hE;simp[hlfr3,hE]
   .simp[k2,hE]
  .rw[if_pos hz]at hE;simp[k2,hE]
 .rw[if_pos hz]at hE;simp[k2,hE]
end Go.Abs.Q
namespace Go.Abs.Q
open Go.Proofs
attribute [local simp] E1 E5 fin J7 G4
theorem ux (h:AH) (b:Nat) (ks vs:G3) (hb:h.boxes[b]?=some [.mbox ks vs]):Ej h true (.mp b)=some (.vm ks vs):=by simp[Ej,hb]
@[simp] theorem zB (ks vs:G3):Es [.mbox ks vs]=true:=rfl
theorem RD {rs seen:List ByteArray} {a:J2} {r:List (ByteArray×Option ByteArray)} (h:Z7 rs seen ((a,none)::r)=0):seen.any (V4 a)=false/\Z7 rs (seen++[a]) r=0:=by
 rw[PH]at h;by_cases hz:ND seen a false=0
 .rw[if_neg (by simp[hz])]at h;refine⟨?_,h⟩;unfold ND at hz;cases hs:seen.any (V4 a)with
  |false=>rfl
  |true =>
   rw[hs]at hz;split at hz<;>simp at hz
 .rw[if_pos hz]at h;exact absurd h hz
theorem Wx {rs seen:List ByteArray} {a x:J2} {r:List (ByteArray×Option ByteArray)} (h:Z7 rs seen ((a,some x)::r)=0):seen.any (V4 a)=false/\rs.any (V4 x)=true/\Z7 rs (seen++[a]) r=0:=by
 rw[VA]at h;by_cases hz:ND seen a true=0
 .rw[if_neg (by simp[hz])]at h;have h2:seen.any (V4 a)=false:=by
   unfold ND at hz;cases hs:seen.any (V4 a)with
   |false=>rfl
   |true =>
    rw[hs]at hz;split at hz
    .simp at hz
    .split at hz<;>simp at hz
  cases hx:rs.any (V4 x)with
  |false=>rw[hx,if_pos rfl]at h;omega
  |true=>rw[hx,if_neg (by simp)]at h;exact⟨h2,rfl,h⟩
 .rw[if_pos hz]at h;exact absurd h hz
theorem rh (m:I7) (rs seen:List ByteArray) (so:List Int) (l:List ByteArray) (B8:l.length<=1048576) (hd:Z7 rs seen (l.map λa=>(a,none))=0) (A C:G3) (t0:AV) (B:List (List AV)) (fr:Fr) (h:AH) (hh:h.boxes=A::C::[.mbox (seen.map .str) (so.map (.int .i64))]::[t0,.mp 2]::B) (hl:fr.length=51) (h3:A0 fr 3=.ptr 3 0) (h15:A0 fr 15=sl m 1 (l.map .str)) (h16:A0 fr 16=.int .i64 l.length) (h17:A0 fr 17=.int .i64 0) :
  B7 (lp (A2 (K8 Q) (D6 BT) Fk) (fr,h)) λe C4 h'=>Kp Fk.wr fr C4/\e=.exit 0/\h'.boxes=A::C::[.mbox ((seen++l).map .str) ((so++l.map λ_=>(1:Int)).map (.int .i64))]::[t0,.mp 2]::B:=by
 refine B4 rfl fr (λn fr h'=>∃(i:Nat),i+n=l.length/\A0 fr 17=.int .i64 (i:Nat)/\h'.boxes=A::C::[.mbox ((seen++l.take i).map .str) ((so++(l.take i).map λ_=>(1:Int)).map (.int .i64))]::[t0,.mp 2]::B/\Z7 rs (seen++l.take i) ((l.drop i).map λa=>(a,none))=0) ?_ l.length h ⟨0,by omega,h17,by rw[hh,A0d,A0X,A0Y,A0Y],by simpa using hd⟩;rintro J Φ hJ hΦ n D5 H1 K ⟨i,hi,k17,hr⟩;have A6:=K.1.trans hl;have k3:=A8 K 3 h3;have k15:=A8 K 15 h15;have k16:=A8 K 16 h16;clear K;by_cases A7:i<l.length
 .have L4:=C6 i (by omega);obtain⟨hB,hr⟩:=hr;obtain⟨bx,fams⟩:=H1;simp only at hB;subst hB;have hx:=G2 (f:=AV.str) (A0R A7);rw[A0S A7,A0Z]at hr;obtain⟨q1,q2⟩:=RD hr;have hM:=bu ⟨A::C::[.mbox ((seen++l.take i).map .str) ((so++(l.take i).map λ_=>(1:Int)).map (.int .i64))]::[t0,.mp 2]::B,fams⟩ 2 _ _ l[i] 1 rfl q1;have e1:(seen++l.take i++[l[i]])=seen++l.take (i+1):=by rw[A0Q A7,A0T]
  have e2:(so++(l.take i).map λ_=>(1:Int)).map (AV.int .i64)++[.int .i64 1]=(so++(l.take (i+1)).map λ_=>(1:Int)).map (AV.int .i64):=by
   rw[A0Q A7];simp only[A0U,A0Z,A0X,A0T]
  rw[e1,e2]at hM;rw[e1]at q2;simp only[A0e,A0f]at hM;generalize (seen++l.take i).map AV.str=U at *
  generalize (so++(l.take i).map λ_=>(1:Int)).map (AV.int .i64)=V at *
  generalize hU:(seen++l.take (i+1)).map AV.str=U' at *
  generalize hV:(so++(l.take (i+1)).map λ_=>(1:Int)).map (AV.int .i64)=V' at *
  simp[Fk,A6,k3,k15,k16,k17,A7,L4,hx,hM];exact E9 hJ ⟨i+1,by omega,by simp[A6],by rw[hU,hV],q2⟩
 .obtain⟨hB,hr⟩:=hr;rw[A0V (by omega)]at hr;rw[A0W (by omega)]at hB;simp[Fk,A6,k16,k17,A7];exact hΦ _ _ _ ⟨rfl,hB⟩
theorem re (m:I7) (rs seen:List ByteArray) (so:List Int) (l:List ByteArray) (B8:l.length<=1048576) (hd:Z7 rs seen (l.map λa=>(a,none))=0) (A C:G3) (t0:AV) (B:List (List AV)) (fr:Fr) (h:AH) (hh:h.boxes=A::C::[.mbox (seen.map .str) (so.map (.int .i64))]::[t0,.mp 2]::B) (hl:fr.length=51) (h3:A0 fr 3=.ptr 3 0) (h40:A0 fr 40=sl m 1 (l.map .str)) (h41:A0 fr 41=.int .i64 l.length) (h42:A0 fr 42=.int .i64 0) :
  B7 (lp (A2 (K8 Q) (D6 BT) Fi) (fr,h)) λe C4 h'=>Kp Fi.wr fr C4/\e=.exit 4/\h'.boxes=A::C::[.mbox ((seen++l).map .str) ((so++l.map λ_=>(5:Int)).map (.int .i64))]::[t0,.mp 2]::B:=by
 refine B4 rfl fr (λn fr h'=>∃(i:Nat),i+n=l.length/\A0 fr 42=.int .i64 (i:Nat)/\h'.boxes=A::C::[.mbox ((seen++l.take i).map .str) ((so++(l.take i).map λ_=>(5:Int)).map (.int .i64))]::[t0,.mp 2]::B/\Z7 rs (seen++l.take i) ((l.drop i).map λa=>(a,none))=0) ?_ l.length h ⟨0,by omega,h42,by rw[hh,A0d,A0X,A0Y,A0Y],by simpa using hd⟩;rintro J Φ hJ hΦ n D5 H1 K ⟨i,hi,k42,hr⟩;have A6:=K.1.trans hl;have k3:=A8 K 3 h3;have k40:=A8 K 40 h40;have k41:=A8 K 41 h41;clear K;by_cases A7:i<l.length
 .have L4:=C6 i (by omega);obtain⟨hB,hr⟩:=hr;obtain⟨bx,fams⟩:=H1;simp only at hB;subst hB;have hx:=G2 (f:=AV.str) (A0R A7);rw[A0S A7,A0Z]at hr;obtain⟨q1,q2⟩:=RD hr;have hM:=bu ⟨A::C::[.mbox ((seen++l.take i).map .str) ((so++(l.take i).map λ_=>(5:Int)).map (.int .i64))]::[t0,.mp 2]::B,fams⟩ 2 _ _ l[i] 5 rfl q1;have e1:(seen++l.take i++[l[i]])=seen++l.take (i+1):=by rw[A0Q A7,A0T]
  have e2:(so++(l.take i).map λ_=>(5:Int)).map (AV.int .i64)++[.int .i64 5]=(so++(l.take (i+1)).map λ_=>(5:Int)).map (AV.int .i64):=by
   rw[A0Q A7];simp only[A0U,A0Z,A0X,A0T]
  rw[e1,e2]at hM;rw[e1]at q2;simp only[A0e,A0f]at hM;generalize (seen++l.take i).map AV.str=U at *
  generalize (so++(l.take i).map λ_=>(5:Int)).map (AV.int .i64)=V at *
  generalize hU:(seen++l.take (i+1)).map AV.str=U' at *
  generalize hV:(so++(l.take (i+1)).map λ_=>(5:Int)).map (AV.int .i64)=V' at *
  simp[Fi,A6,k3,k40,k41,k42,A7,L4,hx,hM];exact E9 hJ ⟨i+1,by omega,by simp[A6],by rw[hU,hV],q2⟩
 .obtain⟨hB,hr⟩:=hr;rw[A0V (by omega)]at hr;rw[A0W (by omega)]at hB;simp[Fi,A6,k41,k42,A7];exact hΦ _ _ _ ⟨rfl,hB⟩
theorem rg (m:I7) (rs seen:List ByteArray) (so:List Int) (l:List Fre) (B8:l.length<=1048576) (hd:Z7 rs seen (l.map λf=>(f.name,some f.role))=0) (A C:G3) (t0:AV) (fr:Fr) (h:AH) (hh:h.boxes=A::C::[.mbox (seen.map .str) (so.map (.int .i64))]::[t0,.mp 2]::[]) (hl:fr.length=51) (h3:A0 fr 3=.ptr 3 0) (h26:A0 fr 26=sl m 3 (l.map Lp)) (h27:A0 fr 27=.int .i64 l.length) (h28:A0 fr 28=.int .i64 0) :
  B7 (lp (A2 (K8 Q) (D6 BT) Fj) (fr,h)) λe C4 h'=>Kp Fj.wr fr C4/\e=.exit 2/\∃B,h'.boxes=A::C::[.mbox ((seen++l.map Fre.name).map .str) ((so++l.map Fre.sort).map (.int .i64))]::[t0,.mp 2]::B:=by
 refine B4 rfl fr (λn fr h'=>∃(i:Nat),i+n=l.length/\A0 fr 28=.int .i64 (i:Nat)/\(∃B,h'.boxes=A::C::[.mbox ((seen++(l.map Fre.name).take i).map .str) ((so++(l.map Fre.sort).take i).map (.int .i64))]::[t0,.mp 2]::B)/\Z7 rs (seen++(l.map Fre.name).take i) ((l.drop i).map λf=>(f.name,some f.role))=0) ?_ l.length h ⟨0,by omega,h28,⟨[],by rw[hh,A0d,A0d,A0Y,A0Y]⟩,by simpa using hd⟩;rintro J Φ hJ hΦ n D5 H1 K ⟨i,hi,k28,hr⟩;have A6:=K.1.trans hl;have k3:=A8 K 3 h3;have k26:=A8 K 26 h26;have k27:=A8 K 27 h27;clear K;by_cases A7:i<l.length
 .have L4:=C6 i (by omega);obtain⟨⟨B,hB⟩,hr⟩:=hr;obtain⟨bx,fams⟩:=H1;simp only at hB;subst hB;have hx:=G2 (f:=Lp) (A0R A7);rw[A0S A7,A0Z]at hr;obtain⟨q1,-,q2⟩:=Wx hr;have hM:=bu ⟨A::C::[.mbox ((seen++(l.map Fre.name).take i).map .str) ((so++(l.map Fre.sort).take i).map (.int .i64))]::[t0,.mp 2]::(B++[(Lp l[i]).cells]),fams⟩ 2 _ _ l[i].name l[i].sort rfl q1;have e1:(seen++(l.map Fre.name).take i++[l[i].name])=seen++(l.map Fre.name).take (i+1):=by rw[cz _ A7,A0T]
  have e2:(so++(l.map Fre.sort).take i).map (AV.int .i64)++[.int .i64 l[i].sort]=(so++(l.map Fre.sort).take (i+1)).map (AV.int .i64):=by
   rw[cz _ A7];simp only[A0U,A0Z,A0X,A0T]
  rw[e1,e2]at hM;rw[e1]at q2;simp only[A0e,A0f,UE]at hM;generalize (seen++(l.map Fre.name).take i).map AV.str=U at *
  generalize (so++(l.map Fre.sort).take i).map (AV.int .i64)=V at *
  generalize hU:(seen++(l.map Fre.name).take (i+1)).map AV.str=U' at *
  generalize hV:(so++(l.map Fre.sort).take (i+1)).map (AV.int .i64)=V' at *
  simp[Fj,A6,k3,k26,k27,k28,A7,L4,hx,hM];exact E9 hJ ⟨i+1,by omega,by simp[A6],⟨_,by rw[hU,hV]⟩,q2⟩
 .obtain⟨⟨B,hB⟩,hr⟩:=hr;rw[A0V (by omega)]at hr;rw[A0W (by simp;omega),A0W (by simp;omega)]at hB;simp[Fj,A6,k27,k28,A7];exact hΦ _ _ _ ⟨rfl,B,hB⟩
theorem mZ {n:Nar} (hd:Hx n=0):Z7 n.roles [] (n.roles.map λa=>(a,none))=0/\Z7 n.roles n.roles (n.fresh.map λf=>(f.name,some f.role))=0/\Z7 n.roles (n.roles++n.fresh.map Fre.name) (n.tags.map λa=>(a,none))=0:=by
 have e1:(n.roles.map λa=>((a,none):ByteArray×Option ByteArray)).map (·.1)=n.roles:=by simp[A0g]
 have e2:(n.fresh.map λf=>((f.name,some f.role):ByteArray×Option ByteArray)).map (·.1)=n.fresh.map Fre.name:=by simp[A0g]
 unfold Hx XB at hd;rw[RC,RC,A0U,e1,e2,A0b,A0b]at hd;by_cases d1:Z7 n.roles [] (n.roles.map λa=>(a,none))=0
 .rw[if_neg (c:=Z7 n.roles [] (n.roles.map λa=>(a,none))≠0) (by simp[d1])]at hd;by_cases d2:Z7 n.roles n.roles (n.fresh.map λf=>(f.name,some f.role))=0
  .rw[if_neg (by simp[d2])]at hd;exact⟨d1,d2,hd⟩
  .rw[if_pos d2]at hd;exact absurd hd d2
 .simp[d1]at hd
theorem TE (n:Nar) (hS:n.roles.length+n.fresh.length+n.tags.length<=1048576) (hd:Hx n=0):pc Q BT [G8 n]=some (kG n.rm n):=by
 obtain⟨d1,d2,hd⟩:=mZ hd;unfold kG B5 G6;obtain⟨name,rm,roles,fm,fresh,tm,tags,sm,steps,gm,goals⟩:=n;simp only at hd d1 d2 hS ⊢;generalize hU:(roles++fresh.map Fre.name++tags).map AV.str=U;generalize hV:((roles.map λ_=>(1:Int))++fresh.map Fre.sort++tags.map λ_=>(5:Int)).map (AV.int .i64)=V;refine H5 Ov λfr hl h0=>?_;simp[Ov,G8]at hl h0;simp[Ov,hl,h0,D2,E6];refine B7.mono (rh rm roles [] [] roles (by omega) d1 [.str name,sl rm 1 (roles.map .str),sl fm 3 (fresh.map Lp),sl tm 1 (tags.map .str),sl sm 7 (steps.map El),sl gm 5 (goals.map En)] [.vs true 0 [],.nilm] (sl rm 1 (roles.map .str)) [] _ _ ?_ ?_ ?_ ?_ ?_ ?_) ?_<;>first|(simp[hl];done)|skip
 rintro e D5 ⟨bx,fams⟩ ⟨K,rfl,hB⟩;simp only at hB;subst hB;have J0:D5.length=51:=K.1.trans (by simp[hl]);have FS:A0 D5 1=.ptr 0 0:=A8 K 1 (by simp[hl]);have GK:A0 D5 2=.ptr 1 0:=A8 K 2 (by simp[hl]);have OE:A0 D5 3=.ptr 3 0:=A8 K 3 (by simp[hl]);clear K;simp[J0,FS];refine B7.mono (rg fm roles roles (roles.map λ_=>1) fresh (by omega) d2 [.str name,sl rm 1 (roles.map .str),sl fm 3 (fresh.map Lp),sl tm 1 (tags.map .str),sl sm 7 (steps.map El),sl gm 5 (goals.map En)] [.vs true 0 [],.nilm] (sl rm 1 (roles.map .str)) _ _ ?_ ?_ ?_ ?_ ?_ ?_) ?_<;>first|(simp[J0,OE];done)|skip
 rintro e R1 ⟨bx,fams⟩ ⟨K,rfl,B,hB⟩;simp only at hB;subst hB;have S7:R1.length=51:=K.1.trans (by simp[J0]);have k1fr2:A0 R1 1=.ptr 0 0:=A8 K 1 (by simp[FS]);have k2fr2:A0 R1 2=.ptr 1 0:=A8 K 2 (by simp[GK]);have k3fr2:A0 R1 3=.ptr 3 0:=A8 K 3 (by simp[OE]);clear K;simp[S7,k1fr2];refine B7.mono (re tm roles (roles++fresh.map Fre.name) ((roles.map λ_=>1)++fresh.map Fre.sort) tags (by omega) hd [.str name,sl rm 1 (roles.map .str),sl fm 3 (fresh.map Lp),sl tm 1 (tags.map .str),sl sm 7 (steps.map El),sl gm 5 (goals.map En)] [.vs true 0 [],.nilm] (sl rm 1 (roles.map .str)) B _ _ ?_ ?_ ?_ ?_ ?_ ?_) ?_<;>first|(simp[S7,k3fr2];done)|skip
 rintro e fr3 ⟨bx,fams⟩ ⟨K,rfl,hB⟩;simp only at hB;rw[hU,hV]at hB;subst hB;have hlfr3:fr3.length=51:=K.1.trans (by simp[S7]);have k1fr3:A0 fr3 1=.ptr 0 0:=A8 K 1 (by simp[k1fr2]);have k2fr3:A0 fr3 2=.ptr 1 0:=A8 K 2 (by simp[k2fr2]);have k3fr3:A0 fr3 3=.ptr 3 0:=A8 K 3 (by simp[k3fr2]);clear K;have hF:∀(A C T:List AV) (B:List (List AV)) (f:List Fam),Ej ⟨A::C::[.mbox U V]::T::B,f⟩ true (.mp 2)=some (.vm U V):=λ_ _ _ _ _=>ux _ 2 U V rfl;simp[hlfr3,k2fr3,k3fr3,hF]
end Go.Abs.Q
