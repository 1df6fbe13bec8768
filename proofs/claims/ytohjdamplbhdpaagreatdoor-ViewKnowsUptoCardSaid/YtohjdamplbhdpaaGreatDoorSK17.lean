/- A part of the proof. -/
import Derived.Test.YtohjdamplbhdpaaGreatDoorSK16
set_option linter.all false
open List renaming take_succ_eq_append_getElem->A0A,map_append->A0B,getElem?_eq_getElem->A0C,append_assoc->A0D,take_of_length_le->A0E,map_nil->A0G,drop_eq_getElem_cons->A0H,drop_eq_nil_of_le->A0I,length_singleton->A0J,append_nil->A0K,map_cons->A0L,getElem?_set_self->A0M,getElem?_set_ne->A0N,mem_of_mem_take->A0O,length_take->A0R,take_zero->A0S,any_cons->A0T
open Option renaming bind_some->A0F
open Nat renaming mul_le_mul_left->A0P
open Bool renaming and_eq_true->A0Q
namespace Go.Abs.Q
open Go.Proofs
attribute [local simp] D9 E4 fin I8 G6
@[simp] theorem xN (h:AH) (am:Bool) (ks vs:G1):Dy h am (.vm ks vs)=some (.vm ks vs):=_root_.id rfl
@[simp] theorem yO (h:AH) (am:Bool) (ks vs:G1):JW h am (.vm ks vs)=some (.vm ks vs):=_root_.id rfl
@[simp] theorem wY (h:AH) (ks vs:G1):MO h (.vm ks vs)=true:=_root_.id rfl
@[simp] theorem vI (ks vs:G1):(AV.vm ks vs).isTup=false:=_root_.id rfl
@[simp] theorem uW (ks vs:G1):(AV.vm ks vs).cells=[.vm ks vs]:=_root_.id rfl
@[simp] theorem vH (b:Nat):(AV.mp b).isTup=false:=_root_.id rfl
@[simp] theorem uV (b:Nat):(AV.mp b).cells=[.mp b]:=_root_.id rfl
theorem WK (a b:I3):ZY true (.str a) (.str b)=some (U3 a b):=by
 have:(a == b)=U3 a b:=by
  rw[Bool.eq_iff_iff,JV];obtain⟨a⟩:=a;obtain⟨b⟩:=b;show (a == b)=true↔_;rw[beq_iff_eq,ByteArray.mk.injEq]
 simp[ZY,this]
theorem Qh (a:I3):∀(l:List ByteArray) (i:Nat),l.any (U3 a)=true->QK true (.str a) (l.map AV.str) i=some (some (R1 (U3 a) i l).toNat)
 | [],i,h=>by cases h
 |b::l,i,h=>by
  simp only[A0L,QK,WK,R1];cases hb:U3 a b with
  |true=>simp
  |false =>
   rw[A0T,hb,Bool.false_or]at h;simp only[Qh a l (i+1) h];simp
theorem Nc (a:I3):∀(l:List ByteArray) (i:Nat),l.any (U3 a)=false->QK true (.str a) (l.map AV.str) i=some none
 | [],i,_=>rfl
 |b::l,i,h=>by
  rw[A0T,Bool.or_eq_false_iff]at h;simp only[A0L,QK,WK,h.1];exact Nc a l (i+1) h.2
theorem cz (m:J3) (l:List ByteArray) (x:I3) (B8:l.length<=1099511627776) (fr:Fr) (h:AH) (hl:fr.length=19)
  (h0:A0 fr 0=sl m 1 (l.map AV.str)) (h1:A0 fr 1=.str x) (h5:A0 fr 5=.int .i64 0) :
  B9 (lp (A3 (L5 Q) (E5 P2) Bq) (fr,h)) λe C6 h'=>Kp Bq.wr fr C6/\(e=.exit 0/\idx (U3 x) l=-1\/e=.ret/\A0 C6 4=.int .i64 (idx (U3 x) l)):=by
 refine B5 rfl fr (λn fr h=>∃i,i+n=l.length/\A0 fr 5=.int .i64 (i:Nat)/\R1 (U3 x) i (l.drop i)=idx (U3 x) l) ?_ l.length h ⟨0,by omega,h5,rfl⟩;rintro J Φ hJ hΦ n E1 Ei K ⟨i,hi,k5,hr⟩;have A6:=K.1.trans hl;have k0:=A9 K 0 h0;have k1:=A9 K 1 h1;by_cases A7:i<l.length
 .have hx:=G0 (f:=AV.str) (A0C A7);have hw:=D1 i (by omega);rw[A0H A7]at hr;simp only[R1,U3,decide_eq_true_eq]at hr;generalize l[i]=a at *
  by_cases hc:x.toList=a.toList
  .rw[if_pos hc]at hr;simp[Bq,A6,k0,k1,k5,A7,hx,hc];exact hΦ _ _ _ (.inr ⟨rfl,by simp[A6];exact hr⟩)
  .have hc':¬a.toList=x.toList:=λe=>hc e.symm;rw[if_neg hc]at hr;simp[Bq,A6,k0,k1,k5,A7,hx,hw,hc'];exact G8 hJ ⟨i+1,by omega,by simp[A6],hr⟩
 .rw[A0I (by omega)]at hr;simp[Bq,A6,k0,k5,A7];exact hΦ _ _ _ (.inl ⟨rfl,hr.symm⟩)
theorem lm (m:J3) (l:List ByteArray) (x:I3) (B8:l.length<=1099511627776):pc Q P2 [CK m l,.str x]=some (.int .i64 (idx (U3 x) l)):=by
 refine O2 Mp λfr hl h0 h1=>?_;simp[Mp,CK]at hl h0 h1;simp[Mp];refine(cz m l x B8 _ _ (by simp[hl]) (by simp[h0]) (by simp[h1]) (by simp[hl])).mono ?_;rintro e C6 h' ⟨K,⟨rfl,he⟩|⟨rfl,h4⟩⟩
 .have hl':C6.length=19:=K.1.trans (by simp[hl]);simp[hl',he]
 .simp[h4]
def B4 (n:Nar):List ByteArray:=n.roles++n.fresh.map Fre.name++n.tags
def G3 (n:Nar):List Int:=n.roles.map (λ_=>1)++n.fresh.map Fre.sort++n.tags.map (λ_=>5)
def Vd (a b:List AV) (v w:AV) (h:AH):Prop:=(a=[]/\v=.vs true 0 []/\b=[]/\w=.vs true 0 [])\/(a≠[]/\b≠[]/\∃j k,j≠k/\v=.sl j a.length 0 a.length/\h.fams[j]?=some ⟨a,1,false⟩/\w=.sl k b.length 0 b.length/\h.fams[k]?=some ⟨b,1,false⟩)
theorem XV {c:Ctx} {a b:G1} {v w x y:AV} {h:AH} (hg:Vd a b v w h) (hm:c.mutApp=false) (m m':J3) (p q:Nat) (hp:p<=16) (hq:q<=16) (ha:a.length<=1099511627776) (hb:b.length<=1099511627776) :
  ∃v' h1 w' h2,N1 c h 1 p v (sl m 1 [x])=some (v',h1)/\N1 c h1 1 q w (sl m' 1 [y])=some (w',h2)/\Vd (a++[x]) (b++[y]) v' w' h2/\h1.boxes=h.boxes/\h2.boxes=h.boxes:=by
 have r0:(1:Nat)*p<=H6/\1<=maxLen:=by simp only[H6,maxLen];omega
 have r1:(1:Nat)*q<=H6/\1<=maxLen:=by simp only[H6,maxLen];omega
 have ra:(a.length+1)*p<=H6/\a.length+1<=maxLen:=by
  simp only[H6,maxLen];have:=A0P (a.length+1) hp;omega
 have rb:(b.length+1)*q<=H6/\b.length+1<=maxLen:=by
  simp only[H6,maxLen];have:=A0P (b.length+1) hq;omega
 rcases hg with ⟨rfl,rfl,rfl,rfl⟩|⟨hna,hnb,j,k,hjk,rfl,hj,rfl,hk⟩
 .refine⟨.sl h.fams.length 1 0 1,⟨h.boxes,h.fams++[⟨[x],1,false⟩]⟩,.sl (h.fams.length+1) 1 0 1,⟨h.boxes,h.fams++[⟨[x],1,false⟩]++[⟨[y],1,false⟩]⟩,?_,?_,?_,rfl,rfl⟩
  .rw[Pj,T7,A0F,if_neg (by simp),A0J,if_pos r0,hm]
  .rw[Pj,T7,A0F,if_neg (by simp),A0J,if_pos r1,hm];simp
  .refine .inr ⟨by simp,by simp,h.fams.length,h.fams.length+1,by omega,by simp,by simp,by simp,by simp⟩
 .have hj':=I2 hj;have Dd:=I2 hk;refine⟨.sl j (a.length+1) 0 (a.length+1),⟨h.boxes,h.fams.set j ⟨a++[x],1,false⟩⟩,.sl k (b.length+1) 0 (b.length+1),⟨h.boxes,(h.fams.set j ⟨a++[x],1,false⟩).set k ⟨b++[y],1,false⟩⟩,?_,?_,?_,rfl,rfl⟩
  .rw[Kx,T7,A0F,hj,A0F,A0J,if_pos ⟨rfl,rfl,by omega,ra⟩]
  .rw[Kx,T7,A0F];simp only;rw[A0N hjk,hk,A0F,A0J,if_pos ⟨rfl,rfl,by omega,rb⟩]
  .refine .inr ⟨by simp,by simp,j,k,hjk,by simp,?_,by simp,?_⟩
   .simp only;rw[A0N (λe=>hjk e.symm),A0M hj']
   .simp only;rw[A0M (by simpa using Dd)]
theorem nJ {a b:G1} {v w:AV} {h:AH} (hg:Vd a b v w h):∃m m',JW h true v=some (sl m 1 a)/\JW h true w=some (sl m' 1 b):=by
 rcases hg with ⟨rfl,rfl,rfl,rfl⟩|⟨hna,hnb,j,k,hjk,rfl,hj,rfl,hk⟩
 .exact⟨(true,false),(true,false),Xn _ _,Xn _ _⟩
 .refine⟨(false,true),(false,true),?_,?_⟩
  .rw[Ou,Cr,hj,A0F,if_pos ⟨rfl,by omega,rfl⟩];simp
  .rw[Ou,Cr,hk,A0F,if_pos ⟨rfl,by omega,rfl⟩];simp
theorem Zv (m:J3) (l:List ByteArray) (B8:l.length<=1099511627776) (b0 b2 b3 b4 b5:AV) (fr:Fr) (h:AH) (hh:h.boxes=[[b0,sl m 1 (l.map AV.str),b2,b3,b4,b5]]) (hl:fr.length=72) (h1:A0 fr 1=.ptr 0 0)
  (h4:A0 fr 4=.vs true 0 []) (h5:A0 fr 5=.vs true 0 []) (h6:A0 fr 6=.int .i64 0) :
  B9 (lp (A3 (L5 Q) (E5 V0) EI) (fr,h)) λe C6 h'=>Kp EI.wr fr C6/\e=.exit 0/\h'.boxes=h.boxes/\Vd (l.map AV.str) ((l.map λ_=>(1:Int)).map (AV.int .i64)) (A0 C6 4) (A0 C6 5) h':=by
 refine B5 rfl fr (λn fr h'=>∃i,i+n=l.length/\A0 fr 6=.int .i64 (i:Nat)/\h'.boxes=h.boxes/\Vd ((l.take i).map AV.str) (((l.take i).map λ_=>(1:Int)).map (AV.int .i64)) (A0 fr 4) (A0 fr 5) h') ?_ l.length h ⟨0,by omega,h6,rfl,.inl ⟨rfl,h4,rfl,h5⟩⟩;rintro J Φ hJ hΦ n E1 ⟨bx,fams⟩ K ⟨i,hi,k6,hb,hg⟩;rw[hh]at hb;simp only at hb;subst hb;have A6:=K.1.trans hl;have k1:=A9 K 1 h1;by_cases A7:i<l.length
 .have hx:=G0 (f:=AV.str) (A0C A7);have hw:=D1 i (by omega);obtain⟨v',Ei,w',h2',ha1,ha2,f7,hb1,hb2⟩:=XV (c:=E5 V0) (x:=.str l[i]) (y:=.int .i64 1) hg rfl (true,true) (true,true) 16 8 (by omega) (by omega) (by simp;omega) (by simp;omega);have hg2:Vd ((l.take (i+1)).map AV.str) (((l.take (i+1)).map λ_=>(1:Int)).map (AV.int .i64)) v' w' h2':=by
   rw[A0A A7,A0B,A0B,A0B];exact f7
  have tw:∀F:Fr,A0 F 4=v'->A0 F 5=w'->Vd ((l.take (i+1)).map AV.str) (((l.take (i+1)).map λ_=>(1:Int)).map (AV.int .i64)) (A0 F 4) (A0 F 5) h2':=λF e4 e5=>by rw[e4,e5];exact hg2
  generalize l[i]=a at *
  simp[EI,A6,k1,k6,A7,hx,hw,A5,ha1,ha2];exact G8 hJ ⟨i+1,by omega,by simp[A6],by rw[hb2,hh],tw _ (by simp[A6]) (by simp[A6])⟩
 .have e:l.take i=l:=A0E (by omega);rw[e]at hg;have tw:∀F:Fr,A0 F 4=A0 E1 4->A0 F 5=A0 E1 5->Vd (l.map AV.str) ((l.map λ_=>(1:Int)).map (AV.int .i64)) (A0 F 4) (A0 F 5) _:=λF e4 e5=>by rw[e4,e5];exact hg
  simp[EI,A6,k1,k6,A7];exact hΦ _ _ _ ⟨rfl,by rw[hh],tw _ (by simp) (by simp)⟩
theorem Zu (m:J3) (l:List Fre) (B8:l.length<=1048576) (A B:G1) (hA:A.length<=1048576) (hB:B.length<=1048576) (b0 b1 b3 b4 b5:AV) (fr:Fr) (h:AH) (hh:h.boxes=[[b0,b1,sl m 3 (l.map KD),b3,b4,b5]]) (hl:fr.length=72) (h1:A0 fr 1=.ptr 0 0)
  (h45:Vd A B (A0 fr 4) (A0 fr 5) h) (h7:A0 fr 7=.int .i64 0) :
  B9 (lp (A3 (L5 Q) (E5 V0) EH) (fr,h)) λe C6 h'=>Kp EH.wr fr C6/\e=.exit 2/\h'.boxes=h.boxes/\Vd (A++(l.map Fre.name).map AV.str) (B++(l.map Fre.sort).map (AV.int .i64)) (A0 C6 4) (A0 C6 5) h':=by
 refine B5 rfl fr (λn fr h'=>∃i,i+n=l.length/\A0 fr 7=.int .i64 (i:Nat)/\h'.boxes=h.boxes/\Vd (A++((l.take i).map Fre.name).map AV.str) (B++((l.take i).map Fre.sort).map (AV.int .i64)) (A0 fr 4) (A0 fr 5) h') ?_ l.length h ⟨0,by omega,h7,rfl,by rw[A0S,A0G,A0G,A0G,A0G,A0K,A0K];exact h45⟩;rintro J Φ hJ hΦ n E1 ⟨bx,fams⟩ K ⟨i,hi,k7,hb,hg⟩;rw[hh]at hb;simp only at hb;subst hb;have A6:=K.1.trans hl;have k1:=A9 K 1 h1;by_cases A7:i<l.length
 .have hx:=G0 (f:=KD) (A0C A7);have hw:=D1 i (by omega);obtain⟨v',Ei,w',h2',ha1,ha2,f7,hb1,hb2⟩:=XV (c:=E5 V0) (x:=.str l[i].name) (y:=.int .i64 l[i].sort) hg rfl (true,true) (true,true) 16 8 (by omega) (by omega) (by simp;omega) (by simp;omega);have hg2:Vd (A++((l.take (i+1)).map Fre.name).map AV.str) (B++((l.take (i+1)).map Fre.sort).map (AV.int .i64)) v' w' h2':=by
   rw[A0A A7,A0B,A0B,A0B,A0B,←A0D,←A0D];exact f7
  have tw:∀F:Fr,A0 F 4=v'->A0 F 5=w'->Vd (A++((l.take (i+1)).map Fre.name).map AV.str) (B++((l.take (i+1)).map Fre.sort).map (AV.int .i64)) (A0 F 4) (A0 F 5) h2':=λF e4 e5=>by rw[e4,e5];exact hg2
  generalize l[i]=a at *
  obtain⟨r,nm,so⟩:=a;simp only[KD]at hx ha1 ha2;simp[EH,A6,k1,k7,A7,hx,hw,MC,AV.flat,A5,ha1,ha2,hb1];exact G8 hJ ⟨i+1,by omega,by simp[A6],by rw[hb2,hh],tw _ (by simp[A6]) (by simp[A6])⟩
 .have e:l.take i=l:=A0E (by omega);rw[e]at hg;have tw:∀F:Fr,A0 F 4=A0 E1 4->A0 F 5=A0 E1 5->Vd (A++(l.map Fre.name).map AV.str) (B++(l.map Fre.sort).map (AV.int .i64)) (A0 F 4) (A0 F 5) _:=λF e4 e5=>by rw[e4,e5];exact hg
  simp[EH,A6,k1,k7,A7];exact hΦ _ _ _ ⟨rfl,by rw[hh],tw _ (by simp) (by simp)⟩
theorem Zt (m:J3) (l:List ByteArray) (B8:l.length<=1048576) (A B:G1) (hA:A.length<=2097152) (hB:B.length<=2097152) (b0 b1 b2 b4 b5:AV) (fr:Fr) (h:AH) (hh:h.boxes=[[b0,b1,b2,sl m 1 (l.map AV.str),b4,b5]]) (hl:fr.length=72) (h1:A0 fr 1=.ptr 0 0)
  (h45:Vd A B (A0 fr 4) (A0 fr 5) h) (h8:A0 fr 8=.int .i64 0) :
  B9 (lp (A3 (L5 Q) (E5 V0) EG) (fr,h)) λe C6 h'=>Kp EG.wr fr C6/\e=.exit 4/\h'.boxes=h.boxes/\Vd (A++l.map AV.str) (B++(l.map λ_=>(5:Int)).map (AV.int .i64)) (A0 C6 4) (A0 C6 5) h':=by
 refine B5 rfl fr (λn fr h'=>∃i,i+n=l.length/\A0 fr 8=.int .i64 (i:Nat)/\h'.boxes=h.boxes/\Vd (A++(l.take i).map AV.str) (B++((l.take i).map λ_=>(5:Int)).map (AV.int .i64)) (A0 fr 4) (A0 fr 5) h') ?_ l.length h ⟨0,by omega,h8,rfl,by rw[A0S,A0G,A0G,A0G,A0K,A0K];exact h45⟩;rintro J Φ hJ hΦ n E1 ⟨bx,fams⟩ K ⟨i,hi,k8,hb,hg⟩;rw[hh]at hb;simp only at hb;subst hb;have A6:=K.1.trans hl;have k1:=A9 K 1 h1;by_cases A7:i<l.length
 .have hx:=G0 (f:=AV.str) (A0C A7);have hw:=D1 i (by omega);obtain⟨v',Ei,w',h2',ha1,ha2,f7,hb1,hb2⟩:=XV (c:=E5 V0) (x:=.str l[i]) (y:=.int .i64 5) hg rfl (true,true) (true,true) 16 8 (by omega) (by omega) (by simp;omega) (by simp;omega);have hg2:Vd (A++(l.take (i+1)).map AV.str) (B++((l.take (i+1)).map λ_=>(5:Int)).map (AV.int .i64)) v' w' h2':=by
   rw[A0A A7,A0B,A0B,A0B,←A0D,←A0D];exact f7
  have tw:∀F:Fr,A0 F 4=v'->A0 F 5=w'->Vd (A++(l.take (i+1)).map AV.str) (B++((l.take (i+1)).map λ_=>(5:Int)).map (AV.int .i64)) (A0 F 4) (A0 F 5) h2':=λF e4 e5=>by rw[e4,e5];exact hg2
  generalize l[i]=a at *
  simp[EG,A6,k1,k8,A7,hx,hw,A5,ha1,ha2];exact G8 hJ ⟨i+1,by omega,by simp[A6],by rw[hb2,hh],tw _ (by simp[A6]) (by simp[A6])⟩
 .have e:l.take i=l:=A0E (by omega);rw[e]at hg;have tw:∀F:Fr,A0 F 4=A0 E1 4->A0 F 5=A0 E1 5->Vd (A++l.map AV.str) (B++(l.map λ_=>(5:Int)).map (AV.int .i64)) (A0 F 4) (A0 F 5) _:=λF e4 e5=>by rw[e4,e5];exact hg
  simp[EG,A6,k1,k8,A7];exact hΦ _ _ _ ⟨rfl,by rw[hh],tw _ (by simp) (by simp)⟩
structure Short (n:Nar):Prop where
 roles:n.roles.length<=1048576
 fresh:n.fresh.length<=1048576
 tags:n.tags.length<=1048576
theorem Up (n:Nar) (S:Short n):∃r,pc Q V0 [F0 n]=some r/\∃m m':Bool×Bool,r=.tup [CK m (B4 n),sl m' 1 ((G3 n).map (AV.int .i64))]:=by
 have s1:=S.roles;have s2:=S.fresh;have s3:=S.tags;clear S;refine HL Mo λΨ hΨ fr hl h0=>?_;have en:(B4 n).map AV.str=n.roles.map AV.str++(n.fresh.map Fre.name).map AV.str++n.tags.map AV.str:=by simp only[B4,A0B]
 have es:(G3 n).map (AV.int .i64)=(n.roles.map λ_=>(1:Int)).map (AV.int .i64)++(n.fresh.map Fre.sort).map (AV.int .i64)++(n.tags.map λ_=>(5:Int)).map (AV.int .i64):=by simp only[G3,A0B]
 simp only[CK,en,es]at hΨ;clear en es;obtain⟨name,rm,roles,fm,fresh,tm,tags,sm,steps,gm,goals⟩:=n;simp only at *
 simp[Mo,F0]at hl h0;simp[Mo,h0];refine B9.mono (Zv rm roles (by omega) _ _ _ _ _ _ _ rfl ?_ ?_ ?_ ?_ ?_) ?_<;>first|(simp[hl];done)|skip
 rintro e E1 ⟨bx,fams⟩ ⟨K,rfl,hb,hg⟩;simp only at hb;subst hb;have A6:E1.length=72:=K.1.trans (by simp[hl]);have k1:A0 E1 1=.ptr 0 0:=A9 K 1 (by simp[hl]);clear K;have tw:∀F:Fr,A0 F 4=A0 E1 4->A0 F 5=A0 E1 5->Vd (roles.map AV.str) ((roles.map λ_=>(1:Int)).map (AV.int .i64)) (A0 F 4) (A0 F 5) _:=λF e4 e5=>by rw[e4,e5];exact hg
 clear hg;simp;refine B9.mono (Zu fm fresh (by omega) (roles.map AV.str) ((roles.map λ_=>(1:Int)).map (AV.int .i64)) (by simp;omega) (by simp;omega) _ _ _ _ _ _ _ rfl ?_ ?_ (tw _ ?_ ?_) ?_) ?_<;>first|(simp[A6,k1];done)|skip
 rintro e V8 ⟨bx,fams2⟩ ⟨K,rfl,hb,hg⟩;simp only at hb;subst hb;have GI:V8.length=72:=K.1.trans (by simp[A6]);have k1':A0 V8 1=.ptr 0 0:=A9 K 1 (by simp[k1]);clear K tw;have tw:∀F:Fr,A0 F 4=A0 V8 4->A0 F 5=A0 V8 5->Vd (roles.map AV.str++(fresh.map Fre.name).map AV.str) ((roles.map λ_=>(1:Int)).map (AV.int .i64)++(fresh.map Fre.sort).map (AV.int .i64)) (A0 F 4) (A0 F 5) _:=λF e4 e5=>by rw[e4,e5];exact hg
 clear hg;simp;refine B9.mono (Zt tm tags (by omega) (roles.map AV.str++(fresh.map Fre.name).map AV.str) ((roles.map λ_=>(1:Int)).map (AV.int .i64)++(fresh.map Fre.sort).map (AV.int .i64)) (by simp;omega) (by simp;omega) _ _ _ _ _ _ _ rfl ?_ ?_ (tw _ ?_ ?_) ?_) ?_<;>first|(simp[GI,k1'];done)|skip
 rintro e fr3 h3 ⟨K,rfl,hb,hg⟩;have hl3:fr3.length=72:=K.1.trans (by simp[GI]);obtain⟨m,m',e1,e2⟩:=nJ hg;generalize hA:roles.map AV.str++(fresh.map Fre.name).map AV.str++tags.map AV.str=A at *
 generalize hB:(roles.map λ_=>(1:Int)).map (AV.int .i64)++(fresh.map Fre.sort).map (AV.int .i64)++(tags.map λ_=>(5:Int)).map (AV.int .i64)=B at *
 simp[hl3,e1,e2];exact hΨ _ ⟨m,m',rfl⟩
def eH (m:Bool×Bool) (n:Nar):AV:=.agg [sl m 1 (n.roles.map .str),.vm ((B4 n).map .str) ((G3 n).map (.int .i64))]
theorem YG (h:AH) (b:Nat) (ks:List ByteArray) (vs:G1) (k:I3) (x:Int) (hb:h.boxes[b]?=some [.mbox (ks.map .str) vs]) (hk:ks.any (U3 k)=false) :
  dP true h (.mp b) (.str k) (.int .i64 x)=some (C3,{h with boxes:=h.boxes.set b [.mbox ((ks++[k]).map .str) (vs++[.int .i64 x])]}):=by
 simp only[dP,hb,nv,RU,Nc k ks 0 hk];simp
end Go.Abs.Q
namespace Go.Abs
section
variable {O:Orc} {c:Ctx} {d:Option Nat} {op:ROp} {M5:List RO} {fr:Fr} {h:AH} {Ψ:Ex->Fr->AH->Prop}
theorem P7 (b:Bool) {x y:RCode}:B9 (qt (.bool b) O c x y fr h) Ψ=((b=true->B9 (A3 O c x (fr,h)) Ψ)/\(b=false->B9 (A3 O c y (fr,h)) Ψ)):=by
 cases b<;>simp
theorem M4 (b:Bool):B9 (vQ (mz (.bool b) true O c d op M5 fr h)) Ψ=((b=true->B9 (vQ (nC (A8 O c op fr h) O c d M5 fr)) Ψ)/\(b=false->B9 (vQ (J7 O c M5 (put fr d C3) h)) Ψ)):=by
 cases b<;>simp
end
def Tm.kind:Tm->Int | .mk k _ _ _ _=>k
def Tm.name:Tm->ByteArray | .mk _ n _ _ _=>n
def Tm.sort:Tm->Int | .mk _ _ s _ _=>s
def Tm.cm:Tm->Bool×Bool | .mk _ _ _ m _=>m
def Tm.kids:Tm->List Tm | .mk _ _ _ _ l=>l
@[simp] theorem L0 (t:Tm):(B7 t).cells=[.int .i64 t.kind,.str t.name,.int .i64 t.sort,sl t.cm 4 (A4 t.kids)]:=by cases t;rfl
@[simp] theorem Yk (t:Tm):AV.agg [.int .i64 t.kind,.str t.name,.int .i64 t.sort,sl t.cm 4 (A4 t.kids)]=B7 t:=by cases t;rfl
@[simp] theorem wi (t:Tm):(B7 t).isTup=false:=by cases t;rfl
@[simp] theorem zL (h:AH) (am:Bool) (t:Tm):JW h am (B7 t)=some (B7 t):=by cases t;rfl
@[simp] theorem yB (h:AH) (t:Tm):Ef h (B7 t)=true:=by cases t;rfl
@[simp] theorem tu (h:AH) (t:Tm):Cs h (B7 t)=some (B7 t):=by cases t;rfl
theorem Tm.kids_size (t:Tm):t.size=1+Tm.sizes t.kids:=by cases t;rfl
theorem wj (k:Int) (n:I3) (s:Int) (m:J3) (l:I6):AV.agg [.int .i64 k,.str n,.int .i64 s,sl m 4 (A4 l)]=B7 (.mk k n s m l):=rfl
@[simp] theorem xc (h:AH) (f:Bool) (sz:Nat) (xs:G1):Xv h (.vs f sz xs)=some (.int .i64 xs.length,h):=rfl
@[simp] theorem uP (fr:Fr):J6 fr none=some none:=rfl
@[simp] theorem uO (fr:Fr) (k:IntKind) (i:Int):J6 fr (some (.c (.int k i)))=some (some i):=rfl
@[simp] theorem uQ (fr:Fr) (n:Nat):J6 fr (some (.t n))=(match A0 fr n with | .int _ i=>some (some i)|_=>none):=rfl
namespace Q
@[simp] theorem uv (g:Gol):(Da g).cells=[.int .i64 g.kind,.str g.role,.str g.wth,sl g.dm 4 (A4 g.data),.int .i64 g.line]:=rfl
@[simp] theorem yP (g:Gol):AV.agg [.int .i64 g.kind,.str g.role,.str g.wth,sl g.dm 4 (A4 g.data),.int .i64 g.line]=Da g:=rfl
@[simp] theorem uw (g:Gol):(Da g).isTup=false:=rfl
@[simp] theorem yQ (h:AH) (am:Bool) (g:Gol):JW h am (Da g)=some (Da g):=rfl
@[simp] theorem xR (h:AH) (g:Gol):Ef h (Da g)=true:=rfl
@[simp] theorem bd (s:Ste):(DY s).cells=[.str s.frm,.str s.to,.int .i64 s.msg.kind,.str s.msg.name,.int .i64 s.msg.sort,sl s.msg.cm 4 (A4 s.msg.kids),.int .i64 s.line]:=by simp[DY]
@[simp] theorem zJ (s:Ste):AV.agg [.str s.frm,.str s.to,.int .i64 s.msg.kind,.str s.msg.name,.int .i64 s.msg.sort,sl s.msg.cm 4 (A4 s.msg.kids),.int .i64 s.line]=DY s:=by simp[DY]
@[simp] theorem wV (s:Ste):(DY s).isTup=false:=rfl
@[simp] theorem zK (h:AH) (am:Bool) (s:Ste):JW h am (DY s)=some (DY s):=by obtain⟨_,_,t,_⟩:=s;cases t;rfl
@[simp] theorem xu (h:AH) (s:Ste):Ef h (DY s)=true:=by obtain⟨_,_,t,_⟩:=s;cases t;rfl
@[simp] theorem RS (f:Fre):(KD f).cells=[.str f.role,.str f.name,.int .i64 f.sort]:=rfl
@[simp] theorem yK (f:Fre):AV.agg [.str f.role,.str f.name,.int .i64 f.sort]=KD f:=rfl
@[simp] theorem uk (f:Fre):(KD f).isTup=false:=rfl
@[simp] theorem yL (h:AH) (am:Bool) (f:Fre):JW h am (KD f)=some (KD f):=rfl
@[simp] theorem xM (h:AH) (f:Fre):Ef h (KD f)=true:=rfl
theorem D8 (n:Nar):(F0 n).cells=[.str n.name,sl n.rm 1 (n.roles.map .str),sl n.fm 3 (n.fresh.map KD),sl n.tm 1 (n.tags.map .str),sl n.sm 7 (n.steps.map DY),sl n.gm 5 (n.goals.map Da)]:=rfl
@[simp] theorem yg (n:Nar):AV.agg [.str n.name,sl n.rm 1 (n.roles.map .str),sl n.fm 3 (n.fresh.map KD),sl n.tm 1 (n.tags.map .str),sl n.sm 7 (n.steps.map DY),sl n.gm 5 (n.goals.map Da)]=F0 n:=rfl
@[simp] theorem vZ (n:Nar):(F0 n).isTup=false:=rfl
@[simp] theorem yh (h:AH) (am:Bool) (n:Nar):JW h am (F0 n)=some (F0 n):=rfl
@[simp] theorem xd (h:AH) (n:Nar):Ef h (F0 n)=true:=rfl
end Q
end Go.Abs
namespace Go.Abs.Q
open Go.Proofs
def f8 (t:Tm) (nm:ByteArray) (n:Int):Bool:=decide (t.kind=3)&&decide (t.name=nm)&&decide ((t.kids.length:Int)=n)
def BG (rs:List ByteArray) (t:Tm):Bool:=decide (t.kind=2)&&rs.any (U3 t.name)
def Qj (f:Tm->Bool):List Tm->Bool
 |a::_=>f a
 |_=>false
def OA (f:Tm->Bool):List Tm->Bool
 |_::b::_=>f b
 |_=>false
def BU (rs:List ByteArray) (t:Tm):Bool:=f8 t (bs [115,107]) 1&&Qj (BG rs) t.kids
def Ft (rs:List ByteArray) (t:Tm):Bool:=f8 t (bs [112,107]) 1&&Qj (BU rs) t.kids
def nY:List Tm->Bool
 |a::b::_=>decide (a.name≠b.name)
 |_=>false
def Sh (rs:List ByteArray) (t:Tm):Bool:=f8 t (bs [115,104,107]) 2&&Qj (BG rs) t.kids&&OA (BG rs) t.kids&&nY t.kids
def Hb (rs:List ByteArray) (t:Tm):Int :=
 if f8 t (bs [112,97,105,114]) 2=true\/f8 t (bs [101,110,99]) 2=true then 2
 else if f8 t (bs [104,97,115,104]) 1=true then 1
 else if (f8 t (bs [97,101,110,99]) 2=true/\OA (Ft rs) t.kids=true)\/(f8 t (bs [115,105,103,110]) 2=true/\OA (BU rs) t.kids=true)then 1
 else if Ft rs t=true\/Sh rs t=true then 0 else -1
mutual
def o6 (ns rs:List ByteArray):Tm->Int
 | .mk k nm s m l=>if k≠3 then (if ns.any (U3 nm)=true then 0 else 13)else if Hb rs (.mk k nm s m l)<0 then 10 else VN ns rs (Hb rs (.mk k nm s m l)).toNat l
def VN (ns rs:List ByteArray):Nat->List Tm->Int
 |0,_=>0
 |_,[]=>0
 |n+1,t::l=>if o6 ns rs t≠0 then o6 ns rs t else VN ns rs n l
end
theorem TN (ns rs:List ByteArray):∀(l:I6) (n:Nat),VN ns rs n l=C9 (o6 ns rs) (l.take n)
 | [],0=>by simp[VN,C9]
 | [],n+1=>by simp[VN,C9]
 |t::l,0=>by simp[VN,C9]
 |t::l,n+1=>by simp[VN,C9,TN ns rs l n]
theorem QA (ns rs:List ByteArray) (t:Tm):o6 ns rs t=if t.kind≠3 then (if ns.any (U3 t.name)=true then 0 else 13)else if Hb rs t<0 then 10 else C9 (o6 ns rs) (t.kids.take (Hb rs t).toNat):=by
 rw[←TN];cases t;rw[o6];rfl
def LQ (rs:List ByteArray) (a b:ByteArray):Int:=if rs.any (U3 a)=true/\rs.any (U3 b)=true then (if a=b then 1 else 0)else 13
def HN (ns rs:List ByteArray) (g:Gol):Int :=
 if rs.any (U3 g.role)=false then 13 else if Ln g=true/\LQ rs g.role g.wth≠0 then LQ rs g.role g.wth else C9 (o6 ns rs) g.data
def FN (ns rs:List ByteArray) (s:Ste):Int:=if LQ rs s.frm s.to≠0 then LQ rs s.frm s.to else o6 ns rs s.msg
def Q7 {α:Type} (g:α->Int) (ln:α->Int):List α->Int×Int
 | []=>(0,0)
 |a::l=>if g a≠0 then (ln a,g a)else Q7 g ln l
def LJ (seen:List ByteArray) (a:ByteArray) (f:Bool):Int:=if OM a=true then 2 else if f=true/\(a=bs [101]\/a=bs [103])then 1 else if seen.any (U3 a)=true then 5 else 0
def tQ (rs:List ByteArray):Option ByteArray->Bool
 |some x=>rs.any (U3 x)
 |none=>true
def X6 (rs:List ByteArray):List ByteArray->List (ByteArray×Option ByteArray)->Int
 |_,[]=>0
 |seen,(a,f)::r=>if LJ seen a f.isSome≠0 then LJ seen a f.isSome else if tQ rs f=false then 13 else X6 rs (seen++[a]) r
theorem Ol (rs:List ByteArray):∀(a b:List (ByteArray×Option ByteArray)) (seen:List ByteArray),X6 rs seen (a++b)=if X6 rs seen a≠0 then X6 rs seen a else X6 rs (seen++a.map (·.1)) b
 | [],b,seen=>by simp[X6]
 |(x,f)::a,b,seen=>by
  have ih:=Ol rs a b (seen++[x]);by_cases h1:LJ seen x f.isSome=0
  .by_cases h2:tQ rs f=false
   .simp[X6,h1,h2]
   .rw[Bool.not_eq_false]at h2;simp[X6,h1,h2,ih]
  .simp[X6,h1]
def UN (n:Nar):List (ByteArray×Option ByteArray):=n.roles.map (λa=>(a,none))++n.fresh.map (λf=>(f.name,some f.role))++n.tags.map (λa=>(a,none))
def GY (n:Nar):Int:=X6 n.roles [] (UN n)
def Z5 (n:Nar):Int×Int :=
 if NJ n≠0 then (0,NJ n)else if GY n≠0 then (0,GY n)
 else if Q7 (FN (B4 n) n.roles) Ste.line n.steps≠(0,0)then Q7 (FN (B4 n) n.roles) Ste.line n.steps else Q7 (HN (B4 n) n.roles) Gol.line n.goals
end Go.Abs.Q
namespace Go.Abs.Q
open Go.Proofs
attribute [local simp] D9 E4 fin I8 G6 P7 M4 R4 R3
theorem UC {t:Tm} {nm:I3} (h:f8 t nm 1=true):∃a,t.kids=[a]:=by
 simp only[f8,A0Q,decide_eq_true_eq]at h;exact List.length_eq_one_iff.1 (by omega)
theorem TG (t:Tm) (nm:I3) (n:Int):pc Q Cb [B7 t,.str nm,.int .i64 n]=some (.bool (f8 t nm n)):=by
 refine Gg Qv λfr hl h0 h1 h2=>?_;simp[Qv]at hl h0 h1 h2;simp +contextual (maxSteps:=10000000) [Qv,hl,h0,h1,h2,f8]
theorem Fp (m:J3) (l:List ByteArray) (x:I3) (h:l.length<=1048576):pc Q H8 [sl m 1 (l.map AV.str),.str x]=some (.bool (l.any (U3 x))):=PI m l x (by omega)
theorem YW (m:J3) (rs:List ByteArray) (ks vs:G1) (hr:rs.length<=1048576) (t:Tm):pc Q BD [.agg [sl m 1 (rs.map .str),.vm ks vs],B7 t]=some (.bool (BG rs t)):=by
 have hC:=Fp m rs t.name hr;refine O2 HU λfr hl h0 h1=>?_;simp[HU]at hl h0 h1;simp +contextual (maxSteps:=10000000) [HU,hl,h0,h1,BG,hC]
theorem Ux (m:J3) (rs:List ByteArray) (ks vs:G1) (hr:rs.length<=1048576) (t:Tm):pc Q BP [.agg [sl m 1 (rs.map .str),.vm ks vs],B7 t]=some (.bool (BU rs t)):=by
 have hI:=TG t (bs [115,107]) 1;refine O2 BS λfr hl h0 h1=>?_;simp[BS]at hl h0 h1;cases ha:f8 t (bs [115,107]) 1 with
 |false =>
  rw[ha]at hI;simp[BS,hl,h0,h1,BU,hI,ha]
 |true =>
  rw[ha]at hI;obtain⟨a,hk⟩:=UC ha;have hx:Jb (A4 t.kids) 0=some (B7 a):=by rw[hk];rfl
  have hf:Qj (BG rs) t.kids=BG rs a:=by rw[hk];rfl
  have hR:=YW m rs ks vs hr a;simp[BS,hl,h0,h1,BU,hI,ha,hR,hx,hf]
theorem Wr (m:J3) (rs:List ByteArray) (ks vs:G1) (hr:rs.length<=1048576) (t:Tm):pc Q CG [.agg [sl m 1 (rs.map .str),.vm ks vs],B7 t]=some (.bool (Ft rs t)):=by
 have hI:=TG t (bs [112,107]) 1;refine O2 CS λfr hl h0 h1=>?_;simp[CS]at hl h0 h1;cases ha:f8 t (bs [112,107]) 1 with
 |false =>
  rw[ha]at hI;simp[CS,hl,h0,h1,Ft,hI,ha]
 |true =>
  rw[ha]at hI;obtain⟨a,hk⟩:=UC ha;have hx:Jb (A4 t.kids) 0=some (B7 a):=by rw[hk];rfl
  have hf:Qj (BU rs) t.kids=BU rs a:=by rw[hk];rfl
  have hR:=Ux m rs ks vs hr a;simp[CS,hl,h0,h1,Ft,hI,ha,hR,hx,hf]
theorem mF (m:J3) (rs:List ByteArray) (ks vs:G1) (hr:rs.length<=1048576) (a b:I3):pc Q En [.agg [sl m 1 (rs.map .str),.vm ks vs],.str a,.str b]=some (.int .i64 (LQ rs a b)):=by
 have c1:=Fp m rs a hr;have c2:=Fp m rs b hr;refine Gg IY λfr hl h0 h1 h2=>?_;simp[IY]at hl h0 h1 h2;have e:LQ rs a b=if rs.any (U3 a)=true/\rs.any (U3 b)=true then (if a=b then 1 else 0)else 13:=rfl
 generalize LQ rs a b=v at *
 generalize rs.any (U3 a)=x at *
 generalize rs.any (U3 b)=y at *
 cases x<;>cases y<;>simp +contextual [IY,hl,h0,h1,h2,c1,c2,e]
theorem Ir {α:Type} (p:α->Bool):∀(l:List α) (i:Nat),R1 p i l<(i:Int)+l.length
 | [],i=>by simp[R1];omega
 |a::l,i=>by
  have:=Ir p l (i+1);simp only[R1,List.length_cons];split<;>omega
theorem qE (ks:List ByteArray) (vs:List Int) (hkv:ks.length=vs.length) (h:AH) (a:I3) :
  ∃v,Ht true true (.int .i64 0) h (.vm (ks.map .str) (vs.map (.int .i64))) (.str a)=some (.tup [.int .i64 v,.bool (ks.any (U3 a))],h):=by
 cases hk:ks.any (U3 a)with
 |false=>exact⟨0,by simp[Ht,RU,Gy,Nc a ks 0 hk]⟩
 |true =>
  have hge:=(CX (U3 a) ks 0).2 hk;have A7:=Ir (U3 a) ks 0;have hi:(R1 (U3 a) 0 ks).toNat<vs.length:=by omega
  refine⟨vs[(R1 (U3 a) 0 ks).toNat],?_⟩;simp[Ht,RU,Gy,Qh a ks 0 hk,hi]
theorem iL (m:J3) (rs ns:List ByteArray) (vs:List Int) (m':J3) (l:I6) (B8:l.length<=1099511627776) (IH:∀t∈l,pc Q I4 [.agg [sl m 1 (rs.map .str),.vm (ns.map .str) (vs.map (.int .i64))],B7 t]=some (.int .i64 (o6 ns rs t))) (b1:G1) (fr:Fr) (h:AH) (hh:h.boxes=[[sl m 1 (rs.map .str),.vm (ns.map .str) (vs.map (.int .i64))],b1]) (hl:fr.length=98) (h2:A0 fr 2=.ptr 0 0) (h85:A0 fr 85=sl m' 4 (A4 l)) (h86:A0 fr 86=.int .i64 l.length) (h87:A0 fr 87=.int .i64 0) :
  B9 (lp (A3 (L5 Q) (E5 I4) S0) (fr,h)) λe C6 h'=>Kp S0.wr fr C6/\(e=.exit 1/\C9 (o6 ns rs) l=0\/e=.ret/\A0 C6 4=.int .i64 (C9 (o6 ns rs) l)):=by
 refine B5 rfl fr (λn fr h'=>∃(i:Nat),i+n=l.length/\A0 fr 87=.int .i64 (i:Nat)/\(∃B,h'.boxes=[sl m 1 (rs.map .str),.vm (ns.map .str) (vs.map (.int .i64))]::B)/\C9 (o6 ns rs) (l.drop i)=C9 (o6 ns rs) l) ?_ l.length h ⟨0,by omega,h87,⟨_,hh⟩,rfl⟩;rintro J Φ hJ hΦ n E1 H1 K ⟨i,hi,k87,hr⟩;have A6:=K.1.trans hl;have k2:=A9 K 2 h2;have k85:=A9 K 85 h85;have k86:=A9 K 86 h86;clear K;by_cases A7:i<l.length
 .have Q6:=D1 i (by omega);obtain⟨⟨B,hB⟩,hr⟩:=hr;obtain⟨bx,fams⟩:=H1;simp only at hB;subst hB;have hx:=N6 A7;have hI:=IH l[i] (List.getElem_mem A7);rw[A0H A7]at hr;simp only[C9]at hr;generalize l[i]=t at *
  generalize o6 ns rs t=v at *
  by_cases hz:v=0
  .rw[if_neg (by simp[hz])]at hr;simp[S0,A6,k2,k85,k86,k87,A7,Q6,hx,hI,hz];exact G8 hJ ⟨i+1,by omega,by simp[A6],⟨_,rfl⟩,hr⟩
  .rw[if_pos hz]at hr;simp[S0,A6,k2,k85,k86,k87,A7,hx,hI,hz];exact hΦ _ _ _ (.inr ⟨rfl,by simp[A6,hr]⟩)
 .obtain⟨_,hr⟩:=hr;rw[A0I (by omega)]at hr;simp[S0,A6,k86,k87,A7];exact hΦ _ _ _ (.inl ⟨rfl,hr.symm⟩)
theorem Hl {t:Tm} {nm:I3} {n:Int} (h:(t.kids.length:Int)≠n):f8 t nm n=false:=by simp[f8,h]
theorem Zj {l:I6} (h:l.length=2):∃a b,l=[a,b]:=by
 match l,h with
 | [a,b],_=>exact⟨a,b,rfl⟩
theorem fY (m:J3) (rs ns:List ByteArray) (vs:List Int) (hr:rs.length<=1048576) (hkv:ns.length=vs.length):∀(n:Nat) (t:Tm),t.size<=n->t.size<=1099511627776 ->
  pc Q I4 [.agg [sl m 1 (rs.map .str),.vm (ns.map .str) (vs.map (.int .i64))],B7 t]=some (.int .i64 (o6 ns rs t)):=by
 intro n
 induction n with
 |zero=>intro t h;have:=t.size_pos;omega
 |succ n ih =>
  intro t hn hb;have I9:=t.kids_size;have B8:=Tm.length_le t.kids;have hkids:∀l:List Tm,(∀a∈l,a∈t.kids)->∀a∈l,pc Q I4 [.agg [sl m 1 (rs.map .str),.vm (ns.map .str) (vs.map (.int .i64))],B7 a]=some (.int .i64 (o6 ns rs a)) :=
   λl hs a ha=>ih a (by have:=Tm.size_le (hs a ha);omega) (by have:=Tm.size_le (hs a ha);omega)
  have KB:=λ(m':Bool×Bool) (l:List Tm) (hs:∀a∈l,a∈t.kids) (hl:l.length<=1099511627776)=>iL m rs ns vs m' l hl (hkids l hs);clear ih hkids;have hE:=QA ns rs t;have p1:=TG t (bs [112,97,105,114]) 2;have p2:=TG t (bs [101,110,99]) 2;have p3:=TG t (bs [104,97,115,104]) 1;have p4:=TG t (bs [97,101,110,99]) 2;have p5:=TG t (bs [115,105,103,110]) 2;have p6:=Wr m rs (ns.map .str) (vs.map (.int .i64)) hr t;have p7:=TG t (bs [115,104,107]) 2;generalize o6 ns rs t=v at *
  refine O2 G4 λfr hl h0 h1=>?_;simp[G4]at hl h0 h1;by_cases hk:t.kind=3
  .rw[if_neg (by simp[hk])]at hE;have key:∀(m':Bool×Bool) (l:List Tm) (E1:Fr) (h:AH),(∀a∈l,a∈t.kids)->l.length<=1099511627776->v=C9 (o6 ns rs) l->E1.length=98->A0 E1 2=.ptr 0 0->A0 E1 85=sl m' 4 (A4 l)->A0 E1 86=.int .i64 l.length->A0 E1 87=.int .i64 0->(∃b1,h.boxes=[[sl m 1 (rs.map .str),.vm (ns.map .str) (vs.map (.int .i64))],b1]) ->
     B9 (lp (A3 (L5 Q) (E5 I4) S0) (E1,h)) (BL 1 (SQ (L5 Q) (E5 I4) (.seq (.region false [⟨some 4,.mov (.c (.int .i64 0)),none⟩]) .ret) (eN [.tmp 4] (.int .i64 v)))):=by
    rintro m' l E1 h hs hll rfl hl q2 q85 q86 q87 ⟨b1,hb⟩;refine B9.mono (KB m' l hs hll b1 E1 h hb hl q2 q85 q86 q87) ?_;rintro e V8 h2 ⟨K,⟨rfl,hz⟩|⟨rfl,k4⟩⟩
    .have GI:=K.1.trans hl;simp[GI,hz]
    .simp[k4]
   by_cases h2:t.kids.length=2
   .obtain⟨x,y,hxy⟩:=Zj h2;have n0:Jb (A4 t.kids) 0=some (B7 x):=by rw[hxy];rfl
    have n1:Jb (A4 t.kids) 1=some (B7 y):=by rw[hxy];rfl
    have s1:=bY ⟨[[sl m 1 (rs.map .str),.vm (ns.map .str) (vs.map (.int .i64))],[.int .i64 t.kind,.str t.name,.int .i64 t.sort,sl t.cm 4 (A4 t.kids)]],[]⟩ t.cm 4 (by omega) (A4 t.kids) 1 (by simp[h2]);rw[show ((1:Nat):Int)=1 from rfl]at s1;have c1:=Wr m rs (ns.map .str) (vs.map (.int .i64)) hr y;have c2:=Ux m rs (ns.map .str) (vs.map (.int .i64)) hr y;have c3:=YW m rs (ns.map .str) (vs.map (.int .i64)) hr x;have c4:=YW m rs (ns.map .str) (vs.map (.int .i64)) hr y;have f1:OA (Ft rs) t.kids=Ft rs y:=by rw[hxy];rfl
    have f2:OA (BU rs) t.kids=BU rs y:=by rw[hxy];rfl
    have f3:Qj (BG rs) t.kids=BG rs x:=by rw[hxy];rfl
    have f4:OA (BG rs) t.kids=BG rs y:=by rw[hxy];rfl
    have f5:nY t.kids=decide (x.name≠y.name):=by rw[hxy];rfl
    have b3:f8 t (bs [104,97,115,104]) 1=false:=Hl (by omega);have b6:Ft rs t=false:=by simp[Ft,Hl (show (t.kids.length:Int)≠1 by omega)]
    simp only[Hb,Sh,b3,b6,f1,f2,f3,f4,f5]at hE p3 p6;clear f1 f2 f3 f4 f5 b3 b6 KB;have ex1:∀{a b:ByteArray},a≠b->f8 t a 2=true->f8 t b 2=false:=λOW ha=>by
     simp only[f8,A0Q,decide_eq_true_eq]at ha;simp[f8,ha.1.2,OW]
    have x45:=ex1 (a:=bs [97,101,110,99]) (b:=bs [115,105,103,110]) (by decide);have x47:=ex1 (a:=bs [97,101,110,99]) (b:=bs [115,104,107]) (by decide);have x57:=ex1 (a:=bs [115,105,103,110]) (b:=bs [115,104,107]) (by decide);clear ex1;generalize f8 t (bs [112,97,105,114]) 2=b1 at *
    generalize f8 t (bs [101,110,99]) 2=b2 at *
    generalize f8 t (bs [97,101,110,99]) 2=b4 at *
    generalize f8 t (bs [115,105,103,110]) 2=b5 at *
    generalize f8 t (bs [115,104,107]) 2=b7 at *
    generalize Ft rs y=e1 at *
    generalize BU rs y=e2 at *
    generalize BG rs x=e3 at *
    generalize BG rs y=e4 at *
    have t2:t.kids.take 2=t.kids:=A0E (by omega);cases b1 with
    |true =>
     simp[t2]at hE;simp[G4,hl,h0,h1,B6 hk,p1];exact key t.cm t.kids _ _ (λ_ h=>h) (by omega) hE (by simp[hl]) (by simp[hl]) (by simp[hl]) (by simp[hl]) (by simp[hl]) ⟨_,rfl⟩
    |false =>
     cases b2 with
     |true =>
      simp[t2]at hE;simp[G4,hl,h0,h1,B6 hk,p1,p2];exact key t.cm t.kids _ _ (λ_ h=>h) (by omega) hE (by simp[hl]) (by simp[hl]) (by simp[hl]) (by simp[hl]) (by simp[hl]) ⟨_,rfl⟩
     |false =>
      cases b4 with
      |true =>
       obtain rfl:=x45 rfl;obtain rfl:=x47 rfl;cases e1 with
       |true =>
        simp at hE;simp[G4,hl,h0,h1,B6 hk,p1,p2,p3,p4,n1,c1,s1];exact key _ _ _ _ (λq h=>A0O h) (by rw[A0R];omega) hE (by simp[hl]) (by simp[hl]) (by simp[hl,D6];rfl) (by simp[hl]) (by simp[hl]) ⟨_,rfl⟩
       |false =>
        simp at hE;subst hE;simp[G4,hl,h0,h1,B6 hk,p1,p2,p3,p4,p5,p6,p7,n1,c1]
      |false =>
       cases b5 with
       |true =>
        obtain rfl:=x57 rfl;cases e2 with
        |true =>
         simp at hE;simp[G4,hl,h0,h1,B6 hk,p1,p2,p3,p4,p5,n1,c2,s1];exact key _ _ _ _ (λq h=>A0O h) (by rw[A0R];omega) hE (by simp[hl]) (by simp[hl]) (by simp[hl,D6];rfl) (by simp[hl]) (by simp[hl]) ⟨_,rfl⟩
        |false =>
         simp at hE;subst hE;simp[G4,hl,h0,h1,B6 hk,p1,p2,p3,p4,p5,p6,p7,n1,c2]
       |false =>
        cases b7 with
        |false =>
         simp at hE;subst hE;simp[G4,hl,h0,h1,B6 hk,p1,p2,p3,p4,p5,p6,p7]
        |true =>
         cases e3 with
         |false =>
          simp at hE;subst hE;simp[G4,hl,h0,h1,B6 hk,p1,p2,p3,p4,p5,p6,p7,n0,c3]
         |true =>
          cases e4 with
          |false =>
           simp at hE;subst hE;simp[G4,hl,h0,h1,B6 hk,p1,p2,p3,p4,p5,p6,p7,n0,n1,c3,c4]
          |true =>
           by_cases hxn:x.name=y.name
           .simp[hxn]at hE;subst hE;simp[G4,hl,h0,h1,B6 hk,p1,p2,p3,p4,p5,p6,p7,n0,n1,c3,c4,B6 hxn]
           .simp[hxn,C9]at hE;subst hE;simp[G4,hl,h0,h1,B6 hk,p1,p2,p3,p4,p5,p6,p7,n0,n1,c3,c4,A2 hxn];exact key (true,false) [] _ _ (λq h=>nomatch h) (by simp) rfl (by simp[hl]) (by simp[hl]) (by simp[hl];exact IN 4) (by simp[hl]) (by simp[hl]) ⟨_,rfl⟩
   .have b1:f8 t (bs [112,97,105,114]) 2=false:=Hl (by omega);have b2:f8 t (bs [101,110,99]) 2=false:=Hl (by omega);have b4:f8 t (bs [97,101,110,99]) 2=false:=Hl (by omega);have b5:f8 t (bs [115,105,103,110]) 2=false:=Hl (by omega);have b7:f8 t (bs [115,104,107]) 2=false:=Hl (by omega);simp only[Hb,Sh,b1,b2,b4,b5,b7]at hE p1 p2 p4 p5 p7;clear b1 b2 b4 b5 b7 KB;have t1:f8 t (bs [104,97,115,104]) 1=true->t.kids.take 1=t.kids:=λh=>by
     obtain⟨a,ha⟩:=UC h;rw[ha];rfl
    generalize f8 t (bs [104,97,115,104]) 1=b3 at *
    generalize Ft rs t=b6 at *
    cases b3 with
    |true =>
     simp[t1 rfl]at hE;simp[G4,hl,h0,h1,B6 hk,p1,p2,p3];exact key t.cm t.kids _ _ (λ_ h=>h) (by omega) hE (by simp[hl]) (by simp[hl]) (by simp[hl]) (by simp[hl]) (by simp[hl]) ⟨_,rfl⟩
    |false =>
     cases b6 with
     |true =>
      simp[C9]at hE;subst hE;simp[G4,hl,h0,h1,B6 hk,p1,p2,p3,p4,p5,p6];exact key (true,false) [] _ _ (λq h=>nomatch h) (by simp) rfl (by simp[hl]) (by simp[hl]) (by simp[hl];exact IN 4) (by simp[hl]) (by simp[hl]) ⟨_,rfl⟩
     |false =>
      simp at hE;subst hE;simp[G4,hl,h0,h1,B6 hk,p1,p2,p3,p4,p5,p6,p7]
  .rw[if_pos hk]at hE;obtain⟨z,hz⟩:=qE ns vs hkv ⟨[[sl m 1 (rs.map .str),.vm (ns.map .str) (vs.map (.int .i64))],[.int .i64 t.kind,.str t.name,.int .i64 t.sort,sl t.cm 4 (A4 t.kids)]],[]⟩ t.name;simp +contextual (maxSteps:=10000000) [G4,hl,h0,h1,hk,hz,hE]
theorem NC (rs seen:List ByteArray) (a:I3) (r:List (ByteArray×Option ByteArray)):X6 rs seen ((a,none)::r)=if LJ seen a false≠0 then LJ seen a false else X6 rs (seen++[a]) r:=by
 rw[X6];simp[tQ]
theorem SN (rs seen:List ByteArray) (a x:I3) (r:List (ByteArray×Option ByteArray)):X6 rs seen ((a,some x)::r)=if LJ seen a true≠0 then LJ seen a true else if rs.any (U3 x)=false then 13 else X6 rs (seen++[a]) r:=by
 rw[X6];rfl
theorem y7 {sz:Nat} {D7:G1} {v:AV} {h:AH} (hg:GT sz D7 v h):v.isTup=false/\v.cells=[v]/\EA [v]=false:=by
 rcases hg with ⟨_,rfl⟩|⟨_,k,rfl,_⟩<;>exact⟨rfl,rfl,rfl⟩
theorem Ya (h:AH) (seen:List ByteArray) (v:AV) (hb:h.boxes[1]?=some [v]) (hg:GT 1 (seen.map .str) v h) (B8:seen.length<=1048576) (a:I3) (f:Bool) :
  ∃w h',rc Q K3 [.str a,.bool f,.ptr 1 0] h=some (w,h')/\w=.int .i64 (LJ seen a f)/\(LJ seen a f=0->∃v',h'.boxes=h.boxes.set 1 [v']/\GT 1 ((seen++[a]).map .str) v' h'):=by
 have hH:pc Q BE [.str a,.str (bs [35])]=some (.bool (OM a)):=sF a 35;obtain⟨m,hm⟩:=XP hg;have hC:=Fp m seen a B8;obtain⟨v',h',ha,f7,Qz⟩:=Gv (c:=E5 K3) (bytes:=16) (x:=.str a) hg rfl (true,true) (by simp;omega) (by simp;omega);have hg2:GT 1 ((seen++[a]).map AV.str) v' h':=by rw[A0B];exact f7
 have hv:=(y7 hg).2.2;obtain⟨c1,c2,c3⟩:=y7 f7;have A7:1<h.boxes.length:=I2 hb;have hE:LJ seen a f=if OM a=true then 2 else if f=true/\(a=bs [101]\/a=bs [103])then 1 else if seen.any (U3 a)=true then 5 else 0:=rfl
 generalize LJ seen a f=z at *
 generalize seen.any (U3 a)=s at *
 generalize OM a=x at *
 refine pj O7 λfr hl h0 h1 h2=>?_;simp[O7]at hl h0 h1 h2;cases x with
 |true =>
  simp at hE;simp[O7,hl,h0,hH,hE]
 |false =>
  cases f with
  |true =>
   by_cases he:a=bs [101]
   .subst he;simp at hE;simp[O7,hl,h0,h1,hH,hE]
   .by_cases hg:a=bs [103]
    .subst hg;simp at hE;simp[O7,hl,h0,h1,hH,hE,A2 he]
    .simp[he,hg]at hE;cases s with
     |true =>
      simp at hE;simp[O7,hl,h0,h1,h2,hH,hE,A2 he,A2 hg,hb,hv,hm,hC]
     |false =>
      simp at hE;subst hE;simp[O7,hl,h0,h1,h2,hH,A2 he,A2 hg,hb,hv,hm,hC,A5,ha,Qz,c1,c2];exact⟨v',rfl,GU f7 rfl⟩
  |false =>
   cases s with
   |true =>
    simp at hE;simp[O7,hl,h0,h1,h2,hH,hE,hb,hv,hm,hC]
   |false =>
    simp at hE;subst hE;simp[O7,hl,h0,h1,h2,hH,hb,hv,hm,hC,A5,ha,Qz,c1,c2];exact⟨v',rfl,GU f7 rfl⟩
theorem iA (m:J3) (rs seen:List ByteArray) (l:List ByteArray) (B8:seen.length+l.length<=1048576) (A:G1) (fr:Fr) (h:AH) (hh:∃v B,h.boxes=A::[v]::B/\GT 1 (seen.map .str) v h) (hl:fr.length=64) (h4:A0 fr 4=.fn K3 [.ptr 1 0]) (h16:A0 fr 16=sl m 1 (l.map .str)) (h17:A0 fr 17=.int .i64 l.length) (h18:A0 fr 18=.int .i64 0) :
  B9 (lp (A3 (L5 Q) (E5 S7) q9) (fr,h)) λe C6 h'=>Kp q9.wr fr C6/\(e=.exit 0/\X6 rs seen (l.map λa=>(a,none))=0/\(∃v B,h'.boxes=A::[v]::B/\GT 1 ((seen++l).map .str) v h')\/e=.ret/\A0 C6 2=.int .i64 (X6 rs seen (l.map λa=>(a,none)))/\X6 rs seen (l.map λa=>(a,none))≠0):=by
 refine B5 rfl fr (λn fr h'=>∃(i:Nat),i+n=l.length/\A0 fr 18=.int .i64 (i:Nat)/\(∃v B,h'.boxes=A::[v]::B/\GT 1 ((seen++l.take i).map .str) v h')/\X6 rs (seen++l.take i) ((l.drop i).map λa=>(a,none))=X6 rs seen (l.map λa=>(a,none))) ?_ l.length h ⟨0,by omega,h18,by simpa using hh,by simp⟩;rintro J Φ hJ hΦ n E1 H1 K ⟨i,hi,k18,hr⟩;have A6:=K.1.trans hl;have k4:=A9 K 4 h4;have k16:=A9 K 16 h16;have k17:=A9 K 17 h17;clear K;by_cases A7:i<l.length
 .have Q6:=D1 i (by omega);obtain⟨⟨v,B,hB,hg⟩,hr⟩:=hr;have hx:=G0 (f:=AV.str) (A0C A7);obtain⟨w,h',hN,hw2,hz⟩:=Ya H1 _ v (by rw[hB];rfl) hg (by simp;omega) l[i] false;subst hw2;rw[A0H A7,A0L]at hr;rw[NC]at hr;by_cases UT:LJ (seen++l.take i) l[i] false=0
  .obtain⟨v',hb',f7⟩:=hz UT;rw[if_neg (by simp[UT])]at hr;simp[q9,A6,k4,k16,k17,k18,A7,Q6,hx,hN,UT];exact G8 hJ ⟨i+1,by omega,by simp[A6],⟨v',B,by rw[hb',hB];rfl,by rw[A0A A7,←A0D];exact f7⟩,by rw[A0A A7,←A0D];exact hr⟩
  .rw[if_pos UT]at hr;simp[q9,A6,k4,k16,k17,k18,A7,hx,hN,UT];exact hΦ _ _ _ (.inr ⟨rfl,by simp[A6,hr],by rw[←hr];exact UT⟩)
 .obtain⟨hh',hr⟩:=hr;rw[A0I (by omega)]at hr;rw[A0E (by omega)]at hr hh';simp only[A0G,X6]at hr;simp[q9,A6,k17,k18,A7];exact hΦ _ _ _ (.inl ⟨rfl,hr.symm,hh'⟩)
theorem gy (m:J3) (rs seen:List ByteArray) (l:List ByteArray) (B8:seen.length+l.length<=1048576) (A:G1) (fr:Fr) (h:AH) (hh:∃v B,h.boxes=A::[v]::B/\GT 1 (seen.map .str) v h) (hl:fr.length=64) (h4:A0 fr 4=.fn K3 [.ptr 1 0]) (h51:A0 fr 51=sl m 1 (l.map .str)) (h52:A0 fr 52=.int .i64 l.length) (h53:A0 fr 53=.int .i64 0) :
  B9 (lp (A3 (L5 Q) (E5 S7) q8) (fr,h)) λe C6 h'=>Kp q8.wr fr C6/\(e=.exit 4/\X6 rs seen (l.map λa=>(a,none))=0/\(∃v B,h'.boxes=A::[v]::B/\GT 1 ((seen++l).map .str) v h')\/e=.ret/\A0 C6 2=.int .i64 (X6 rs seen (l.map λa=>(a,none)))/\X6 rs seen (l.map λa=>(a,none))≠0):=by
 refine B5 rfl fr (λn fr h'=>∃(i:Nat),i+n=l.length/\A0 fr 53=.int .i64 (i:Nat)/\(∃v B,h'.boxes=A::[v]::B/\GT 1 ((seen++l.take i).map .str) v h')/\X6 rs (seen++l.take i) ((l.drop i).map λa=>(a,none))=X6 rs seen (l.map λa=>(a,none))) ?_ l.length h ⟨0,by omega,h53,by simpa using hh,by simp⟩;rintro J Φ hJ hΦ n E1 H1 K ⟨i,hi,k53,hr⟩;have A6:=K.1.trans hl;have k4:=A9 K 4 h4;have k51:=A9 K 51 h51;have k52:=A9 K 52 h52;clear K;by_cases A7:i<l.length
 .have Q6:=D1 i (by omega);obtain⟨⟨v,B,hB,hg⟩,hr⟩:=hr;have hx:=G0 (f:=AV.str) (A0C A7);obtain⟨w,h',hN,hw2,hz⟩:=Ya H1 _ v (by rw[hB];rfl) hg (by simp;omega) l[i] false;subst hw2;rw[A0H A7,A0L]at hr;rw[NC]at hr;by_cases UT:LJ (seen++l.take i) l[i] false=0
  .obtain⟨v',hb',f7⟩:=hz UT;rw[if_neg (by simp[UT])]at hr;simp[q8,A6,k4,k51,k52,k53,A7,Q6,hx,hN,UT];exact G8 hJ ⟨i+1,by omega,by simp[A6],⟨v',B,by rw[hb',hB];rfl,by rw[A0A A7,←A0D];exact f7⟩,by rw[A0A A7,←A0D];exact hr⟩
  .rw[if_pos UT]at hr;simp[q8,A6,k4,k51,k52,k53,A7,hx,hN,UT];exact hΦ _ _ _ (.inr ⟨rfl,by simp[A6,hr],by rw[←hr];exact UT⟩)
 .obtain⟨hh',hr⟩:=hr;rw[A0I (by omega)]at hr;rw[A0E (by omega)]at hr hh';simp only[A0G,X6]at hr;simp[q8,A6,k52,k53,A7];exact hΦ _ _ _ (.inl ⟨rfl,hr.symm,hh'⟩)
end Go.Abs.Q
