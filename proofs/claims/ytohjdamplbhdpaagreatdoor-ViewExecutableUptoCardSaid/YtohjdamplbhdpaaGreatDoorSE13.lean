/- A part of the proof. -/
import Derived.Test.YtohjdamplbhdpaaGreatDoorSE12
set_option linter.all false
open List renaming getElem?_eq_getElem->A0Z,take_succ_eq_append_getElem->A0b,getElem?_append_right->A0c,map_append->A0d,getElem_mem->A0e,take_of_length_le->A0f,map_cons->A0g,getElem?_append_left->A0h,map_nil->A0j,append_assoc->A0l,drop_eq_getElem_cons->A0m,getElem?_eq_some_iff->A0n,drop_eq_nil_of_le->A0p,getElem?_map->A0q,getD_eq_getElem?_getD->A0s,getElem!_eq_getElem?_getD->A0u,getElem?_set_ne->A0v,eq_nil_of_length_eq_zero->A0w,getElem?_eq_none->A01,mem_of_getElem?->A02,map_take->A03,all_eq_true->A04,any_append->A05,length_map->A06,mem_map->A08,range->A1B
open Bool renaming and_eq_true->A0a,false_eq_true->A0x,true_or->A07
open Nat renaming le_refl->A0i,mul_comm->A0z,le_of_eq->A09,zero_le->A1A
open Option renaming bind_some->A0k,map_some->A00
open Array renaming range->A0o,getD_eq_getD_getElem?->A0r,getElem?_eq_getElem->A0t,getElem?_append_left->A0y
namespace Go.Abs.Q
open Go.Proofs
attribute [local simp] E6 E8 fin K1 H2 R4 R3 E5
theorem jR (m:I6) (ns:List ByteArray) (j:Nat) (a:J1) (ha:ns[j]?=some a) (hs:a.size<=1099511627776) (fr:Fr) (h:AH) (hl:fr.length=92) (h3:A0 fr 3=sl m 1 (ns.map .str)) (h5:A0 fr 5=.int .i64 (j:Nat)) (h7:A0 fr 7=.int .i64 0) :
  B6 (lp (A2 (K8 Q) (D6 EK) AD) (fr,h)) λe C3 h'=>Kp AD.wr fr C3/\(e=.exit 2/\h'=h/\Qn a=false\/e=.ret/\A0 C3 2=.int .i64 2/\Qn a=true):=by
 refine A9 rfl fr (λn fr h'=>∃(i:Nat),i+n=(M3 a).length/\A0 fr 7=.int .i64 (i:Nat)/\h'=h/\((M3 a).drop i).contains 35=Qn a) ?_ (M3 a).length h ⟨0,by omega,h7,rfl,rfl⟩;rintro J Φ hJ hΦ n D4 H1 K ⟨i,hi,k7,hr⟩;have A6:=K.1.trans hl;have k3:=A8 K 3 h3;have k5:=A8 K 5 h5;clear K;by_cases A7:i<(M3 a).length
 .have J4:=K7 a;have L3:=C6 i (by omega);obtain⟨rfl,hr⟩:=hr;have hx:=G1 (f:=AV.str) ha;have u5:i<a.size:=by omega
  have HU:a[i]'u5=(M3 a)[i]:=by
   have:=GV a i;rw[getElem?_pos a i u5,A0Z A7]at this;exact Option.some.inj this
  rw[A0m A7,List.contains_cons]at hr;generalize (M3 a)[i]=c at *
  by_cases hc:c=35
  .subst hc;simp[AD,A6,k3,k5,k7,hx,u5,HU];exact hΦ _ _ _ (.inr ⟨rfl,by simp[A6],by rw[←hr];rfl⟩)
  .have hc':¬(c.toNat:Int)=35:=λh=>hc (UInt8.toNat_inj.1 (by have:(35:UInt8).toNat=35:=rfl;omega));have hb:(35 == c)=false:=by simp;exact λh=>hc h.symm
   rw[hb,Bool.false_or]at hr;simp[AD,A6,k3,k5,k7,L3,hx,u5,HU,hc'];exact G0 hJ ⟨i+1,by omega,by simp[A6],rfl,hr⟩
 .have J4:=K7 a;obtain⟨rfl,hr⟩:=hr;rw[A0p (by omega)]at hr;have hx:=G1 (f:=AV.str) ha;have u5:¬i<a.size:=by omega
  simp[AD,A6,k3,k5,k7,hx,u5];exact hΦ _ _ _ (.inl ⟨rfl,rfl,hr.symm⟩)
theorem uv (na:Nar) {i:Nat} (hi:i<(B5 na).length):∃f,(XT na)[i]?=some ((B5 na)[i],f) /\
  ((i<na.roles.length/\f=none)\/(na.roles.length<=i/\∃h:i-na.roles.length<na.fresh.length,f=some (na.fresh[i-na.roles.length]).role)\/(na.roles.length+na.fresh.length<=i/\f=none)):=by
 have hn:(B5 na)[i]?=some (B5 na)[i]:=A0Z hi;generalize (B5 na)[i]=a at *
 unfold B5 at hn hi;unfold XT;by_cases h1:i<na.roles.length
 .rw[A0l,A0h h1]at hn;refine⟨none,?_,.inl ⟨h1,rfl⟩⟩;rw[A0l,A0h (by simpa using h1),A0q,hn];rfl
 .by_cases h2:i-na.roles.length<na.fresh.length
  .rw[A0l,A0c (by omega),A0h (by simpa using h2),A0q,A0Z h2]at hn;simp only[A00,Option.some.injEq]at hn;subst hn;refine⟨some (na.fresh[i-na.roles.length]).role,?_,.inr (.inl ⟨by omega,h2,rfl⟩)⟩;rw[A0l,A0c (by simp;omega),A06,A0h (by simpa using h2),A0q,A0Z h2];rfl
  .rw[A0l,A0c (by omega),A0c (by simp;omega)]at hn;refine⟨none,?_,.inr (.inr ⟨by omega,rfl⟩)⟩;rw[A0l,A0c (by simp;omega),A0c (by simp;omega)];simp only[A06,A0q]at hn ⊢;rw[hn];rfl
theorem qw {α:Type} {l:List α} {i:Nat} {x:α} (h:l[i]?=some x):l.drop i=x::l.drop (i+1):=by
 obtain⟨h1,h2⟩:=A0n.1 h;subst h2;exact A0m h1
theorem jS (m:I6) (na:Nar) (S:Lens na) (hs:∀a∈B5 na,a.size<=1099511627776) (fr:Fr) (h:AH) (hh:h=⟨[(G4 na).cells],[]⟩) (hl:fr.length=92) (h1:A0 fr 1=.ptr 0 0) (h3:A0 fr 3=sl m 1 ((B5 na).map .str)) (h5:A0 fr 5=.int .i64 0) :
  B6 (lp (A2 (K8 Q) (D6 EK) Y9) (fr,h)) λe C3 h'=>Kp Y9.wr fr C3/\(e=.exit 0/\IM na=0\/e=.ret/\A0 C3 2=.int .i64 (IM na)):=by
 refine A9 rfl fr (λn fr h'=>∃(i:Nat),i+n=(B5 na).length/\A0 fr 5=.int .i64 (i:Nat)/\h'=⟨[(G4 na).cells],[]⟩/\d8 na.roles ((B5 na).take i) ((XT na).drop i)=IM na) ?_ (B5 na).length h ⟨0,by omega,h5,hh,rfl⟩;rintro J Φ hJ hΦ n D4 H1 K ⟨i,hi,k5,hr⟩;have A6:=K.1.trans hl;have k1:=A8 K 1 h1;have k3:=A8 K 3 h3;clear K;by_cases A7:i<(B5 na).length
 .have s0:=S.names;have hnl:(B5 na).length=na.roles.length+na.fresh.length+na.tags.length:=by simp[B5];omega
  have L3:=C6 i (by omega);obtain⟨rfl,hr⟩:=hr;have hx:=G1 (f:=AV.str) (A0Z A7);obtain⟨f,hg,hf⟩:=uv na A7;rw[qw hg]at hr;have Xa:=A0Z A7;have J4:=hs _ (A0e A7);have Gl:=jR m (B5 na) i (B5 na)[i] Xa J4;have Wn:=gd ⟨[(G4 na).cells],[]⟩ m 1 (by omega) ((B5 na).map .str) i (by simp;omega);obtain⟨m2,Wn⟩:∃m2,Yh ⟨[(G4 na).cells],[]⟩ 1 (sl m 1 ((B5 na).map .str)) (some none) (some (some (i:Int))) (some none)=some (sl m2 1 (((B5 na).take i).map .str),⟨[(G4 na).cells],[]⟩):=⟨_,by rw[Wn,A03]⟩;rw[E5,A03]at Wn;have hI:=Hh m2 ((B5 na).take i) (B5 na)[i] (by rw[List.length_take];omega);rw[A03]at hI;have hge:=bh (B5 na)[i] ((B5 na).take i);have hnx:∀b,NP ((B5 na).take i) (B5 na)[i] b=if Qn (B5 na)[i]=true then 2 else if b=true/\((B5 na)[i]=bs [101]\/(B5 na)[i]=bs [103])then 1 else if ((B5 na).take i).any (U7 (B5 na)[i])=true then 5 else 0:=λ_=>rfl
  have htk:(B5 na).take i++[(B5 na)[i]]=(B5 na).take (i+1):=by rw[A0b A7]
  generalize (B5 na)[i]=a at *
  generalize hP:((B5 na).take i).any (U7 a)=pb at *
  generalize hD:IM na=D at *
  have i1:pb=true->0<=idx (U7 a) ((B5 na).take i):=λh=>hge.2 h;have i2:pb=false->¬0<=idx (U7 a) ((B5 na).take i):=λh h'=>by rw[h]at hge;exact nomatch (hge.1 h')
  clear hge;rcases hf with ⟨c1,rfl⟩|⟨c1,c2,rfl⟩|⟨c1,rfl⟩
  .have d1:¬(na.roles.length:Int)<=(i:Int):=by omega
   rw[PW,htk,hnx]at hr;simp only[A0x,false_and,if_false]at hr;simp[Y9,A6,k1,k3,k5,A7,A3 (show ¬na.roles.length<=i by omega)];refine B6.mono (Gl _ _ ?_ ?_ ?_ ?_) ?_<;>first|(simp[A6,k3,k5];done)|skip
   rintro e Q6 h2 ⟨K,⟨rfl,rfl,hh2⟩|⟨rfl,k2,hh2⟩⟩
   .have T6:Q6.length=92:=K.1.trans (by simp[A6]);have k1fr2:A0 Q6 1=.ptr 0 0:=A8 K 1 (by simp[k1]);have k3fr2:A0 Q6 3=sl m 1 ((B5 na).map .str):=A8 K 3 (by simp[k3]);have k5fr2:A0 Q6 5=.int .i64 (i:Nat):=A8 K 5 (by simp[k5]);have k6fr2:A0 Q6 6=.bool false:=A8 K 6 (by simp[A6]);clear K;rw[hh2]at hr;cases pb with
    |true =>
     simp at hr;simp[T6,k3fr2,k5fr2,k6fr2,hx,Wn,hI,B7 (i1 rfl)];exact hΦ _ _ _ (.inr ⟨rfl,by simp[T6,hr]⟩)
    |false =>
     simp at hr;simp[T6,k3fr2,k5fr2,k6fr2,hx,Wn,hI,A3 (i2 rfl),L3];exact G0 hJ ⟨i+1,by omega,by simp[T6],by rw[E5],hr⟩
   .rw[hh2]at hr;simp at hr;simp;exact hΦ _ _ _ (.inr ⟨rfl,by rw[k2,hr]⟩)
  .have d1:(na.roles.length:Int)<=(i:Int):=by omega
   have w1:IntKind.i64.wrap ((na.roles.length:Int)+(na.fresh.length:Int))=(na.roles.length:Int)+(na.fresh.length:Int):=W8 (by omega) (by omega);have w2:IntKind.i64.wrap ((i:Int)-(na.roles.length:Int))=(i:Int)-(na.roles.length:Int):=W8 (by omega) (by omega);have d2:(i:Int)<(na.roles.length:Int)+(na.fresh.length:Int):=by omega
   have hfx:=G1 (f:=Lz) (A0Z c2);have ei:((i:Int)-(na.roles.length:Int)).toNat=i-na.roles.length:=by omega
   have hC:=Hh na.rm na.roles (na.fresh[i-na.roles.length]).role (by omega);have hlt2:=SZ (na.fresh[i-na.roles.length]).role na.roles;have d3:(0:Int)<=(i:Int)-(na.roles.length:Int):=by omega
   rw[VN,htk,hnx]at hr;generalize na.fresh[i-na.roles.length]=fx at *
   generalize na.roles.any (U7 fx.role)=rb at *
   have r1:rb=true->¬idx (U7 fx.role) na.roles<0:=λh h'=>by rw[h]at hlt2;exact nomatch (hlt2.1 h')
   simp[Y9,A6,k1,k3,k5,A7,B7 (show na.roles.length<=i by omega),w1,B7 d2];refine B6.mono (Gl _ _ ?_ ?_ ?_ ?_) ?_<;>first|(simp[A6,k3,k5];done)|skip
   rintro e Q6 h2 ⟨K,⟨rfl,rfl,hh2⟩|⟨rfl,k2,hh2⟩⟩
   .have T6:Q6.length=92:=K.1.trans (by simp[A6]);have k1fr2:A0 Q6 1=.ptr 0 0:=A8 K 1 (by simp[k1]);have k3fr2:A0 Q6 3=sl m 1 ((B5 na).map .str):=A8 K 3 (by simp[k3]);have k5fr2:A0 Q6 5=.int .i64 (i:Nat):=A8 K 5 (by simp[k5]);have k6fr2:A0 Q6 6=.bool true:=A8 K 6 (by simp[A6]);clear K;rw[hh2]at hr;by_cases he:a=bs [101]
    .rw[if_neg (c:=false=true) (by simp),if_pos (c:=true=true/\(a=bs [101]\/a=bs [103])) ⟨rfl,.inl he⟩]at hr;simp at hr;simp[T6,k3fr2,k5fr2,k6fr2,hx,B7 he];exact hΦ _ _ _ (.inr ⟨rfl,by simp[T6,hr]⟩)
    by_cases he2:a=bs [103]
    .rw[if_neg (c:=false=true) (by simp),if_pos (c:=true=true/\(a=bs [101]\/a=bs [103])) ⟨rfl,.inr he2⟩]at hr;simp at hr;simp[T6,k3fr2,k5fr2,k6fr2,hx,A3 he,B7 he2];exact hΦ _ _ _ (.inr ⟨rfl,by simp[T6,hr]⟩)
    simp only[he,he2,or_self,and_false,A0x,if_false]at hr;cases pb with
    |true =>
     simp at hr;simp[T6,k3fr2,k5fr2,k6fr2,hx,A3 he,A3 he2,Wn,hI,B7 (i1 rfl)];exact hΦ _ _ _ (.inr ⟨rfl,by simp[T6,hr]⟩)
    |false =>
     cases rb with
     |true =>
      simp at hr;simp[T6,k1fr2,k3fr2,k5fr2,k6fr2,hx,A3 he,A3 he2,Wn,hI,A3 (i2 rfl),L3,w2,hfx,ei,c1,hC,A3 (r1 rfl)];exact G0 hJ ⟨i+1,by omega,by simp[T6],by rw[E5],hr⟩
     |false =>
      simp at hr;simp[T6,k1fr2,k3fr2,k5fr2,k6fr2,hx,A3 he,A3 he2,Wn,hI,A3 (i2 rfl),w2,hfx,ei,c1,hC,B7 (hlt2.2 rfl)];exact hΦ _ _ _ (.inr ⟨rfl,by simp[T6,hr]⟩)
   .rw[hh2]at hr;simp at hr;simp;exact hΦ _ _ _ (.inr ⟨rfl,by rw[k2,hr]⟩)
  .have d1:(na.roles.length:Int)<=(i:Int):=by omega
   have w1:IntKind.i64.wrap ((na.roles.length:Int)+(na.fresh.length:Int))=(na.roles.length:Int)+(na.fresh.length:Int):=W8 (by omega) (by omega);have d2:¬(i:Int)<(na.roles.length:Int)+(na.fresh.length:Int):=by omega
   rw[PW,htk,hnx]at hr;simp only[A0x,false_and,if_false]at hr;simp[Y9,A6,k1,k3,k5,A7,B7 (show na.roles.length<=i by omega),w1,A3 d2];refine B6.mono (Gl _ _ ?_ ?_ ?_ ?_) ?_<;>first|(simp[A6,k3,k5];done)|skip
   rintro e Q6 h2 ⟨K,⟨rfl,rfl,hh2⟩|⟨rfl,k2,hh2⟩⟩
   .have T6:Q6.length=92:=K.1.trans (by simp[A6]);have k1fr2:A0 Q6 1=.ptr 0 0:=A8 K 1 (by simp[k1]);have k3fr2:A0 Q6 3=sl m 1 ((B5 na).map .str):=A8 K 3 (by simp[k3]);have k5fr2:A0 Q6 5=.int .i64 (i:Nat):=A8 K 5 (by simp[k5]);have k6fr2:A0 Q6 6=.bool false:=A8 K 6 (by simp[A6]);clear K;rw[hh2]at hr;cases pb with
    |true =>
     simp at hr;simp[T6,k3fr2,k5fr2,k6fr2,hx,Wn,hI,B7 (i1 rfl)];exact hΦ _ _ _ (.inr ⟨rfl,by simp[T6,hr]⟩)
    |false =>
     simp at hr;simp[T6,k3fr2,k5fr2,k6fr2,hx,Wn,hI,A3 (i2 rfl),L3];exact G0 hJ ⟨i+1,by omega,by simp[T6],by rw[E5],hr⟩
   .rw[hh2]at hr;simp at hr;simp;exact hΦ _ _ _ (.inr ⟨rfl,by rw[k2,hr]⟩)
 .obtain⟨rfl,hr⟩:=hr;have Uz:(XT na).length=(B5 na).length:=by simp[XT,B5]
  rw[A0p (by omega)]at hr;simp only[d8]at hr;simp[Y9,A6,k3,k5,A7];exact hΦ _ _ _ (.inl ⟨rfl,hr.symm⟩)
theorem cl (na:Nar) (F:Fine na) (S:Lens na):pc Q EK [G4 na]=some (.int .i64 (IM na)):=by
 have s0:=S.names;obtain⟨r,hNm,m,m',rfl⟩:=YB na ⟨by omega,by omega,by omega⟩;unfold DS at hNm;have Gl:=jS m na S (λa ha=>by
  unfold B5 at ha;simp only[List.mem_append,A08]at ha;rcases ha with (ha|⟨f,hf,rfl⟩)|ha
  .exact F.roles a ha
  .exact(F.fresh f hf).2
  .exact F.tags a ha)
 generalize IM na=D at *
 refine H6 LE λfr hl h0=>?_;simp[LE]at hl h0;simp[LE,hl,h0,hNm];refine B6.mono (Gl _ _ ?_ ?_ ?_ ?_ ?_) ?_<;>first|(simp[hl];done)|skip
 rintro e D4 DD ⟨K,⟨rfl,hz⟩|⟨rfl,k4⟩⟩
 .have J3:D4.length=92:=K.1.trans (by simp[hl]);clear K;simp[J3,hz]
 .simp[k4]
end Go.Abs.Q
namespace Go.Abs.Q
open Go.Proofs
attribute [local simp] E6 E8 fin K1 H2 E5
theorem jP (na:Nar) (ns rs:List ByteArray) (B8:na.steps.length<=1099511627776) (IH:∀s∈na.steps,pc Q Mg [G4 na,EP s]=some (.int .i64 (HD ns rs s))) (fr:Fr) (h:AH) (hh:h=⟨[(G4 na).cells],[]⟩) (hl:fr.length=66) (h1:A0 fr 1=.ptr 0 0) (h6:A0 fr 6=.int .i64 0) :
  B6 (lp (A2 (K8 Q) (D6 IT) Cn) (fr,h)) λe C3 h'=>Kp Cn.wr fr C3/\(e=.exit 0/\h'=h/\S9 (HD ns rs) Ste.line na.steps=(0,0)\/e=.ret/\A0 C3 2=.int .i64 (S9 (HD ns rs) Ste.line na.steps).1/\A0 C3 3=.int .i64 (S9 (HD ns rs) Ste.line na.steps).2/\S9 (HD ns rs) Ste.line na.steps≠(0,0)):=by
 refine A9 rfl fr (λn fr h'=>∃(i:Nat),i+n=na.steps.length/\A0 fr 6=.int .i64 (i:Nat)/\h'=⟨[(G4 na).cells],[]⟩/\S9 (HD ns rs) Ste.line (na.steps.drop i)=S9 (HD ns rs) Ste.line na.steps) ?_ na.steps.length h ⟨0,by omega,h6,hh,rfl⟩;rintro J Φ hJ hΦ n D4 H1 K ⟨i,hi,k6,hr⟩;have A6:=K.1.trans hl;have k1:=A8 K 1 h1;clear K;by_cases A7:i<na.steps.length
 .have L3:=C6 i (by omega);obtain⟨rfl,hr⟩:=hr;have hx:=G1 (f:=EP) (A0Z A7);have hI:=IH na.steps[i] (A0e A7);rw[A0m A7]at hr;simp only[S9]at hr;generalize na.steps[i]=t at *
  generalize HD ns rs t=z at *
  generalize hgl:S9 (HD ns rs) Ste.line na.steps=L at *
  by_cases hz:z=0
  .rw[if_neg (by simp[hz])]at hr;simp[Cn,A6,k1,k6,A7,L3,hx,hI,hz];exact G0 hJ ⟨i+1,by omega,by simp[A6],by simp[E5],hr⟩
  .rw[if_pos hz]at hr;simp[Cn,A6,k1,k6,A7,hx,hI,hz];exact hΦ _ _ _ (.inr ⟨rfl,by simp[A6,←hr],by simp[A6,←hr],by simp[←hr,hz]⟩)
 .obtain⟨rfl,hr⟩:=hr;rw[A0p (by omega)]at hr;simp[Cn,A6,k1,k6,A7];exact hΦ _ _ _ (.inl ⟨rfl,by rw[hh,E5],hr.symm⟩)
theorem jO (na:Nar) (ns rs:List ByteArray) (B8:na.goals.length<=1099511627776) (IH:∀s∈na.goals,pc Q FL [G4 na,Ey s]=some (.int .i64 (JA ns rs s))) (fr:Fr) (h:AH) (hh:h=⟨[(G4 na).cells],[]⟩) (hl:fr.length=66) (h1:A0 fr 1=.ptr 0 0) (h8:A0 fr 8=.int .i64 0) :
  B6 (lp (A2 (K8 Q) (D6 IT) Cm) (fr,h)) λe C3 h'=>Kp Cm.wr fr C3/\(e=.exit 2/\S9 (JA ns rs) Gol.line na.goals=(0,0)\/e=.ret/\A0 C3 2=.int .i64 (S9 (JA ns rs) Gol.line na.goals).1/\A0 C3 3=.int .i64 (S9 (JA ns rs) Gol.line na.goals).2):=by
 refine A9 rfl fr (λn fr h'=>∃(i:Nat),i+n=na.goals.length/\A0 fr 8=.int .i64 (i:Nat)/\h'=⟨[(G4 na).cells],[]⟩/\S9 (JA ns rs) Gol.line (na.goals.drop i)=S9 (JA ns rs) Gol.line na.goals) ?_ na.goals.length h ⟨0,by omega,h8,hh,rfl⟩;rintro J Φ hJ hΦ n D4 H1 K ⟨i,hi,k8,hr⟩;have A6:=K.1.trans hl;have k1:=A8 K 1 h1;clear K;by_cases A7:i<na.goals.length
 .have L3:=C6 i (by omega);obtain⟨rfl,hr⟩:=hr;have hx:=G1 (f:=Ey) (A0Z A7);have hI:=IH na.goals[i] (A0e A7);rw[A0m A7]at hr;simp only[S9]at hr;generalize na.goals[i]=t at *
  generalize JA ns rs t=z at *
  generalize hgl:S9 (JA ns rs) Gol.line na.goals=L at *
  by_cases hz:z=0
  .rw[if_neg (by simp[hz])]at hr;simp[Cm,A6,k1,k8,A7,L3,hx,hI,hz];exact G0 hJ ⟨i+1,by omega,by simp[A6],by simp[E5],hr⟩
  .rw[if_pos hz]at hr;simp[Cm,A6,k1,k8,A7,hx,hI,hz];exact hΦ _ _ _ (.inr ⟨rfl,by simp[A6,←hr],by simp[A6,←hr]⟩)
 .obtain⟨rfl,hr⟩:=hr;rw[A0p (by omega)]at hr;simp[Cm,A6,k1,k8,A7];exact hΦ _ _ _ (.inl ⟨rfl,hr.symm⟩)
theorem pH (n:Nar) (F:Fine n) (S:Lens n):pc Q IT [G4 n]=some (.tup [.int .i64 (Y0 n).1,.int .i64 (Y0 n).2]):=by
 have hV:=YO n F;have hD:=cl n F S;have q1:=jP n (B5 n) n.roles F.stepsL (λs hs=>tE n S s (F.steps s hs).2.2);have q2:=jO n (B5 n) n.roles F.goalsL (λg hg=>tC n S g (F.goals g hg).2.2);have hE:Y0 n=if Pe n≠0 then (0,Pe n)else if IM n≠0 then (0,IM n)
  else if S9 (HD (B5 n) n.roles) Ste.line n.steps≠(0,0)then S9 (HD (B5 n) n.roles) Ste.line n.steps else S9 (JA (B5 n) n.roles) Gol.line n.goals:=rfl
 generalize Y0 n=z at *
 generalize Pe n=e1 at *
 generalize IM n=e2 at *
 generalize S9 (HD (B5 n) n.roles) Ste.line n.steps=L1 at *
 generalize S9 (JA (B5 n) n.roles) Gol.line n.goals=L2 at *
 refine H6 Ii λfr hl h0=>?_;simp[Ii]at hl h0;by_cases z1:e1=0
 .rw[if_neg (by simp[z1])]at hE;by_cases z2:e2=0
  .rw[if_neg (by simp[z2])]at hE;simp[Ii,hl,h0,hV,z1,hD,z2];refine B6.mono (q1 _ _ ?_ ?_ ?_ ?_) ?_<;>first|(simp[hl];done)|rfl|skip
   rintro e D4 h1 ⟨K,⟨rfl,rfl,hz⟩|⟨rfl,k2,k3,hz⟩⟩
   .have J3:D4.length=66:=K.1.trans (by simp[hl]);have Fe:A0 D4 1=.ptr 0 0:=A8 K 1 (by simp[hl]);clear K;rw[if_neg (by simp[hz])]at hE;simp;refine B6.mono (q2 _ _ ?_ ?_ ?_ ?_) ?_<;>first|(simp[J3,Fe];done)|rfl|skip
    rintro e Q6 h2 ⟨K,⟨rfl,hz⟩|⟨rfl,k2,k3⟩⟩
    .have T6:Q6.length=66:=K.1.trans (by simp[J3]);clear K;simp[T6,hE,hz]
    .simp[k2,k3,hE]
   .rw[if_pos hz]at hE;simp[k2,k3,hE]
  .rw[if_pos z2]at hE;simp[Ii,hl,h0,hV,z1,hD,z2,hE]
 .rw[if_pos z1]at hE;simp[Ii,hl,h0,hV,z1,hE]
theorem dh {sz:Nat} {acc:G6} {v:AV} {h:AH} (hg:EB sz acc v h):∃m,∀B:List (List AV),Ev ⟨B,h.fams⟩ true v=some (sl m sz acc):=by
 rcases hg with ⟨rfl,rfl⟩|⟨_,k,rfl,h3⟩
 .exact⟨(true,false),λB=>by rw[XV];exact congrArg some (o6 _ rfl _ _)⟩
 .exact⟨_,λB=>Jb (h:=⟨B,h.fams⟩) h3 rfl⟩
mutual
def iD (ns:List ByteArray):Tm->Bool
 | .mk k nm _ _ l=>(decide (k≠2)||ns.any (U7 nm))&&VS ns l
def VS (ns:List ByteArray):List Tm->Bool
 | []=>true
 |t::l=>iD ns t&&VS ns l
end
theorem rR (ns:List ByteArray) {l:G7} (h:VS ns l=true):∀t∈l,iD ns t=true:=by
 induction l with
 |nil=>intro t ht;cases ht
 |cons a l ih =>
  simp only[VS,A0a]at h;intro t ht;rcases List.mem_cons.1 ht with rfl|ht
  .exact h.1
  .exact ih h.2 t ht
@[simp] theorem tm_flatA (t:Tm):OO (B9 t)=true:=by cases t;rfl
theorem fK (na:Nar) (f:ByteArray->Int) (m:I6) (l:G7) (B8:l.length<=1099511627776) (IH:∀t∈l,∃t',pc Q R0 [G4 na,B9 t]=some (B9 t')/\E3 t'=CO f t) (x0 x1 x2:AV) (C:G6) (fr:Fr) (h:AH) (hh:h.boxes=[(G4 na).cells,[x0,x1,x2,sl m 4 (A4 l)],C]) (h7:A0 fr 7=.vs true 0 []) (hl:fr.length=45) (h2:A0 fr 2=.ptr 0 0) (h3:A0 fr 3=.ptr 1 0) (h8:A0 fr 8=.int .i64 0) :
  B6 (lp (A2 (K8 Q) (D6 R0) Ei) (fr,h)) λe C3 h'=>Kp Ei.wr fr C3/\e=.exit 0/\h'.boxes=h.boxes/\∃done:List Tm,EB 4 (A4 done) (A0 C3 7) h'/\H5 done=o7 f l:=by
 refine A9 rfl fr (λn fr h'=>∃(i:Nat),i+n=l.length/\A0 fr 8=.int .i64 (i:Nat)/\h'.boxes=h.boxes/\(∃done:List Tm,EB 4 (A4 done) (A0 fr 7) h'/\H5 done=o7 f (l.take i)/\done.length=i)) ?_ l.length h ⟨0,by omega,h8,rfl,[],by rw[h7];exact DB _ _,by simp[H5,o7],rfl⟩;rintro J Φ hJ hΦ n D4 H1 K ⟨i,hi,k8,hr⟩;have A6:=K.1.trans hl;have k2:=A8 K 2 h2;have k3:=A8 K 3 h3;clear K;by_cases A7:i<l.length
 .have L3:=C6 i (by omega);obtain⟨hB,done,hg,hd,Ds⟩:=hr;obtain⟨bx,fams⟩:=H1;rw[hh]at hB hJ;simp only at hB;subst hB;have hx:=I0 A7;obtain⟨t',hI,ht⟩:=IH l[i] (A0e A7);obtain⟨v',h',ha,d7,Qw⟩:=Al (c:=D6 R0) (bytes:=56) (x:=B9 t') hg rfl (true,true) (by simp;omega) (by simp;omega);have e2:H5 (done++[t'])=o7 f (l.take (i+1)):=by
   rw[A0b A7,E4,A0d,←E4,hd,JR,JR,A0d,A0g,A0j,A0g,A0j,ht]
  have hg2:EB 4 (A4 (done++[t'])) v' h':=by rw[Q0];exact d7
  clear ht hd;generalize l[i]=t at *
  rw[E5]at ha;simp[Ei,A6,k2,k3,k8,A7,L3,hx,hI,A5,ha];exact G0 hJ ⟨i+1,by omega,by simp[A6],by rw[Qw,E5],done++[t'],by simp[A6];exact hg2,e2,by simp[Ds]⟩
 .obtain⟨hB,done,hg,hd,Ds⟩:=hr;obtain⟨bx,fams⟩:=H1;rw[hh]at hB hΦ;simp only at hB;subst hB;rw[A0f (by omega)]at hd;simp[Ei,A6,k3,k8,A7];exact hΦ _ _ _ ⟨rfl,by rw[E5],done,by simp;exact hg,hd⟩
theorem aY (na:Nar) (S:Lens na):∀(n:Nat) (t:Tm),t.size<=n->t.size<=1099511627776->I9 t=0->iD (B5 na) t=true->∃t',pc Q R0 [G4 na,B9 t]=some (B9 t')/\E3 t'=CO (J9 (B5 na) (G2 na)) t:=by
 have s0:=S.names;intro n
 induction n with
 |zero=>intro t h;have:=t.size_pos;omega
 |succ n ih =>
  intro t hn hb P4 hkn;obtain⟨k,nm,s,m,kids⟩:=t;have J4:Tm.size (.mk k nm s m kids)=1+Tm.sizes kids:=rfl;have B8:=Tm.length_le kids;obtain⟨hne1,hne2⟩:=Q4 P4;simp only[iD,A0a,Bool.or_eq_true,decide_eq_true_eq]at hkn;have hkm:=rR _ hkn.2;have Gl:=fK na (J9 (B5 na) (G2 na)) m kids (by omega) (λt ht=>ih t (by have:=Tm.size_le ht;omega) (by have:=Tm.size_le ht;omega) (K0 hne2 t ht) (hkm t ht));clear ih;obtain⟨r,hNm,m1,m2,rfl⟩:=YB na ⟨by omega,by omega,by omega⟩;unfold DS at hNm;have hI:=Hh m1 (B5 na) nm (by simp[B5];omega)
  suffices h:∃v,pc Q R0 [G4 na,B9 (.mk k nm s m kids)]=some v/\∃t',v=B9 t'/\E3 t'=CO (J9 (B5 na) (G2 na)) (.mk k nm s m kids) by
   obtain⟨v,h1,t',rfl,h2⟩:=h;exact⟨t',h1,h2⟩
  refine Sz KF λΨ hΨ fr hl h0 h1=>?_;simp[KF,B9]at hl h0 h1;by_cases hk:k=2
  .have hany:(B5 na).any (U7 nm)=true:=by
    rcases hkn.1 with h|h
    .exact absurd hk h
    .exact h
   have hge:0<=idx (U7 nm) (B5 na):=(bh _ _).2 hany;have A7:idx (U7 nm) (B5 na)<(0:Nat)+(B5 na).length:=Ke (U7 nm) (B5 na) 0;have hix:(idx (U7 nm) (B5 na)).toNat<(G2 na).length:=by rw[←NO];omega
   have hx:=G1 (f:=AV.int .i64) (A0Z hix);have hls:J9 (B5 na) (G2 na) nm=(G2 na)[(idx (U7 nm) (B5 na)).toNat]:=by
    unfold J9;rw[if_pos hany,A0s,A0Z hix];rfl
   rw[←hls]at hx;simp[KF,hl,h0,h1,B7 hk,hNm,hI,hge,hx];refine B6.mono (Gl (.int .i64 k) (.str nm) (.int .i64 (J9 (B5 na) (G2 na) nm)) [.int .i64 0,.str (bs []),.int .i64 0,.vs true 0 []] _ _ ?_ ?_ ?_ ?_ ?_ ?_) ?_<;>first|(simp[hl];done)|skip
   rintro e D4 ⟨bx,fams⟩ ⟨K,rfl,hB,done,hg,hd⟩;simp only at hB;subst hB;have J3:D4.length=45:=K.1.trans (by simp[hl]);have OP:A0 D4 3=.ptr 1 0:=A8 K 3 (by simp[hl]);have ND:A0 D4 4=.ptr 2 0:=A8 K 4 (by simp[hl]);clear K;obtain⟨c1,c2,c3⟩:=L6 hg;obtain⟨mm,hz⟩:=dh hg;generalize hv7:A0 D4 7=v7 at *
   simp[J3,OP,ND,hv7,c1,c2,hz];exact hΨ _ ⟨.mk k nm (J9 (B5 na) (G2 na) nm) mm done,rfl,by simp[E3,CO,hk,hd]⟩
  .simp[KF,hl,h0,h1,A3 hk];refine B6.mono (Gl (.int .i64 k) (.str nm) (.int .i64 s) [.int .i64 0,.str (bs []),.int .i64 0,.vs true 0 []] _ _ ?_ ?_ ?_ ?_ ?_ ?_) ?_<;>first|(simp[hl];done)|skip
   rintro e D4 ⟨bx,fams⟩ ⟨K,rfl,hB,done,hg,hd⟩;simp only at hB;subst hB;have J3:D4.length=45:=K.1.trans (by simp[hl]);have OP:A0 D4 3=.ptr 1 0:=A8 K 3 (by simp[hl]);have ND:A0 D4 4=.ptr 2 0:=A8 K 4 (by simp[hl]);clear K;obtain⟨c1,c2,c3⟩:=L6 hg;obtain⟨mm,hz⟩:=dh hg;generalize hv7:A0 D4 7=v7 at *
   simp[J3,OP,ND,hv7,c1,c2,hz];exact hΨ _ ⟨.mk k nm s mm done,rfl,by simp[E3,CO,hk,hd]⟩
end Go.Abs.Q
namespace Go.Abs.Q
open Go.Proofs
attribute [local simp] E6 E8 fin K1 H2
structure Grx (sz:Nat) (acc:List AV) (v:AV) (h0 h:AH):Prop where
 g:EB sz acc v h
 low:∀j,j<h0.fams.length->h.fams[j]?=h0.fams[j]?
 row:∀k n o l,v=.sl k n o l->h0.fams.length<=k
theorem bG (sz:Nat) (h0 h:AH) (e:h.fams=h0.fams):Grx sz [] (.vs true 0 []) h0 h:=⟨DB _ _,λj _=>by rw[e],λk n o l h=>by cases h⟩
theorem jW {h0 h:AH} (hl:∀j,j<h0.fams.length->h.fams[j]?=h0.fams[j]?):h0.fams.length<=h.fams.length:=by
 apply Classical.byContradiction;intro hc;have h1:=hl h.fams.length (by omega);rw[A01 (A0i _),A0Z (by omega)]at h1;cases h1
theorem bE {sz:Nat} {acc:G6} {v:AV} {h h':AH} (hg:EB sz acc v h) (hl:∀j,j<h.fams.length->h'.fams[j]?=h.fams[j]?):EB sz acc v h':=by
 rcases hg with hg|⟨h1,k,h2,h3⟩
 .exact .inl hg
 .exact .inr ⟨h1,k,h2,by rw[hl k (H4 h3)];exact h3⟩
theorem OI {sz:Nat} {acc:G6} {v:AV} {h0 h h':AH} (hg:Grx sz acc v h0 h) (hl:∀j,j<h.fams.length->h'.fams[j]?=h.fams[j]?):Grx sz acc v h0 h' :=
 ⟨bE hg.g hl,λj hj=>by rw[hl j (by have:=jW hg.low;omega)];exact hg.low j hj,hg.row⟩
theorem uT {c:Ctx} {sz bytes:Nat} {acc ys:G6} {v x:AV} {h0 h:AH} (hg:Grx sz acc v h0 h) (hm:c.mutApp=false) (hx:AY h sz x=some ys)
  (hb:(acc.length+ys.length)*bytes<=H3/\acc.length+ys.length<=maxLen):∃v' h',K6 c h sz bytes v x=some (v',h')/\Grx sz (acc++ys) v' h0 h'/\h'.boxes=h.boxes:=by
 obtain⟨hg,hlow,hrow⟩:=hg;obtain⟨v',h',h1,h2,h3⟩:=OH (c:=c) (bytes:=bytes) hg hm hx hb;refine⟨v',h',h1,⟨h2,?_,?_⟩,h3⟩
 .rcases hg with ⟨rfl,rfl⟩|⟨P4,k,rfl,hk⟩
  .rw[Pu,hx,A0k]at h1;split at h1
   .cases h1;exact hlow
   .split at h1
    .cases h1;intro j hj;have:=jW hlow;rw[←hlow j hj];exact A0h (by omega)
    .cases h1
  .rw[Lf,hx,A0k,hk,A0k]at h1;split at h1
   .cases h1;intro j hj;have:=hrow _ _ _ _ rfl;rw[←hlow j hj];exact A0v (by omega)
   .cases h1
 .rcases hg with ⟨rfl,rfl⟩|⟨P4,k,rfl,hk⟩
  .rw[Pu,hx,A0k]at h1;split at h1
   .cases h1;intro _ _ _ _ e;cases e
   .split at h1
    .cases h1;intro _ _ _ _ e;cases e;exact jW hlow
    .cases h1
  .rw[Lf,hx,A0k,hk,A0k]at h1;split at h1
   .cases h1;intro _ _ _ _ e;cases e;exact hrow _ _ _ _ rfl
   .cases h1
theorem bH {c:Ctx} {sz bytes:Nat} {acc:G6} {v x:AV} {h0 h:AH} (hg:Grx sz acc v h0 h) (hm:c.mutApp=false) (m:I6)
  (hb:(acc.length+1)*bytes<=140737488355328) (hb':acc.length<=1099511627776):∃v' h',K6 c h sz bytes v (sl m sz [x])=some (v',h')/\Grx sz (acc++[x]) v' h0 h'/\h'.boxes=h.boxes :=
 uT hg hm (N0 h m sz [x]) (by simp only[H3,maxLen,List.length_singleton];omega)
theorem PN {sz:Nat} {acc:G6} {v:AV} {h:AH} (hg:EB sz acc v h):∃m,∀(B:List (List AV)) (am:Bool),Ev ⟨B,h.fams⟩ am v=some (sl m sz acc):=by
 rcases hg with ⟨rfl,rfl⟩|⟨_,k,rfl,h3⟩
 .exact⟨(true,false),λB am=>by rw[XV];exact congrArg some (o6 _ rfl _ _)⟩
 .refine⟨(false,true),λB am=>?_⟩;rw[CZ];simp only[h3,A0k];rw[if_pos (by simp),List.drop_zero,A0f (A0i _)]
theorem nq (na:Nar) (f:ByteArray->Int) (B8:na.steps.length<=1048576) (IH:∀s∈na.steps,∃t',pc Q R0 [G4 na,B9 s.msg]=some (B9 t')/\E3 t'=CO f s.msg) (A1:G6) (o0 o1 o2 o3 o5:AV) (fr:Fr) (h:AH) (hh:h.boxes=[(G4 na).cells,A1,[o0,o1,o2,o3,.vs true 0 [],o5]]) (hl:fr.length=96) (h1:A0 fr 1=.ptr 0 0) (h7:A0 fr 7=.ptr 2 0) (h8:A0 fr 8=.int .i64 0) :
  B6 (lp (A2 (K8 Q) (D6 U3) DZ) (fr,h)) λe C3 h'=>Kp DZ.wr fr C3/\e=.exit 0/\∃(B:List (List AV)) (v:AV) (done:List Ste),h'.boxes=(G4 na).cells::A1::[o0,o1,o2,o3,v,o5]::B/\Grx 7 (done.map EP) v h h'/\done.map Mz=na.steps.map (CB f):=by
 refine A9 rfl fr (λn fr h'=>∃(i:Nat),i+n=na.steps.length/\A0 fr 8=.int .i64 (i:Nat)/\(∃(B:List (List AV)) (v:AV) (done:List Ste),h'.boxes=(G4 na).cells::A1::[o0,o1,o2,o3,v,o5]::B/\Grx 7 (done.map EP) v h h'/\done.map Mz=(na.steps.take i).map (CB f)/\done.length=i)) ?_ na.steps.length h ⟨0,by omega,h8,[],_,[],hh,bG _ _ _ rfl,by simp,by simp⟩;rintro J Φ hJ hΦ n D4 H1 K ⟨i,hi,k8,hr⟩;have A6:=K.1.trans hl;have k1:=A8 K 1 h1;have k7:=A8 K 7 h7;clear K;by_cases A7:i<na.steps.length
 .have L3:=C6 i (by omega);obtain⟨B,v,done,hB,hg,hd,Ds⟩:=hr;obtain⟨bx,fams⟩:=H1;simp only at hB;subst hB;have hx:=G1 (f:=EP) (A0Z A7);obtain⟨t',hI,ht⟩:=IH na.steps[i] (A0e A7);obtain⟨v',h',ha,d7,Qw⟩:=bH (c:=D6 U3) (bytes:=96) (x:=EP ⟨na.steps[i].frm,na.steps[i].to,t',na.steps[i].line⟩) (h:=⟨(G4 na).cells::A1::[o0,o1,o2,o3,v,o5]::(B++[(EP ⟨na.steps[i].frm,na.steps[i].to,t',na.steps[i].line⟩).cells]),fams⟩) (OI hg λ_ _=>rfl) rfl (true,true) (by simp;omega) (by simp;omega);have e2:(done++[Ste.mk na.steps[i].frm na.steps[i].to t' na.steps[i].line]).map Mz=(na.steps.take (i+1)).map (CB f):=by
   rw[A0b A7,A0d,hd,A0d,A0g,A0j,A0g,A0j];simp only[Mz,ht,CB]
  have e3:(done.map EP++[EP ⟨na.steps[i].frm,na.steps[i].to,t',na.steps[i].line⟩])=(done++[Ste.mk na.steps[i].frm na.steps[i].to t' na.steps[i].line]).map EP:=by simp
  rw[e3]at d7;have e6:=wx na.steps[i].frm na.steps[i].to t' na.steps[i].line;clear hd ht;generalize hY:done++[Ste.mk na.steps[i].frm na.steps[i].to t' na.steps[i].line]=Y at *
  have hYl:Y.length=i+1:=by rw[←hY];simp[Ds]
  clear hY e3;generalize na.steps[i]=s at *
  obtain⟨bx',fams'⟩:=h';simp only at Qw;subst Qw;simp only[gj,E5]at ha;obtain⟨c1,c2,-⟩:=L6 d7.g;simp[DZ,A6,k1,k7,k8,A7,L3,hx,hI,A5,e6,ha,E5,c1,c2];exact G0 hJ ⟨i+1,by omega,by simp[A6],_,v',Y,rfl,OI d7 λ_ _=>rfl,e2,hYl⟩
 .obtain⟨B,v,done,hB,hg,hd,Ds⟩:=hr;obtain⟨bx,fams⟩:=H1;simp only at hB;subst hB;rw[A0f (by omega)]at hd;simp[DZ,A6,k1,k8,A7,E5];exact hΦ _ _ _ ⟨rfl,B,v,done,rfl,OI hg λ_ _=>rfl,hd⟩
theorem nn (na:Nar) (f:ByteArray->Int) (j:Nat) (g:Gol) (hj:IZ (na.goals.map Ey) j=some (Ey g)) (hjl:j<na.goals.length) (B8:g.data.length<=1048576) (IH:∀t∈g.data,∃t',pc Q R0 [G4 na,B9 t]=some (B9 t')/\E3 t'=CO f t) (p:Nat) (hp0:0≠p) (g0 g1 g2 g4:AV) (fr:Fr) (h:AH) (hb0:h.boxes[0]?=some (G4 na).cells) (hbp:h.boxes[p]?=some [g0,g1,g2,.vs true 0 [],g4]) (hl:fr.length=96) (h1:A0 fr 1=.ptr 0 0) (h10:A0 fr 10=.int .i64 j) (h11:A0 fr 11=.ptr p 0) (h12:A0 fr 12=.int .i64 0) :
  B6 (lp (A2 (K8 Q) (D6 U3) DX) (fr,h)) λe C3 h'=>Kp DX.wr fr C3/\e=.exit 4/\∃(v:AV) (done:List Tm),h'.boxes=h.boxes.set p [g0,g1,g2,v,g4]/\Grx 4 (A4 done) v h h'/\H5 done=o7 f g.data:=by
 refine A9 rfl fr (λn fr h'=>∃(i:Nat),i+n=g.data.length/\A0 fr 12=.int .i64 (i:Nat)/\(∃(v:AV) (done:List Tm),h'.boxes=h.boxes.set p [g0,g1,g2,v,g4]/\Grx 4 (A4 done) v h h'/\H5 done=o7 f (g.data.take i)/\done.length=i)) ?_ g.data.length h ⟨0,by omega,h12,_,[],(DR hbp).symm,bG _ _ _ rfl,by simp[H5,o7],rfl⟩;rintro J Φ hJ hΦ n D4 H1 K ⟨i,hi,k12,hr⟩;have A6:=K.1.trans hl;have k1:=A8 K 1 h1;have k10:=A8 K 10 h10;have k11:=A8 K 11 h11;clear K;by_cases A7:i<g.data.length
 .have L3:=C6 i (by omega);obtain⟨v,done,hB,hg,hd,Ds⟩:=hr;obtain⟨bx,fams⟩:=H1;simp only at hB;subst hB;have hx:=I0 A7;obtain⟨t',hI,ht⟩:=IH g.data[i] (A0e A7);have hpl:=H4 hbp;have q1:∀X,(h.boxes.set p X)[0]?=some (G4 na).cells:=λX=>by rw[A0v (Ne.symm hp0)];exact hb0
  have q2:∀X,(h.boxes.set p X)[p]?=some X:=λX=>List.getElem?_set_self hpl;obtain⟨v',h',ha,d7,Qw⟩:=bH (c:=D6 U3) (bytes:=56) (x:=B9 t') hg rfl (true,true) (by simp;omega) (by simp;omega);have e2:H5 (done++[t'])=o7 f (g.data.take (i+1)):=by
   rw[A0b A7,E4,A0d,←E4,hd,JR,JR,A0d,A0g,A0j,A0g,A0j,ht]
  have hg2:Grx 4 (A4 (done++[t'])) v' h h':=by rw[Q0];exact d7
  clear ht hd;generalize g.data[i]=t at *
  obtain⟨bx',fams'⟩:=h';simp only at Qw;subst Qw;rw[E5]at q1;obtain⟨c1,c2,-⟩:=L6 d7.g;simp[DX,A6,k1,k10,k11,k12,A7,L3,hx,hI,hj,A5,q1,q2,ha,c1,c2];exact G0 hJ ⟨i+1,by omega,by simp[A6],v',done++[t'],by simp,OI hg2 λ_ _=>rfl,e2,by simp[Ds]⟩
 .obtain⟨v,done,hB,hg,hd,Ds⟩:=hr;obtain⟨bx,fams⟩:=H1;simp only at hB;subst hB;have hpl:=H4 hbp;have q1:∀X,(h.boxes.set p X)[0]?=some (G4 na).cells:=λX=>by rw[A0v (Ne.symm hp0)];exact hb0
  rw[A0f (by omega)]at hd;rw[E5]at q1;simp[DX,A6,k1,k10,k12,A7,hj,q1];exact hΦ _ _ _ ⟨rfl,v,done,rfl,OI hg λ_ _=>rfl,hd⟩
theorem np (na:Nar) (f:ByteArray->Int) (B8:na.goals.length<=1048576) (Ds:∀g∈na.goals,g.data.length<=1048576) (IH:∀g∈na.goals,∀t∈g.data,∃t',pc Q R0 [G4 na,B9 t]=some (B9 t')/\E3 t'=CO f t) (A1:G6) (o0 o1 o2 o3 o4:AV) (D:List (List AV)) (fr:Fr) (h:AH) (hh:h.boxes=(G4 na).cells::A1::[o0,o1,o2,o3,o4,.vs true 0 []]::D) (hl:fr.length=96) (h1:A0 fr 1=.ptr 0 0) (h7:A0 fr 7=.ptr 2 0) (h10:A0 fr 10=.int .i64 0) :
  B6 (lp (A2 (K8 Q) (D6 U3) DY) (fr,h)) λe C3 h'=>Kp DY.wr fr C3/\e=.exit 2/\∃(B:List (List AV)) (v:AV) (done:List Gol),h'.boxes=(G4 na).cells::A1::[o0,o1,o2,o3,o4,v]::B/\Grx 5 (done.map Ey) v h h'/\done.map mt=na.goals.map (Vg f):=by
 refine A9 rfl fr (λn fr h'=>∃(i:Nat),i+n=na.goals.length/\A0 fr 10=.int .i64 (i:Nat)/\(∃(B:List (List AV)) (v:AV) (done:List Gol),h'.boxes=(G4 na).cells::A1::[o0,o1,o2,o3,o4,v]::B/\Grx 5 (done.map Ey) v h h'/\done.map mt=(na.goals.take i).map (Vg f)/\done.length=i)) ?_ na.goals.length h ⟨0,by omega,h10,D,_,[],hh,bG _ _ _ rfl,rfl,rfl⟩;rintro J Φ hJ hΦ n D4 H1 K ⟨i,hi,k10,hr⟩;have A6:=K.1.trans hl;have k1:=A8 K 1 h1;have k7:=A8 K 7 h7;clear K;by_cases A7:i<na.goals.length
 .have L3:=C6 i (by omega);obtain⟨B,v,done,hB,hg,hd,hdn⟩:=hr;obtain⟨bx,fams⟩:=H1;simp only at hB;subst hB;have hx:=G1 (f:=Ey) (A0Z A7);have q1:=nn na f i na.goals[i] hx A7 (Ds _ (A0e A7)) (IH _ (A0e A7)) (B.length+3) (by omega) (.int .i64 na.goals[i].kind) (.str na.goals[i].role) (.str na.goals[i].wth) (.int .i64 na.goals[i].line);have e2:∀g',mt g'=Vg f na.goals[i]->(done++[g']).map mt=(na.goals.take (i+1)).map (Vg f):=by
   intro g' he;rw[A0b A7,A0d,hd,A0d,A0g,A0j,A0g,A0j,he]
  clear hd;generalize na.goals[i]=g at *
  simp[DY,A6,k1,k10,A7,hx,E5];refine B6.mono (q1 _ _ ?_ ?_ ?_ ?_ ?_ ?_ ?_) ?_<;>first|(simp[A6,k1,k10,E5];done)|skip
  rintro e Q6 ⟨bx2,fams2⟩ ⟨K,rfl,vd,dd,hB2,hgd,hdd⟩;have T6:Q6.length=96:=K.1.trans (by simp[A6]);have k1fr2:A0 Q6 1=.ptr 0 0:=A8 K 1 (by simp[k1]);have k7fr2:A0 Q6 7=.ptr 2 0:=A8 K 7 (by simp[k7]);have k10fr2:A0 Q6 10=.int .i64 (i:Nat):=A8 K 10 (by simp[k10]);have k11fr2:A0 Q6 11=.ptr (B.length+3) 0:=A8 K 11 (by simp[A6]);clear K;have hg2:=OI hg (h':=⟨bx2,fams2⟩) (λj hj=>hgd.low j hj);simp at hB2;subst hB2;obtain⟨m,hz⟩:=PN hgd.g;simp only at hz;obtain⟨v',⟨bx',fams'⟩,ha,d7,Qw⟩:=bH (c:=D6 U3) (bytes:=72) (x:=Ey ⟨g.kind,g.role,g.wth,m,dd,g.line⟩) hg2 rfl (true,true) (by simp;omega) (by simp;omega);simp only at Qw;subst Qw;have e3:done.map Ey++[Ey ⟨g.kind,g.role,g.wth,m,dd,g.line⟩]=(done++[Gol.mk g.kind g.role g.wth m dd g.line]).map Ey:=by simp
  rw[e3]at d7;have e4:=e2 ⟨g.kind,g.role,g.wth,m,dd,g.line⟩ (by simp[mt,Vg,hdd]);have e6:=rI g.kind g.role g.wth m dd g.line;obtain⟨c1,c2,-⟩:=L6 d7.g;simp[T6,k7fr2,k10fr2,k11fr2,hz,A5,e6,ha,L3,c1,c2];exact G0 hJ ⟨i+1,by omega,by simp[T6],_,v',_,rfl,OI d7 λ_ _=>rfl,e4,by simp[hdn]⟩
 .obtain⟨B,v,done,hB,hg,hd,hdn⟩:=hr;obtain⟨bx,fams⟩:=H1;simp only at hB;subst hB;rw[A0f (by omega)]at hd;simp[DY,A6,k1,k10,A7,E5];exact hΦ _ _ _ ⟨rfl,B,v,done,rfl,OI hg λ_ _=>rfl,hd⟩
theorem bp {ns rs:List ByteArray} (hrs:∀a,rs.any (U7 a)=true->ns.any (U7 a)=true) {t:Tm} (hn:I9 t=0) (h:Bz rs t=true):iD ns t=true:=by
 obtain⟨k,nm,s,m,l⟩:=t;obtain⟨h1,_⟩:=Q4 hn;rw[Bz,A0a]at h;have hk:k=2:=of_decide_eq_true h.1;have hr:rs.any (U7 nm)=true:=h.2;have hl:l=[]:=A0w ((HB h1).2.1 (.inr hk));subst hl;simp[iD,VS,hrs nm hr]
theorem lO {ns rs:List ByteArray} (hrs:∀a,rs.any (U7 a)=true->ns.any (U7 a)=true) {t:Tm} (hn:I9 t=0) (h:CP rs t=true):iD ns t=true:=by
 obtain⟨k,nm,s,m,l⟩:=t;obtain⟨_,h2⟩:=Q4 hn;rw[CP,A0a,t6,A0a,A0a]at h;obtain⟨⟨⟨hk,_⟩,hl⟩,hf⟩:=h;have hk:k=3:=of_decide_eq_true hk;have hl:(l.length:Int)=1:=of_decide_eq_true hl
 replace hf:Tg (Bz rs) l=true:=hf
 subst hk
 replace hl:l.length=1:=by omega
 match l,hl,hf with
 | [a],_,hf=>simp[iD,VS,bp hrs (K0 h2 a (by simp)) hf]
theorem rS {ns rs:List ByteArray} (hrs:∀a,rs.any (U7 a)=true->ns.any (U7 a)=true) {t:Tm} (hn:I9 t=0) (h:Hj rs t=true):iD ns t=true:=by
 obtain⟨k,nm,s,m,l⟩:=t;obtain⟨_,h2⟩:=Q4 hn;rw[Hj,A0a,t6,A0a,A0a]at h;obtain⟨⟨⟨hk,_⟩,hl⟩,hf⟩:=h;have hk:k=3:=of_decide_eq_true hk;have hl:(l.length:Int)=1:=of_decide_eq_true hl
 replace hf:Tg (CP rs) l=true:=hf
 subst hk
 replace hl:l.length=1:=by omega
 match l,hl,hf with
 | [a],_,hf=>simp[iD,VS,lO hrs (K0 h2 a (by simp)) hf]
theorem iQ (nm s) (m:I6) (l:G7) (x:J1) (n:Int):(t6 (.mk 3 nm s m l) x n=true)=(nm=x/\(l.length:Int)=n):=by
 rw[t6,A0a,A0a];exact propext ⟨λh=>⟨of_decide_eq_true h.1.2,of_decide_eq_true h.2⟩,λh=>⟨⟨decide_eq_true (p:=(3:Int)=3) rfl,decide_eq_true (p:=nm=x) h.1⟩,decide_eq_true (p:=(l.length:Int)=n) h.2⟩⟩
theorem lM (rs:List ByteArray) (nm s) (m:I6) (l:G7):JL rs (.mk 3 nm s m l) =
  if (nm=bs [112,97,105,114]/\(l.length:Int)=2)\/(nm=bs [101,110,99]/\(l.length:Int)=2)then 2
  else if nm=bs [104,97,115,104]/\(l.length:Int)=1 then 1
  else if ((nm=bs [97,101,110,99]/\(l.length:Int)=2)/\QV (Hj rs) l=true)\/((nm=bs [115,105,103,110]/\(l.length:Int)=2)/\QV (CP rs) l=true)then 1
  else if Hj rs (.mk 3 nm s m l)=true\/Vf rs (.mk 3 nm s m l)=true then 0 else -1:=by
 unfold JL;simp only[iQ];rfl
theorem rT {ns rs:List ByteArray} (hrs:∀a,rs.any (U7 a)=true->ns.any (U7 a)=true):∀(n:Nat) (t:Tm),t.size<=n->I9 t=0->y8 ns rs t=0->iD ns t=true:=by
 intro n
 induction n with
 |zero=>intro t h;have:=t.size_pos;omega
 |succ n ih =>
  intro t hn P4 hs;obtain⟨k,nm,s,m,l⟩:=t;have J4:Tm.size (.mk k nm s m l)=1+Tm.sizes l:=rfl;obtain⟨h1,h2⟩:=Q4 P4;by_cases hk:k=3
  .subst hk;rw[Sn]at hs;simp only[Tm.kind,ne_eq,not_true,if_false]at hs;split at hs
   .omega
   .rename_i hkd;have t8:=Ew hs
    suffices hl:VS ns l=true by simp[iD,hl]
    have one:∀t∈l,y8 ns rs t=0->iD ns t=true:=λt ht h0=>ih t (by have:=Tm.size_le ht;omega) (K0 h2 t ht) h0;rw[lM]at t8 hkd;simp only[Tm.kids]at t8;by_cases c1:nm=bs [112,97,105,114]/\(l.length:Int)=2\/nm=bs [101,110,99]/\(l.length:Int)=2
    .rw[if_pos c1]at t8;have hl:l.length=2:=by omega
     match l,hl,t8,one with
     | [a,b],_,t8,one=>simp[VS,one a (by simp) (t8 a (by simp)),one b (by simp) (t8 b (by simp))]
    .rw[if_neg c1]at t8 hkd;by_cases c2:nm=bs [104,97,115,104]/\(l.length:Int)=1
     .rw[if_pos c2]at t8;have hl:l.length=1:=by omega
      match l,hl,t8,one with
      | [a],_,t8,one=>simp[VS,one a (by simp) (t8 a (by simp))]
     .rw[if_neg c2]at t8 hkd;by_cases c3:(nm=bs [97,101,110,99]/\(l.length:Int)=2)/\QV (Hj rs) l=true\/(nm=bs [115,105,103,110]/\(l.length:Int)=2)/\QV (CP rs) l=true
      .rw[if_pos c3]at t8;have hl:l.length=2:=by omega
       match l,hl,t8,one,c3,h2 with
       | [a,b],_,t8,one,c3,h2 =>
        have hb:iD ns b=true:=by
         rcases c3 with c3|c3
         .exact rS hrs (K0 h2 b (by simp)) c3.2
         .exact lO hrs (K0 h2 b (by simp)) c3.2
        simp[VS,one a (by simp) (t8 a (by simp)),hb]
      .rw[if_neg c3]at t8 hkd;by_cases c4:Hj rs (.mk 3 nm s m l)=true\/Vf rs (.mk 3 nm s m l)=true
       .rcases c4 with c4|c4
        .have:=rS hrs P4 c4;simpa[iD]using this
        .rw[Vf,A0a,A0a,A0a,iQ]at c4;obtain⟨⟨⟨⟨_,hl⟩,ha⟩,hb⟩,_⟩:=c4
         replace ha:Tg (Bz rs) l=true:=ha
         replace hb:QV (Bz rs) l=true:=hb
         have hl:l.length=2:=by omega
         match l,hl,ha,hb,h2 with
         | [a,b],_,ha,hb,h2=>simp[VS,bp hrs (K0 h2 a (by simp)) ha,bp hrs (K0 h2 b (by simp)) hb]
       .rw[if_neg c4]at hkd;omega
  .have hb:=(HB h1);have hl:l=[]:=A0w (hb.2.1 (by rcases hb.2.2.1 with h|h|h<;>omega))
   subst hl;rw[Sn]at hs;simp only[Tm.kind,ne_eq,hk,not_false_eq_true,if_true,Tm.name]at hs;by_cases h:ns.any (U7 nm)=true
   .simp[iD,VS,h]
   .replace hs:(if ns.any (U7 nm)=true then (0:Int)else 13)=0:=hs
    rw[if_neg h]at hs;omega
theorem WM (n:Nar):∀a,n.roles.any (U7 a)=true->(B5 n).any (U7 a)=true:=by
 intro a h;unfold B5;rw[A05,A05,h,A07,A07]
theorem gZ {ns rs:List ByteArray} {s:Ste} (h:HD ns rs s=0):y8 ns rs s.msg=0:=by
 unfold HD at h;split at h
 .rename_i h1;exact absurd h h1
 .exact h
theorem qF {ns rs:List ByteArray} {g:Gol} (h:JA ns rs g=0):∀t∈g.data,y8 ns rs t=0:=by
 unfold JA at h;split at h
 .omega
 .split at h
  .rename_i h1;exact absurd h h1.2
  .exact Ew h
theorem fy (n:Nar) (F:Fine n) (S:Lens n):∃r,pc Q U3 [G4 n]=some (.tup [G4 r,.int .i64 (Y0 n).1,.int .i64 (Y0 n).2])/\((Y0 n).2=0->Py r=CA (J9 (B5 n) (G2 n)) n):=by
 suffices h:∃v,pc Q U3 [G4 n]=some v/\∃r,v=.tup [G4 r,.int .i64 (Y0 n).1,.int .i64 (Y0 n).2]/\((Y0 n).2=0->Py r=CA (J9 (B5 n) (G2 n)) n) by
  obtain⟨v,h1,r,rfl,h2⟩:=h;exact⟨r,h1,h2⟩
 have hC:=pH n F S;have nb:=E5 n;by_cases hz:(Y0 n).2=0
 .obtain⟨hz0,hR⟩:=GH hz;obtain⟨k1,k2,k3⟩:=GF hR.nar;have hrk:=WM n;have q1:=nq n (J9 (B5 n) (G2 n)) S.steps (λs hs=>aY n S _ _ (A0i _) (F.steps s hs).2.2 (Kh (QY (k2 s hs))) (rT hrk _ _ (A0i _) (Kh (QY (k2 s hs))) (gZ (hR.steps s hs))));have q2:=np n (J9 (B5 n) (G2 n)) S.goals S.data (λg hg t ht=>aY n S _ _ (A0i _) (by have:=(F.goals g hg).2.2;have:=Tm.size_le ht;omega) (Kh (XY (k3 g hg) t ht)) (rT hrk _ _ (A0i _) (Kh (XY (k3 g hg) t ht)) (qF (hR.goals g hg) t ht)));rw[hz0]at hC ⊢;refine Fj Co λΨ hΨ fr hl h0=>?_;simp[Co]at hl h0;simp[Co,hl,h0,nb,hC];refine B6.mono (q1 [.str (bs []),.vs true 0 [],.vs true 0 [],.vs true 0 [],.vs true 0 [],.vs true 0 []] (.str n.name) (sl n.rm 1 (n.roles.map .str)) (sl n.fm 3 (n.fresh.map Lz)) (sl n.tm 1 (n.tags.map .str)) (.vs true 0 []) _ _ ?_ ?_ ?_ ?_ ?_) ?_<;>first|(simp[hl,nb];done)|skip
  rintro e D4 ⟨bx1,fams1⟩ ⟨K,rfl,B,v,done,hB,hg,hd⟩;have J3:D4.length=96:=K.1.trans (by simp[hl]);have Fe:A0 D4 1=.ptr 0 0:=A8 K 1 (by simp[hl]);have GX:A0 D4 2=.ptr 1 0:=A8 K 2 (by simp[hl]);have k7fr1:A0 D4 7=.ptr 2 0:=A8 K 7 (by simp[hl]);clear K;simp only at hB;subst hB;simp;refine B6.mono (q2 [.str (bs []),.vs true 0 [],.vs true 0 [],.vs true 0 [],.vs true 0 [],.vs true 0 []] (.str n.name) (sl n.rm 1 (n.roles.map .str)) (sl n.fm 3 (n.fresh.map Lz)) (sl n.tm 1 (n.tags.map .str)) v B _ _ ?_ ?_ ?_ ?_ ?_) ?_<;>first|(simp[J3,Fe,k7fr1];done)|rfl|skip
  rintro e Q6 ⟨bx2,fams2⟩ ⟨K,rfl,B2,v2,done2,hB2,hg2,hd2⟩;have T6:Q6.length=96:=K.1.trans (by simp[J3]);have k1fr2:A0 Q6 1=.ptr 0 0:=A8 K 1 (by simp[Fe]);have k2fr2:A0 Q6 2=.ptr 1 0:=A8 K 2 (by simp[GX]);have k7fr2:A0 Q6 7=.ptr 2 0:=A8 K 7 (by simp[k7fr1]);clear K;simp only at hB2;subst hB2;have hg1:=bE hg.g hg2.low;obtain⟨m1,z1⟩:=PN hg1;obtain⟨m2,z2⟩:=PN hg2.g;simp only at z1 z2;simp[T6,k2fr2,k7fr2,z1,z2];exact hΨ _ ⟨⟨n.name,n.rm,n.roles,n.fm,n.fresh,n.tm,n.tags,m1,done,m2,done2⟩,rfl,λ_=>by simp[Py,CA,hd,hd2]⟩
 .refine Fj Co λΨ hΨ fr hl h0=>?_;simp[Co]at hl h0;simp[Co,hl,h0,nb,hC,hz,D8,C8];exact hΨ _ ⟨nw,by rw[←Xv,o6 (true,false) rfl 1 1],λh=>absurd h hz⟩
end Go.Abs.Q
namespace Go.Abs.Q
open Go.Proofs
attribute [local simp] E6 E8 fin K1 H2 P7 M6 R4 R3
theorem jC (m:I6) (l:G7) (B8:l.length<=1099511627776) (IH:∀t∈l,∃t',pc Q l8 [B9 t]=some (B9 t')/\E3 t'=E3 t) (x0 x1 x2:AV) (C:G6) (fr:Fr) (h:AH) (hh:h.boxes=[[x0,x1,x2,.vs true 0 []],C]) (hl:fr.length=24) (h1:A0 fr 1=.ptr 0 0) (h9:A0 fr 9=sl m 4 (A4 l)) (h10:A0 fr 10=.int .i64 l.length) (h11:A0 fr 11=.int .i64 0) :
  B6 (lp (A2 (K8 Q) (D6 l8) HQ) (fr,h)) λe C3 h'=>Kp HQ.wr fr C3/\e=.exit 0/\∃(B:List (List AV)) (v:AV) (done:List Tm),h'.boxes=[x0,x1,x2,v]::C::B/\EB 4 (A4 done) v h'/\H5 done=H5 l:=by
 refine A9 rfl fr (λn fr h'=>∃(i:Nat),i+n=l.length/\A0 fr 11=.int .i64 (i:Nat)/\(∃(B:List (List AV)) (v:AV) (done:List Tm),h'.boxes=[x0,x1,x2,v]::C::B/\EB 4 (A4 done) v h'/\H5 done=H5 (l.take i)/\done.length=i)) ?_ l.length h ⟨0,by omega,h11,[],_,[],hh,DB _ _,by simp[H5],rfl⟩;rintro J Φ hJ hΦ n D4 H1 K ⟨i,hi,k11,hr⟩;have A6:=K.1.trans hl;have k1:=A8 K 1 h1;have k9:=A8 K 9 h9;have k10:=A8 K 10 h10;clear K;by_cases A7:i<l.length
 .have L3:=C6 i (by omega);obtain⟨B,v,done,hB,hg,hd,Ds⟩:=hr;obtain⟨bx,fams⟩:=H1;simp only at hB;subst hB;have hx:=I0 A7;obtain⟨t',hI,ht⟩:=IH l[i] (A0e A7);obtain⟨v',⟨bx',fams'⟩,ha,d7,Qw⟩:=Al (c:=D6 l8) (bytes:=56) (x:=B9 t') (h:=⟨[x0,x1,x2,v]::C::(B++[(B9 l[i]).cells]),fams⟩) (Bn hg rfl) rfl (true,true) (by simp;omega) (by simp;omega);have e2:H5 (done++[t'])=H5 (l.take (i+1)):=by
   rw[A0b A7,E4,A0d,←E4,hd,E4,E4,A0d,A0g,A0j,A0g,A0j,ht]
  have hg2:EB 4 (A4 (done++[t'])) v' ⟨bx',fams'⟩:=by rw[Q0];exact d7
  clear ht hd;generalize l[i]=t at *
  simp only at Qw;subst Qw;simp only[I3]at ha;obtain⟨c1,c2,-⟩:=L6 d7;simp[HQ,A6,k1,k9,k10,k11,A7,L3,hx,hI,A5,ha,c1,c2];exact G0 hJ ⟨i+1,by omega,by simp[A6],_,v',done++[t'],rfl,Bn hg2 rfl,e2,by simp[Ds]⟩
 .obtain⟨B,v,done,hB,hg,hd,Ds⟩:=hr;obtain⟨bx,fams⟩:=H1;simp only at hB;subst hB;rw[A0f (by omega)]at hd;simp[HQ,A6,k10,k11,A7];exact hΦ _ _ _ ⟨rfl,B,v,done,rfl,hg,hd⟩
theorem YG:∀(n:Nat) (t:Tm),t.size<=n->t.size<=1099511627776->∃t',pc Q l8 [B9 t]=some (B9 t')/\E3 t'=E3 t:=by
 intro n
 induction n with
 |zero=>intro t h;have:=t.size_pos;omega
 |succ n ih =>
  intro t hn hb;obtain⟨k,nm,s,m,kids⟩:=t;have J4:Tm.size (.mk k nm s m kids)=1+Tm.sizes kids:=rfl;have B8:=Tm.length_le kids;have Gl:=jC m kids (by omega) (λt ht=>ih t (by have:=Tm.size_le ht;omega) (by have:=Tm.size_le ht;omega));clear ih
  suffices h:∃v,pc Q l8 [B9 (.mk k nm s m kids)]=some v/\∃t',v=B9 t'/\E3 t'=E3 (.mk k nm s m kids) by
   obtain⟨v,h1,t',rfl,h2⟩:=h;exact⟨t',h1,h2⟩
  refine Fj Qi λΨ hΨ fr hl h0=>?_;simp[Qi,B9]at hl h0;simp[Qi,hl,h0];refine B6.mono (Gl (.int .i64 k) (.str nm) (.int .i64 s) [.int .i64 0,.str (bs []),.int .i64 0,.vs true 0 []] _ _ ?_ ?_ ?_ ?_ ?_ ?_) ?_<;>first|(simp[hl];done)|skip
  rintro e D4 ⟨bx,fams⟩ ⟨K,rfl,B,v,done,hB,hg,hd⟩;simp only at hB;subst hB;have J3:D4.length=24:=K.1.trans (by simp[hl]);have Fe:A0 D4 1=.ptr 0 0:=A8 K 1 (by simp[hl]);have GX:A0 D4 2=.ptr 1 0:=A8 K 2 (by simp[hl]);clear K;obtain⟨mm,hz⟩:=PN hg;obtain⟨c1,c2,c3⟩:=L6 hg;simp[J3,Fe,GX,hz];exact hΨ _ ⟨.mk k nm s mm done,rfl,by simp[E3,hd]⟩
theorem re (fr:Fr) (h:AH) (hl:fr.length=32) (h9:A0 fr 9=.int .i64 0) (h10:A0 fr 10=.int .i64 0) :
  B6 (lp (A2 (K8 Q) (D6 Sf) Od) (fr,h)) λe C3 h'=>Kp Od.wr fr C3/\e=.exit 0/\h'=h:=by
 refine A9 rfl fr (λn C3 h'=>C3=fr/\h'=h) ?_ 0 h ⟨rfl,rfl⟩;rintro J Φ hJ hΦ n D4 H1 K ⟨rfl,rfl⟩;simp[Od,hl,h9,h10];exact hΦ _ _ _ ⟨rfl,rfl⟩
theorem yJ (m:I6) (t:Tm) (hb:t.size<=1099511627776):∃t',pc Q Sf [B9 t,sl m 1 []]=some (.tup [B9 t',.int .i64 0])/\E3 t'=E3 t:=by
 obtain⟨t',hC,hE⟩:=YG _ t (A0i _) hb;refine⟨t',?_,hE⟩;refine N3 Vl λfr hl h0 h1=>?_;simp[Vl]at hl h0 h1;simp[Vl,hl,h0,h1];refine B6.mono (re _ _ ?_ ?_ ?_) ?_<;>first|(simp[hl];done)|skip
 rintro e D4 DD ⟨K,rfl,rfl⟩;have J3:D4.length=32:=K.1.trans (by simp[hl]);have GX:A0 D4 2=.ptr 0 0:=A8 K 2 (by simp[hl]);have ND:A0 D4 4=.ptr 1 0:=A8 K 4 (by simp[hl]);clear K;simp[J3,GX,ND,hC]
theorem aR (t:Tm) (hb:t.size<=1099511627776):∃t',pc Q It [B9 t]=some (B9 t')/\E3 t'=E3 t:=by
 obtain⟨t',hA,hE⟩:=yJ (true,false) t hb;refine⟨t',?_,hE⟩;refine H6 MR λfr hl h0=>?_;simp[MR]at hl h0;simp[MR,hl,h0,hA]
theorem gE (t:Tm) (nm:J1):pc Q JO [B9 t,.str nm]=some (.bool (decide (t.kind=3)&&decide (t.name=nm))):=by
 refine N3 SJ λfr hl h0 h1=>?_;simp[SJ]at hl h0 h1;simp +contextual (maxSteps:=10000000) [SJ,hl,h0,h1]
theorem CK:∀(n:Nat) (t:Tm),t.size<=n->(E3 t).size=t.size:=by
 intro n
 induction n with
 |zero=>intro t h;have:=t.size_pos;omega
 |succ n ih =>
  intro t hn;obtain⟨k,nm,s,m,l⟩:=t;have J4:Tm.size (.mk k nm s m l)=1+Tm.sizes l:=rfl;have:∀l:List Tm,Tm.sizes l<=n->Tm.sizes (H5 l)=Tm.sizes l:=by
   intro l
   induction l with
   |nil=>intro _;rfl
   |cons a l ihl =>
    intro h;simp only[Tm.sizes]at h;simp only[H5,Tm.sizes,ih a (by omega),ihl (by omega)]
  rw[E3,Tm.size,this l (by omega),J4]
theorem RM:∀(l:G7),Tm.sizes (H5 l)=Tm.sizes l
 | []=>rfl
 |t::l=>by simp only[H5,Tm.sizes,CK _ t (A0i _),RM l]
theorem Xg (l:List UInt8):Op.bytesLess l l=false:=by
 induction l with
 |nil=>rfl
 |cons a l ih=>simp[Op.bytesLess,ih]
theorem md (a:Int):IL a a=0:=by simp[IL]
theorem mY (a:J1):V6 a a=0:=by simp[V6,Xg]
theorem kr:∀(n:Nat) (a b:Tm),a.size<=n->E3 a=E3 b->H7 a b=0:=by
 intro n
 induction n with
 |zero=>intro t _ h;have:=t.size_pos;omega
 |succ n ih =>
  intro a b hn he;obtain⟨k,nm,s,m,l⟩:=a;obtain⟨k',nm',s',m',l'⟩:=b;have J4:Tm.size (.mk k nm s m l)=1+Tm.sizes l:=rfl;simp only[E3,Tm.mk.injEq]at he;obtain⟨rfl,rfl,rfl,_,hl⟩:=he;have h1:Tm.sizes l=Tm.sizes l':=by rw[←RM l,hl,RM]
  have h2:l.length=l'.length:=by
   have:=congrArg List.length hl;simpa[E4]using this
  have:∀l l':List Tm,Tm.sizes l<=n->H5 l=H5 l'->JK l l'=0:=by
   intro l
   induction l with
   |nil=>intro l' _ h;exact SU l'
   |cons a l ihl =>
    intro l' hs h;cases l' with
    |nil=>simp[H5]at h
    |cons b l' =>
     simp only[H5,List.cons.injEq]at h;simp only[Tm.sizes]at hs;simp[JK,nz,ih a b (by omega) h.1,ihl l' (by omega) h.2]
  simp[H7,nz,md,mY,h1,h2,this l l' (by omega) hl]
end Go.Abs.Q
namespace Go.Abs
open Go.Proofs Go.Shelf Go.RowKit Go.Lib Go.Sort
variable {P:Program} {ρ:Ren}
set_option maxHeartbeats 2000000 in
theorem rK (L:SlLaysF0.n20 P ρ) (p:Option Addr) (cap:Nat) (fv:Value) (w:World) :
  Calls P (ρ.f 20) #[.slice p 1 cap,.int .i64 0,.int .i64 1,fv] w λe w'=>e=.returned (.tuple #[])/\w'=w:=by
 have mixed:=L.mixed;have t0:=L.t0;have a0:=L.a0;have z0:=L.z0;have v0:=L.v0;have t3:=L.t3;have a3:=L.a3;have z3:=L.z3;have v3:=L.v3;have t4:=L.t4;have a4:=L.a4;have z4:=L.z4;have v4:=L.v4;have t22:=L.t22;have a22:=L.a22;have z22:=L.z22;have v22:=L.v22;have t25:=L.t25;have a25:=L.a25;have z25:=L.z25;have v25:=L.v25;obtain⟨_,_,FG⟩:=L.f20
 go_enter FG,SlBodyF.n20_ntmps ρ
 go_wp2
 refine wp_loop_rounds 1 ?_;rw[rounds_succ]
 go_wp2
 go_end0
 exact⟨rfl,rfl⟩
set_option maxHeartbeats 2000000 in
theorem tK (L:SlLaysF0.n14 P ρ) (p:Option Addr) (cap:Nat) (K8:Int) (fv:Value) (w:World) :
  Calls P (ρ.f 14) #[.slice p 1 cap,.int .i64 0,.int .i64 1,.int .i64 K8,fv] w λe w'=>e=.returned (.tuple #[])/\w'=w:=by
 have mixed:=L.mixed;have t0:=L.t0;have a0:=L.a0;have z0:=L.z0;have v0:=L.v0;have t3:=L.t3;have a3:=L.a3;have z3:=L.z3;have v3:=L.v3;have t4:=L.t4;have a4:=L.a4;have z4:=L.z4;have v4:=L.v4;have t5:=L.t5;have a5:=L.a5;have z5:=L.z5;have v5:=L.v5;have t9:=L.t9;have a9:=L.a9;have z9:=L.z9;have v9:=L.v9;have t22:=L.t22;have a22:=L.a22;have z22:=L.z22;have v22:=L.v22;have t25:=L.t25;have a25:=L.a25;have z25:=L.z25;have v25:=L.v25;have t39:=L.t39;have a39:=L.a39;have z39:=L.z39;have v39:=L.v39;have t45:=L.t45;have a45:=L.a45;have z45:=L.z45;have v45:=L.v45;have t46:=L.t46;have a46:=L.a46;have z46:=L.z46;have v46:=L.v46;have t50:=L.t50;have a50:=L.a50;have z50:=L.z50;have v50:=L.v50;have t53:=L.t53;have a53:=L.a53;have z53:=L.z53;have v53:=L.v53;have t55:=L.t55;have a55:=L.a55;have z55:=L.z55;have v55:=L.v55;have t66:=L.t66;have a66:=L.a66;have z66:=L.z66;have v66:=L.v66;have t70:=L.t70;have a70:=L.a70;have z70:=L.z70;have v70:=L.v70;have t76:=L.t76;have a76:=L.a76;have z76:=L.z76;have v76:=L.v76;have t77:=L.t77;have a77:=L.a77;have z77:=L.z77;have v77:=L.v77;have e20:∀args w,(callFunc (ρ.f 20) args).run P w=.ok (.enter (ρ.f 20) args) w:=L.f20.enters rfl;have hi:=λW=>rK (P:=P) (ρ:=ρ) {L with} p cap fv W
 obtain⟨_,_,FG⟩:=L.f14
 go_enter FG,SlBodyF.n14_ntmps ρ
 go_wp2
 refine wp_loop_rounds 1 ?_;rw[rounds_succ]
 go_wp2_with (go_at_fn (ρ.f 20);refine(hi _).mono ?_;rintro e w' ⟨rfl,rfl⟩)
 (try simp only[Exit.inBlock,Exit.then]);refine bodyPost_ret (results_none rfl _ _ _) rfl ?_
 exact⟨rfl,rfl⟩
set_option maxHeartbeats 2000000 in
theorem qK (L:SlLaysF0.n6 P ρ) (p:Option Addr) (cap:Nat) (fv:Value) (w:World) :
  Calls P (ρ.f 6) #[.slice p 1 cap,fv] w λe w'=>e=.returned (.tuple #[])/\w'=w:=by
 have mixed:=L.mixed;have t0:=L.t0;have a0:=L.a0;have z0:=L.z0;have v0:=L.v0;have t3:=L.t3;have a3:=L.a3;have z3:=L.z3;have v3:=L.v3;have t4:=L.t4;have a4:=L.a4;have z4:=L.z4;have v4:=L.v4;have t5:=L.t5;have a5:=L.a5;have z5:=L.z5;have v5:=L.v5;have t9:=L.t9;have a9:=L.a9;have z9:=L.z9;have v9:=L.v9;have t22:=L.t22;have a22:=L.a22;have z22:=L.z22;have v22:=L.v22;have t25:=L.t25;have a25:=L.a25;have z25:=L.z25;have v25:=L.v25;have t39:=L.t39;have a39:=L.a39;have z39:=L.z39;have v39:=L.v39;have t45:=L.t45;have a45:=L.a45;have z45:=L.z45;have v45:=L.v45;have t46:=L.t46;have a46:=L.a46;have z46:=L.z46;have v46:=L.v46;have t50:=L.t50;have a50:=L.a50;have z50:=L.z50;have v50:=L.v50;have t53:=L.t53;have a53:=L.a53;have z53:=L.z53;have v53:=L.v53;have t55:=L.t55;have a55:=L.a55;have z55:=L.z55;have v55:=L.v55;have t66:=L.t66;have a66:=L.a66;have z66:=L.z66;have v66:=L.v66;have t70:=L.t70;have a70:=L.a70;have z70:=L.z70;have v70:=L.v70;have t76:=L.t76;have a76:=L.a76;have z76:=L.z76;have v76:=L.v76;have t77:=L.t77;have a77:=L.a77;have z77:=L.z77;have v77:=L.v77;have e14:∀args w,(callFunc (ρ.f 14) args).run P w=.ok (.enter (ρ.f 14) args) w:=L.f14.enters rfl;have e15:∀args w,(callFunc (ρ.f 15) args).run P w=.ok (.enter (ρ.f 15) args) w:=enters_of L.f15 (by kernel_rfl) rfl;have hp:=λK8 W=>tK (P:=P) (ρ:=ρ) {L with} p cap K8 fv W
 have hl:∀W,Calls P (ρ.f 15) #[.int .u64 1] W λe w'=>e=.returned (.int .i64 (Lib.bitLen 1:Nat))/\w'=W:=λW=>by
  have h:=Any.bits_Len (SlLaysF0.n15.bits (P:=P) (ρ:=ρ) {L with}) 1 W (by omega) (by omega)
  exact h
 obtain⟨_,_,FG⟩:=L.f6
 go_enter FG,SlBodyF.n6_ntmps ρ
 go_wp2_with (first|(go_at_fn (ρ.f 15);refine(hl _).mono ?_;rintro e w' ⟨rfl,rfl⟩)|(go_at_fn (ρ.f 14);refine(hp _ _).mono ?_;rintro e w' ⟨rfl,rfl⟩))
 go_end0
 exact⟨rfl,rfl⟩
end Go.Abs
namespace Go.Abs
open Go.RowKit (Below)
open Go.Proofs (ltOf CmpLays sortWorldK)
open Go.Shelf (Ren)
section
variable {P:Program} {O:Orc} {E:Env}
theorem QW {g:FuncId} {caps xs:G6} (h:SortOk O g caps xs):(FN O g caps xs).toList.Perm (A1B xs.length)/\Go.Sort.SortedIn (ltOf (mW O g caps xs)) 0 xs.length (FN O g caps xs):=by
 have hs:(A0o xs.length).size=xs.length:=by simp
 have:=Go.Sort.pdq_sorts (ltOf (mW O g caps xs)) h.swo (A0o xs.length) 0 xs.length (Lib.bitLen xs.length) true true (A1A _) (by rw[hs];exact A0i _) (Or.inl rfl);refine⟨?_,this.2⟩;obtain⟨h1,h2,h3⟩:=this.1;have e1:∀d:Array Nat,d.size=xs.length->d.extract 0 xs.length=d:=λd hd=>by rw[←hd];simp
 rw[e1 _ hs,e1 _ (h1.trans hs)]at h3;unfold FN;simpa using h3
theorem Up {g:FuncId} {caps xs:G6} (h:SortOk O g caps xs):(FN O g caps xs).size=xs.length:=by
 have:=(QW h).1.length_eq;simpa using this
theorem kK {g:FuncId} {caps xs:G6} (h:SortOk O g caps xs) {i:Nat} (hi:i<(FN O g caps xs).size):(FN O g caps xs)[i]! < xs.length:=by
 have hm:(FN O g caps xs)[i]!∈(FN O g caps xs).toList:=by
  rw[getElem!_pos _ i hi];exact Array.getElem_mem_toList hi
 have:=(QW h).1.mem_iff.1 hm;simpa using this
def MV (cur:Array Value) (off K n i:Nat):List Value:=(A1B K).map λc=>cur.getD (off+i7 n i*K+c) undef
theorem eK {cur:Array Value} {off K n i:Nat}:(MV cur off K n i).length=K:=by simp[MV]
theorem XS {cur:Array Value} {off K n i c:Nat} (hc:c<K):(MV cur off K n i)[c]?=some (cur.getD (off+i7 n i*K+c) undef):=by simp[MV,hc]
theorem OG.enc {cur:Array Value} {off K n i:Nat} {x:AV} (hi:i<n) (h:OG E cur (off+i*K) K x):(∀v∈MV cur off K n i,v.oneCell'=true)/\Dq E.w E.ok x.cells (MV cur off K n i):=by
 have Gk:i7 n i=i:=by unfold i7;rw[if_pos hi]
 obtain⟨h1,h2⟩:=h;have key:∀c,c<K->∃y,x.cells[c]?=some y/\(cur.getD (off+i*K+c) undef).oneCell'=true/\PV E.w E.ok y (cur.getD (off+i*K+c) undef):=by
  intro c hc;have A7:c<x.cells.length:=by omega
  obtain⟨v,e1,e2,e3⟩:=h2 c _ (A0Z A7);refine⟨_,A0Z A7,?_⟩;have:cur.getD (off+i*K+c) undef=v:=by rw[A0r,e1];rfl
  rw[this];exact⟨e2,e3⟩
 constructor
 .intro v hv;unfold MV at hv;rw[A08]at hv;obtain⟨c,hc,rfl⟩:=hv;rw[Gk];obtain⟨_,_,k,_⟩:=key c (by simpa using hc);exact k
 .refine VD (by rw[eK];exact h1.symm) λc y u hy hu=>?_;have hc:c<K:=by have:=(A0n.1 hy).1;omega
  rw[XS hc,Gk]at hu;cases hu;obtain⟨y',e1,_,e3⟩:=key c hc;rw[hy]at e1;cases e1;exact e3
theorem Xw {k:Nat} {f:Fam} (hf:E.h.fams[k]?=some f) (hw:f.wr=true) (hS:SR E) {b o:Nat} (ho:E.ok b o):b≠(E.im k).b:=by
 intro e;rcases ho with ⟨h1,_⟩|⟨_,_,_,h4⟩
 .have:=(hS.fams k f hf).base;omega
 .have:=(h4 k f hf e.symm).1;rw[hw]at this;cases this
theorem Yk {enc:Nat->List Value} {K blk off m:Nat} {dk:Array Nat} {os:Array Obj} {w:World} {b o:Nat} (hb:b<w.heap.size) (P4:b≠blk):KO w (sortWorldK enc K w blk off m dk os) b o:=by
 have hh:(sortWorldK enc K w blk off m dk os).heap[b]?=w.heap[b]?:=by
  unfold sortWorldK Go.Sort.grow;show ((Go.Sort.putRowK enc K (Go.Sort.ahead w m) blk off dk).heap++os)[b]?=_;have J4:(Go.Sort.putRowK enc K (Go.Sort.ahead w m) blk off dk).heap.size=w.heap.size:=Go.Sort.size_putRowK _ _ _ _ _ _;rw[A0y (by rw[J4];exact hb)];unfold Go.Sort.putRowK Go.Sort.putRow Go.Sort.mapBlock;simp only[Array.getElem?_modify];rw[if_neg (λe=>P4 e.symm)];rfl
 exact LP hh
theorem kL {ρ:Ren} (L:Go.Proofs.SlLaysF0.n6 P ρ) (hen:Program.enterable P (ρ.f 6)=true) (K:Nat) (aE:∀w,(isAgg (ρ.t 24)).run P w=.ok true w) (zE:∀w,(Go.sizeOf (ρ.t 24)).run P w=.ok K w)
  (hP:Qm P O) (args:List AV) (h:AH) (r:AV) (h':AH) (he:(ap K).run O args h=some (r,h')):Program.enterable P (ρ.f 6)=true /\
  ∀(E:Env) (vs:Array Value),SR E->E.h=h->Bm E args vs.toList ->
   Calls P (ρ.f 6) vs E.w λe w'=>∃u E',e=.returned u/\w'=E'.w/\Ext E E'/\SR E'/\E'.h=h'/\VR E' r u:=by
 refine⟨hen,λE vs hS hh hv=>?_⟩;subst hh;change LV K O args E.h=some (r,h')at he;unfold LV at he;split at he
 .rename_i k n off len g caps;split at he
  .rename_i f hf;split at he
   .rename_i hc;obtain⟨c1,rfl,c3,c4,c5,c6,c7,c8,c9,BJ⟩:=hc;cases he;subst c1;subst c3;obtain⟨vs⟩:=vs;simp only[Bm]at hv;obtain⟨v0,_,rfl,hv0,v1,_,rfl,hv1,rfl⟩:=hv;simp only[VR]at hv0 hv1;obtain⟨a,cap,f',rfl,hf',⟨_,_⟩,hv0⟩:=hv0;rw[hf]at hf';cases hf';obtain⟨us,rfl,WV⟩:=hv1;obtain⟨l1,_,l3,_,l5⟩:=hv0 rfl;have Tj:(E.im k).lo=0:=by omega
    have hfam:=hS.fams k f hf;have BK:=hfam.room;have hcap:cap=(E.im k).cap:=by omega
    have ha:a=some ⟨(E.im k).b,(E.im k).o,none⟩:=by
     have:=l5 (by omega);rw[Tj]at this;simpa using this
    subst ha;obtain⟨cur,t,hcur,Dy,Uz⟩:=hfam.cells;rw[Tj]at Uz;have hel':∀(i:Nat) (x:AV),f.xs[i]?=some x->OG E cur ((E.im k).o+i*K) K x:=λi x hx=>by
     have:=Uz i x (A1A _) hx;rw[c7]at this;simpa using this
    rw[c7]at Dy;generalize hn:f.xs.length=n at *
    have hblk:=hS.im_lt (A0n.1 hf).1;generalize hb:(E.im k).b=blk at *
    generalize ho:(E.im k).o=off at *
    have hnK:off+n*K<=cur.size:=by
     have:n*K<=(E.im k).cap*K:=Nat.mul_le_mul_right _ (by omega);omega
    have hget:∀i,i<n->∃x,f.xs[i]?=some x:=λi hi=>⟨_,A0Z (by omega)⟩;have henc:∀i,(∀v∈MV cur off K n i,v.oneCell'=true)/\∃cs,f.xs.getD (i7 n i) C5=.agg cs/\Dq E.w E.ok cs (MV cur off K n i):=by
     intro i;obtain⟨x,hx⟩:=hget (i7 n i) (JY c4);have e1:MV cur off K n i=MV cur off K n (i7 n i):=by
      unfold MV;have:i7 n (i7 n i)=i7 n i:=by
       have:=JY (i:=i) c4;show (if i7 n i<n then i7 n i else 0)=_
       rw[if_pos this]
      rw[this]
     obtain⟨k1,k2⟩:=(hel' _ x hx).enc (JY c4);rw[e1];refine⟨k1,?_⟩;have hag:x.isAgg=true:=A04.1 c9 x (A02 hx);have hgd:f.xs.getD (i7 n i) C5=x:=by rw[A0s,hx];rfl
     rw[hgd];cases x<;>simp only[AV.isAgg]at hag<;>try (cases hag;done)
     exact⟨_,rfl,k2⟩
    have hfr:E.w.heap[blk]?=some (.cells cur t (0,0)):=hcur;have hH:Go.Sort.HoldsK (MV cur off K n) K E.w blk off (A0o n):=by
     intro j hj;rw[Go.Sort.size_flatK]at hj;have hK:0<K:=by
                rcases Nat.eq_zero_or_pos K with h|h;· subst h;simp at hj
                .exact h
     have hjs:j<n*K:=by simpa using hj
     have hdiv:j / K<n:=Nat.div_lt_of_lt_mul (by rw[A0z];exact hjs);have hmod:j % K<K:=Nat.mod_lt _ hK;have hjj:j / K*K+j % K=j:=by rw[A0z];exact Nat.div_add_mod j K
     rw[Go.Sort.get_flatK _ _ _ _ hj];have e1:(A0o n)[j / K]! = j / K:=by rw[getElem!_pos _ _ (by simpa using hdiv)];simp
     rw[e1];have e2:(MV cur off K n (j / K))[j % K]! = cur.getD (off+j) undef:=by
      have:=XS (cur:=cur) (off:=off) (n:=n) (i:=j / K) hmod;rw[show i7 n (j / K)=j / K from by unfold i7;rw[if_pos hdiv],Nat.add_assoc,hjj]at this;rw[A0u,this];rfl
     rw[e2];refine⟨?_,by unfold World.frozen?;rw[hfr];simp⟩;rw[cell_of_row _ _ _ _ _ _ hfr,A0r,A0t (by omega)];rfl
    have hcmp:CmpLays P g us (MV cur off K n) K (mW O g caps f.xs) blk off (A0o n).size E.w:=by
     intro m os dk hdk x y;obtain⟨_,csx,ex,px⟩:=henc x;obtain⟨_,csy,ey,py⟩:=henc y;obtain⟨c,hc⟩:=BJ.ans (i7 n x) (i7 n y) (by rw[hn];exact JY c4) (by rw[hn];exact JY c4);have hcf:mW O g caps f.xs x y=c:=by unfold mW bW;rw[hn,hc]
     rw[hcf];rw[ex,ey]at hc;obtain⟨_,hcalls⟩:=hP g _ _ hc;have Hx:∀b o,E.ok b o->E.ok b o/\KO E.w (sortWorldK (MV cur off K n) K E.w blk off m dk os) b o:=λb o hbo =>
      ⟨hbo,Yk (UX hS hbo) (by rw[←hb];exact Xw hf c6 hS hbo)⟩
     have hcp:Dq E.w E.ok caps us.toList:=by
      refine VD (In WV).1 λj z u hz hu=>?_;obtain⟨u',hu',hvr⟩:=(In WV).2 hz;rw[hu]at hu';cases hu';exact Wj hvr (A04.1 c8 z (A02 hz))
     have hpv:Dq (sortWorldK (MV cur off K n) K E.w blk off m dk os) E.ok ([.agg csx,.agg csy]++caps) (#[Value.agg (MV cur off K n x).toArray,Value.agg (MV cur off K n y).toArray]++us).toList:=by
      refine f9 Hx _ _ ?_;simp only[Array.toList_append,List.cons_append,List.nil_append,Dq,PV];exact⟨_,_,rfl,⟨_,rfl,(henc x).1,px⟩,_,_,rfl,⟨_,rfl,(henc y).1,py⟩,hcp⟩
     refine(hcalls _ E.ok _ (λb o hbo=>Nat.lt_of_lt_of_le (UX hS hbo) (Go.Proofs.size_sortWorldK_c _ _ _ _ _ _ _ _)) hpv).mono λe w' ⟨u,h1,h2,h3⟩=>?_;simp only[PV]at h3;subst h3;exact⟨h1,ig h2⟩
    have hcalls:=Go.Proofs.AnyQ.slices_SortFunc_eq L K aE zE (MV cur off K n) (λ_=>eK) (λx=>(henc x).1) (mW O g caps f.xs) BJ.swo g us blk off cap (A0o n) E.w
     (λargs w=>eL (hP g _ _ (BJ.ans 0 0 (by omega) (by omega)).choose_spec).1 args w) hcmp hH hblk.2 (by simpa using c5)
    rw[show (A0o n).size=n from by simp]at hcalls;refine hcalls.mono λe w' ⟨h1,m,os,h2⟩=>?_;have hidx:Go.Sort.pdq (ltOf (mW O g caps f.xs)) (A0o n) 0 n (Lib.bitLen n) true true=FN O g caps f.xs:=by unfold FN;rw[hn]
    rw[hidx]at h2;have J4:=Up BJ;rw[hn]at J4;generalize hd:FN O g caps f.xs=d at *
    have A7:∀i,i<n->d[i]! < n:=λi hi=>by have:=kK BJ (i:=i) (by rw[hd];omega);rw[hd]at this;omega
    have hA:Bl E.w.heap.size E.w (Go.Sort.ahead E.w m):=⟨⟨rfl,rfl,rfl,A0i _,λ_ _=>rfl⟩,Nat.le_add_right _ _⟩;have x1:=Br hS hA;have s1:=HV hS hA;have hcur1:({E with w:=Go.Sort.ahead E.w m}:Env).w.heap[(({E with w:=Go.Sort.ahead E.w m}:Env).im k).b]?=some (.cells cur t (0,0)):=by
     show E.w.heap[(E.im k).b]?=_;rw[hb];exact hcur
    have hf1:({E with w:=Go.Sort.ahead E.w m}:Env).h.fams[k]?=some f:=hf
    have hfl:f.xs.length=({f with xs:=d.toList.map λi=>f.xs.getD i C5}:Fam).xs.length:=by simp;omega
    have x2:=Kt s1 hf1 (us:=Go.Sort.putCells id off (Go.Sort.flatK (MV cur off K n) K d) cur) (f':={f with xs:=d.toList.map λi=>f.xs.getD i C5}) hcur1 rfl rfl (A09 hfl) (λhw=>by rw[c6]at hw;cases hw)
    have s2:=Pj s1 hf1 (us:=Go.Sort.putCells id off (Go.Sort.flatK (MV cur off K n) K d) cur) (f':={f with xs:=d.toList.map λi=>f.xs.getD i C5}) hcur1 rfl rfl (A09 hfl) (λhw=>by rw[c6]at hw;cases hw)
     (by rw[←hfl];show f.xs.length<=(E.im k).lo+(E.im k).cap;omega) ZS (by
      intro i x _ hx;show OG _ _ ((E.im k).o+(i-(E.im k).lo)*f.sz) f.sz x;rw[Tj,ho,c7,Nat.sub_zero];simp only[A0q]at hx;have hi:i<n:=by
       rcases Nat.lt_or_ge i n with h|h
       .exact h
       .rw[A01 (by simp;omega)]at hx;cases hx
      have hdi:d.toList[i]?=some d[i]!:=by
       rw[getElem!_pos _ i (by omega)];simp[A0t (show i<d.size by omega)]
      rw[hdi]at hx;simp only[A00,Option.some.injEq]at hx;obtain⟨x',hx'⟩:=hget _ (A7 i hi);have qO:x'=x:=by rw[←hx,A0s,hx'];rfl
      subst qO;obtain⟨g1,g2⟩:=(hel' _ _ hx').ext x1;refine⟨g1,λc y hy=>?_⟩;have hcK:c<K:=by have:=(A0n.1 hy).1;omega
      obtain⟨v,e1,e2,e3⟩:=g2 c y hy;refine⟨v,?_,e2,e3⟩;have hik:i*K+c<n*K:=DH hi hcK;have hK0:0<K:=by omega
      rw[be,A0t (show off+i*K+c<cur.size by omega),A00,if_pos ⟨by omega,by rw[Go.Sort.size_flatK,J4];omega⟩];rw[show off+i*K+c-off=i*K+c from by omega,Go.Sort.get_flatK _ _ _ _ (by rw[J4];exact hik)];have q1:(i*K+c) / K=i:=by rw[A0z,Nat.mul_add_div hK0,Nat.div_eq_of_lt hcK,Nat.add_zero]
      have q2:(i*K+c) % K=c:=by rw[A0z,Nat.mul_add_mod,Nat.mod_eq_of_lt hcK]
      rw[q1,q2];have:=XS (cur:=cur) (off:=off) (n:=n) (i:=d[i]!) hcK;rw[show i7 n d[i]! = d[i]! from by unfold i7;rw[if_pos (A7 i hi)]]at this;rw[A0u,this];simp only[Option.getD_some];rw[A0r,e1];rfl)
    generalize hE2:({E with w:=Go.Sort.ahead E.w m}:Env).setFam k (Go.Sort.putCells id off (Go.Sort.flatK (MV cur off K n) K d) cur) {f with xs:=d.toList.map λi=>f.xs.getD i C5}=E2 at x2 s2
    have hw2:E2.w=Go.Sort.putRowK (MV cur off K n) K (Go.Sort.ahead E.w m) blk off d:=by
     rw[←hE2];show (Go.Sort.ahead E.w m).setRow (E.im k).b _=_;rw[hb];exact(VZ (w:=Go.Sort.ahead E.w m) hcur).symm
    have hB3:Bl E2.w.heap.size E2.w (Go.Sort.grow E2.w os):=by
     refine⟨⟨rfl,rfl,rfl,?_,λi hi=>?_⟩,A0i _⟩
     .simp[Go.Sort.grow]
     .show (E2.w.heap++os)[i]?=_;rw[A0y hi]
    refine⟨.tuple #[],{E2 with w:=Go.Sort.grow E2.w os},h1,?_,(x1.trans x2).trans (Br s2 hB3),HV s2 hB3,?_,FY _⟩
    .rw[h2];show _=Go.Sort.grow E2.w os;rw[hw2];rfl
    .show E2.h=_;rw[←hE2];rfl
   .cases he
  .cases he
 .rename_i q z xs g caps;split at he
  .rename_i h0;cases he;obtain⟨vs⟩:=vs;simp only[Bm]at hv;obtain⟨v0,_,rfl,hv0,v1,_,rfl,hv1,rfl⟩:=hv;simp only[VR,PV]at hv0;obtain⟨a,len,cap,rfl,hl,_⟩:=hv0;have A6:len=0\/len=1:=by omega
   rcases A6 with A6|A6
   .subst A6;refine(Go.Proofs.AnyF.slices_SortFunc_none L a cap v1 E.w).mono λe w' ⟨h1,h2⟩=>?_;exact⟨_,E,h1,h2,Ext.refl E,hS,rfl,FY _⟩
   .subst A6;refine(qK L a cap v1 E.w).mono λe w' ⟨h1,h2⟩=>?_;exact⟨_,E,h1,h2,Ext.refl E,hS,rfl,FY _⟩
  .cases he
 .cases he
end
end Go.Abs
