/- A part of the proof. -/
import Derived.Test.YtohjdamplbhdpaaGreatDoorSO12
set_option linter.all false
open List renaming getElem?_eq_getElem->A0Q,take_succ_eq_append_getElem->A0S,getElem?_append_right->A0T,map_append->A0U,getElem_mem->A0V,take_of_length_le->A0W,map_cons->A0X,getElem?_append_left->A0Y,map_nil->A0a,append_assoc->A0c,drop_eq_getElem_cons->A0d,getElem?_eq_some_iff->A0e,drop_eq_nil_of_le->A0g,getElem?_map->A0h,getD_eq_getElem?_getD->A0j,getElem!_eq_getElem?_getD->A0l,getElem?_set_ne->A0m,eq_nil_of_length_eq_zero->A0n,getElem?_eq_none->A0s,mem_of_getElem?->A0t,map_take->A0u,all_eq_true->A0v,any_append->A0w,length_map->A0x,mem_map->A0z,range->A02
open Bool renaming and_eq_true->A0R,false_eq_true->A0o,true_or->A0y
open Nat renaming le_refl->A0Z,mul_comm->A0q,le_of_eq->A00,zero_le->A01
open Option renaming bind_some->A0b,map_some->A0r
open Array renaming range->A0f,getD_eq_getD_getElem?->A0i,getElem?_eq_getElem->A0k,getElem?_append_left->A0p
namespace Go.Abs.Q
open Go.Proofs
attribute [local simp] E1 E5 fin J7 G4 P2 P1 E7
theorem jI (m:I7) (ns:List ByteArray) (j:Nat) (a:J2) (ha:ns[j]?=some a) (hs:a.size<=1099511627776) (fr:Fr) (h:AH) (hl:fr.length=92) (h3:A0 fr 3=sl m 1 (ns.map .str)) (h5:A0 fr 5=.int .i64 (j:Nat)) (h7:A0 fr 7=.int .i64 0) :
  B7 (lp (A2 (K8 Q) (D6 EA) y7) (fr,h)) λe C4 h'=>Kp y7.wr fr C4/\(e=.exit 2/\h'=h/\Qd a=false\/e=.ret/\A0 C4 2=.int .i64 2/\Qd a=true):=by
 refine B4 rfl fr (λn fr h'=>∃(i:Nat),i+n=(M0 a).length/\A0 fr 7=.int .i64 (i:Nat)/\h'=h/\((M0 a).drop i).contains 35=Qd a) ?_ (M0 a).length h ⟨0,by omega,h7,rfl,rfl⟩;rintro J Φ hJ hΦ n D5 H1 K ⟨i,hi,k7,hr⟩;have A6:=K.1.trans hl;have k3:=A8 K 3 h3;have k5:=A8 K 5 h5;clear K;by_cases A7:i<(M0 a).length
 .have J4:=K3 a;have L4:=C6 i (by omega);obtain⟨rfl,hr⟩:=hr;have hx:=G2 (f:=AV.str) ha;have t6:i<a.size:=by omega
  have HE:a[i]'t6=(M0 a)[i]:=by
   have:=GI a i;rw[getElem?_pos a i t6,A0Q A7]at this;exact Option.some.inj this
  rw[A0d A7,List.contains_cons]at hr;generalize (M0 a)[i]=c at *
  by_cases hc:c=35
  .subst hc;simp[y7,A6,k3,k5,k7,hx,t6,HE];exact hΦ _ _ _ (.inr ⟨rfl,by simp[A6],by rw[←hr];rfl⟩)
  .have hc':¬(c.toNat:Int)=35:=λh=>hc (UInt8.toNat_inj.1 (by have:(35:UInt8).toNat=35:=rfl;omega));have hb:(35 == c)=false:=by simp;exact λh=>hc h.symm
   rw[hb,Bool.false_or]at hr;simp[y7,A6,k3,k5,k7,L4,hx,t6,HE,hc'];exact E9 hJ ⟨i+1,by omega,by simp[A6],rfl,hr⟩
 .have J4:=K3 a;obtain⟨rfl,hr⟩:=hr;rw[A0g (by omega)]at hr;have hx:=G2 (f:=AV.str) ha;have t6:¬i<a.size:=by omega
  simp[y7,A6,k3,k5,k7,hx,t6];exact hΦ _ _ _ (.inl ⟨rfl,rfl,hr.symm⟩)
theorem ui (na:Nar) {i:Nat} (hi:i<(B5 na).length):∃f,(XB na)[i]?=some ((B5 na)[i],f) /\
  ((i<na.roles.length/\f=none)\/(na.roles.length<=i/\∃h:i-na.roles.length<na.fresh.length,f=some (na.fresh[i-na.roles.length]).role)\/(na.roles.length+na.fresh.length<=i/\f=none)):=by
 have hn:(B5 na)[i]?=some (B5 na)[i]:=A0Q hi;generalize (B5 na)[i]=a at *
 unfold B5 at hn hi;unfold XB;by_cases h1:i<na.roles.length
 .rw[A0c,A0Y h1]at hn;refine⟨none,?_,.inl ⟨h1,rfl⟩⟩;rw[A0c,A0Y (by simpa using h1),A0h,hn];rfl
 .by_cases h2:i-na.roles.length<na.fresh.length
  .rw[A0c,A0T (by omega),A0Y (by simpa using h2),A0h,A0Q h2]at hn;simp only[A0r,Option.some.injEq]at hn;subst hn;refine⟨some (na.fresh[i-na.roles.length]).role,?_,.inr (.inl ⟨by omega,h2,rfl⟩)⟩;rw[A0c,A0T (by simp;omega),A0x,A0Y (by simpa using h2),A0h,A0Q h2];rfl
  .rw[A0c,A0T (by omega),A0T (by simp;omega)]at hn;refine⟨none,?_,.inr (.inr ⟨by omega,rfl⟩)⟩;rw[A0c,A0T (by simp;omega),A0T (by simp;omega)];simp only[A0x,A0h]at hn ⊢;rw[hn];rfl
theorem ql {α:Type} {l:List α} {i:Nat} {x:α} (h:l[i]?=some x):l.drop i=x::l.drop (i+1):=by
 obtain⟨h1,h2⟩:=A0e.1 h;subst h2;exact A0d h1
theorem jJ (m:I7) (na:Nar) (S:Lens na) (hs:∀a∈B5 na,a.size<=1099511627776) (fr:Fr) (h:AH) (hh:h=⟨[(G8 na).cells],[]⟩) (hl:fr.length=92) (h1:A0 fr 1=.ptr 0 0) (h3:A0 fr 3=sl m 1 ((B5 na).map .str)) (h5:A0 fr 5=.int .i64 0) :
  B7 (lp (A2 (K8 Q) (D6 EA) Y2) (fr,h)) λe C4 h'=>Kp Y2.wr fr C4/\(e=.exit 0/\Hx na=0\/e=.ret/\A0 C4 2=.int .i64 (Hx na)):=by
 refine B4 rfl fr (λn fr h'=>∃(i:Nat),i+n=(B5 na).length/\A0 fr 5=.int .i64 (i:Nat)/\h'=⟨[(G8 na).cells],[]⟩/\Z7 na.roles ((B5 na).take i) ((XB na).drop i)=Hx na) ?_ (B5 na).length h ⟨0,by omega,h5,hh,rfl⟩;rintro J Φ hJ hΦ n D5 H1 K ⟨i,hi,k5,hr⟩;have A6:=K.1.trans hl;have k1:=A8 K 1 h1;have k3:=A8 K 3 h3;clear K;by_cases A7:i<(B5 na).length
 .have s0:=S.names;have hnl:(B5 na).length=na.roles.length+na.fresh.length+na.tags.length:=by simp[B5];omega
  have L4:=C6 i (by omega);obtain⟨rfl,hr⟩:=hr;have hx:=G2 (f:=AV.str) (A0Q A7);obtain⟨f,hg,hf⟩:=ui na A7;rw[ql hg]at hr;have XK:=A0Q A7;have J4:=hs _ (A0V A7);have GW:=jI m (B5 na) i (B5 na)[i] XK J4;have WY:=gR ⟨[(G8 na).cells],[]⟩ m 1 (by omega) ((B5 na).map .str) i (by simp;omega);obtain⟨m2,WY⟩:∃m2,YT ⟨[(G8 na).cells],[]⟩ 1 (sl m 1 ((B5 na).map .str)) (some none) (some (some (i:Int))) (some none)=some (sl m2 1 (((B5 na).take i).map .str),⟨[(G8 na).cells],[]⟩):=⟨_,by rw[WY,A0u]⟩;rw[E7,A0u]at WY;have hI:=HR m2 ((B5 na).take i) (B5 na)[i] (by rw[List.length_take];omega);rw[A0u]at hI;have hge:=bU (B5 na)[i] ((B5 na).take i);have hnx:∀b,ND ((B5 na).take i) (B5 na)[i] b=if Qd (B5 na)[i]=true then 2 else if b=true/\((B5 na)[i]=bs [101]\/(B5 na)[i]=bs [103])then 1 else if ((B5 na).take i).any (V4 (B5 na)[i])=true then 5 else 0:=λ_=>rfl
  have htk:(B5 na).take i++[(B5 na)[i]]=(B5 na).take (i+1):=by rw[A0S A7]
  generalize (B5 na)[i]=a at *
  generalize hP:((B5 na).take i).any (V4 a)=pb at *
  generalize hD:Hx na=D at *
  have i1:pb=true->0<=idx (V4 a) ((B5 na).take i):=λh=>hge.2 h;have i2:pb=false->¬0<=idx (V4 a) ((B5 na).take i):=λh h'=>by rw[h]at hge;exact nomatch (hge.1 h')
  clear hge;rcases hf with ⟨c1,rfl⟩|⟨c1,c2,rfl⟩|⟨c1,rfl⟩
  .have d1:¬(na.roles.length:Int)<=(i:Int):=by omega
   rw[PH,htk,hnx]at hr;simp only[A0o,false_and,if_false]at hr;simp[Y2,A6,k1,k3,k5,A7,A3 (show ¬na.roles.length<=i by omega)];refine B7.mono (GW _ _ ?_ ?_ ?_ ?_) ?_<;>first|(simp[A6,k3,k5];done)|skip
   rintro e R1 h2 ⟨K,⟨rfl,rfl,hh2⟩|⟨rfl,k2,hh2⟩⟩
   .have S7:R1.length=92:=K.1.trans (by simp[A6]);have k1fr2:A0 R1 1=.ptr 0 0:=A8 K 1 (by simp[k1]);have k3fr2:A0 R1 3=sl m 1 ((B5 na).map .str):=A8 K 3 (by simp[k3]);have k5fr2:A0 R1 5=.int .i64 (i:Nat):=A8 K 5 (by simp[k5]);have k6fr2:A0 R1 6=.bool false:=A8 K 6 (by simp[A6]);clear K;rw[hh2]at hr;cases pb with
    |true =>
     simp at hr;simp[S7,k3fr2,k5fr2,k6fr2,hx,WY,hI,B6 (i1 rfl)];exact hΦ _ _ _ (.inr ⟨rfl,by simp[S7,hr]⟩)
    |false =>
     simp at hr;simp[S7,k3fr2,k5fr2,k6fr2,hx,WY,hI,A3 (i2 rfl),L4];exact E9 hJ ⟨i+1,by omega,by simp[S7],by rw[E7],hr⟩
   .rw[hh2]at hr;simp at hr;simp;exact hΦ _ _ _ (.inr ⟨rfl,by rw[k2,hr]⟩)
  .have d1:(na.roles.length:Int)<=(i:Int):=by omega
   have w1:IntKind.i64.wrap ((na.roles.length:Int)+(na.fresh.length:Int))=(na.roles.length:Int)+(na.fresh.length:Int):=W2 (by omega) (by omega);have w2:IntKind.i64.wrap ((i:Int)-(na.roles.length:Int))=(i:Int)-(na.roles.length:Int):=W2 (by omega) (by omega);have d2:(i:Int)<(na.roles.length:Int)+(na.fresh.length:Int):=by omega
   have hfx:=G2 (f:=Lp) (A0Q c2);have ei:((i:Int)-(na.roles.length:Int)).toNat=i-na.roles.length:=by omega
   have hC:=HR na.rm na.roles (na.fresh[i-na.roles.length]).role (by omega);have hlt2:=SS (na.fresh[i-na.roles.length]).role na.roles;have d3:(0:Int)<=(i:Int)-(na.roles.length:Int):=by omega
   rw[VA,htk,hnx]at hr;generalize na.fresh[i-na.roles.length]=fx at *
   generalize na.roles.any (V4 fx.role)=rb at *
   have r1:rb=true->¬idx (V4 fx.role) na.roles<0:=λh h'=>by rw[h]at hlt2;exact nomatch (hlt2.1 h')
   simp[Y2,A6,k1,k3,k5,A7,B6 (show na.roles.length<=i by omega),w1,B6 d2];refine B7.mono (GW _ _ ?_ ?_ ?_ ?_) ?_<;>first|(simp[A6,k3,k5];done)|skip
   rintro e R1 h2 ⟨K,⟨rfl,rfl,hh2⟩|⟨rfl,k2,hh2⟩⟩
   .have S7:R1.length=92:=K.1.trans (by simp[A6]);have k1fr2:A0 R1 1=.ptr 0 0:=A8 K 1 (by simp[k1]);have k3fr2:A0 R1 3=sl m 1 ((B5 na).map .str):=A8 K 3 (by simp[k3]);have k5fr2:A0 R1 5=.int .i64 (i:Nat):=A8 K 5 (by simp[k5]);have k6fr2:A0 R1 6=.bool true:=A8 K 6 (by simp[A6]);clear K;rw[hh2]at hr;by_cases he:a=bs [101]
    .rw[if_neg (c:=false=true) (by simp),if_pos (c:=true=true/\(a=bs [101]\/a=bs [103])) ⟨rfl,.inl he⟩]at hr;simp at hr;simp[S7,k3fr2,k5fr2,k6fr2,hx,B6 he];exact hΦ _ _ _ (.inr ⟨rfl,by simp[S7,hr]⟩)
    by_cases he2:a=bs [103]
    .rw[if_neg (c:=false=true) (by simp),if_pos (c:=true=true/\(a=bs [101]\/a=bs [103])) ⟨rfl,.inr he2⟩]at hr;simp at hr;simp[S7,k3fr2,k5fr2,k6fr2,hx,A3 he,B6 he2];exact hΦ _ _ _ (.inr ⟨rfl,by simp[S7,hr]⟩)
    simp only[he,he2,or_self,and_false,A0o,if_false]at hr;cases pb with
    |true =>
     simp at hr;simp[S7,k3fr2,k5fr2,k6fr2,hx,A3 he,A3 he2,WY,hI,B6 (i1 rfl)];exact hΦ _ _ _ (.inr ⟨rfl,by simp[S7,hr]⟩)
    |false =>
     cases rb with
     |true =>
      simp at hr;simp[S7,k1fr2,k3fr2,k5fr2,k6fr2,hx,A3 he,A3 he2,WY,hI,A3 (i2 rfl),L4,w2,hfx,ei,c1,hC,A3 (r1 rfl)];exact E9 hJ ⟨i+1,by omega,by simp[S7],by rw[E7],hr⟩
     |false =>
      simp at hr;simp[S7,k1fr2,k3fr2,k5fr2,k6fr2,hx,A3 he,A3 he2,WY,hI,A3 (i2 rfl),w2,hfx,ei,c1,hC,B6 (hlt2.2 rfl)];exact hΦ _ _ _ (.inr ⟨rfl,by simp[S7,hr]⟩)
   .rw[hh2]at hr;simp at hr;simp;exact hΦ _ _ _ (.inr ⟨rfl,by rw[k2,hr]⟩)
  .have d1:(na.roles.length:Int)<=(i:Int):=by omega
   have w1:IntKind.i64.wrap ((na.roles.length:Int)+(na.fresh.length:Int))=(na.roles.length:Int)+(na.fresh.length:Int):=W2 (by omega) (by omega);have d2:¬(i:Int)<(na.roles.length:Int)+(na.fresh.length:Int):=by omega
   rw[PH,htk,hnx]at hr;simp only[A0o,false_and,if_false]at hr;simp[Y2,A6,k1,k3,k5,A7,B6 (show na.roles.length<=i by omega),w1,A3 d2];refine B7.mono (GW _ _ ?_ ?_ ?_ ?_) ?_<;>first|(simp[A6,k3,k5];done)|skip
   rintro e R1 h2 ⟨K,⟨rfl,rfl,hh2⟩|⟨rfl,k2,hh2⟩⟩
   .have S7:R1.length=92:=K.1.trans (by simp[A6]);have k1fr2:A0 R1 1=.ptr 0 0:=A8 K 1 (by simp[k1]);have k3fr2:A0 R1 3=sl m 1 ((B5 na).map .str):=A8 K 3 (by simp[k3]);have k5fr2:A0 R1 5=.int .i64 (i:Nat):=A8 K 5 (by simp[k5]);have k6fr2:A0 R1 6=.bool false:=A8 K 6 (by simp[A6]);clear K;rw[hh2]at hr;cases pb with
    |true =>
     simp at hr;simp[S7,k3fr2,k5fr2,k6fr2,hx,WY,hI,B6 (i1 rfl)];exact hΦ _ _ _ (.inr ⟨rfl,by simp[S7,hr]⟩)
    |false =>
     simp at hr;simp[S7,k3fr2,k5fr2,k6fr2,hx,WY,hI,A3 (i2 rfl),L4];exact E9 hJ ⟨i+1,by omega,by simp[S7],by rw[E7],hr⟩
   .rw[hh2]at hr;simp at hr;simp;exact hΦ _ _ _ (.inr ⟨rfl,by rw[k2,hr]⟩)
 .obtain⟨rfl,hr⟩:=hr;have Ul:(XB na).length=(B5 na).length:=by simp[XB,B5]
  rw[A0g (by omega)]at hr;simp only[Z7]at hr;simp[Y2,A6,k3,k5,A7];exact hΦ _ _ _ (.inl ⟨rfl,hr.symm⟩)
theorem cQ (na:Nar) (F:Fine na) (S:Lens na):pc Q EA [G8 na]=some (.int .i64 (Hx na)):=by
 have s0:=S.names;obtain⟨r,hNm,m,m',rfl⟩:=Xn na ⟨by omega,by omega,by omega⟩;unfold DJ at hNm;have GW:=jJ m na S (λa ha=>by
  unfold B5 at ha;simp only[List.mem_append,A0z]at ha;rcases ha with (ha|⟨f,hf,rfl⟩)|ha
  .exact F.roles a ha
  .exact(F.fresh f hf).2
  .exact F.tags a ha)
 generalize Hx na=D at *
 refine H5 Kw λfr hl h0=>?_;simp[Kw]at hl h0;simp[Kw,hl,h0,hNm];refine B7.mono (GW _ _ ?_ ?_ ?_ ?_ ?_) ?_<;>first|(simp[hl];done)|skip
 rintro e D5 Cv ⟨K,⟨rfl,hz⟩|⟨rfl,k4⟩⟩
 .have J0:D5.length=92:=K.1.trans (by simp[hl]);clear K;simp[J0,hz]
 .simp[k4]
end Go.Abs.Q
namespace Go.Abs.Q
open Go.Proofs
attribute [local simp] E1 E5 fin J7 G4 E7
theorem jG (na:Nar) (ns rs:List ByteArray) (B8:na.steps.length<=1099511627776) (IH:∀s∈na.steps,pc Q MZ [G8 na,El s]=some (.int .i64 (Gn ns rs s))) (fr:Fr) (h:AH) (hh:h=⟨[(G8 na).cells],[]⟩) (hl:fr.length=66) (h1:A0 fr 1=.ptr 0 0) (h6:A0 fr 6=.int .i64 0) :
  B7 (lp (A2 (K8 Q) (D6 ID) Ci) (fr,h)) λe C4 h'=>Kp Ci.wr fr C4/\(e=.exit 0/\h'=h/\S1 (Gn ns rs) Ste.line na.steps=(0,0)\/e=.ret/\A0 C4 2=.int .i64 (S1 (Gn ns rs) Ste.line na.steps).1/\A0 C4 3=.int .i64 (S1 (Gn ns rs) Ste.line na.steps).2/\S1 (Gn ns rs) Ste.line na.steps≠(0,0)):=by
 refine B4 rfl fr (λn fr h'=>∃(i:Nat),i+n=na.steps.length/\A0 fr 6=.int .i64 (i:Nat)/\h'=⟨[(G8 na).cells],[]⟩/\S1 (Gn ns rs) Ste.line (na.steps.drop i)=S1 (Gn ns rs) Ste.line na.steps) ?_ na.steps.length h ⟨0,by omega,h6,hh,rfl⟩;rintro J Φ hJ hΦ n D5 H1 K ⟨i,hi,k6,hr⟩;have A6:=K.1.trans hl;have k1:=A8 K 1 h1;clear K;by_cases A7:i<na.steps.length
 .have L4:=C6 i (by omega);obtain⟨rfl,hr⟩:=hr;have hx:=G2 (f:=El) (A0Q A7);have hI:=IH na.steps[i] (A0V A7);rw[A0d A7]at hr;simp only[S1]at hr;generalize na.steps[i]=t at *
  generalize Gn ns rs t=z at *
  generalize hgl:S1 (Gn ns rs) Ste.line na.steps=L at *
  by_cases hz:z=0
  .rw[if_neg (by simp[hz])]at hr;simp[Ci,A6,k1,k6,A7,L4,hx,hI,hz];exact E9 hJ ⟨i+1,by omega,by simp[A6],by simp[E7],hr⟩
  .rw[if_pos hz]at hr;simp[Ci,A6,k1,k6,A7,hx,hI,hz];exact hΦ _ _ _ (.inr ⟨rfl,by simp[A6,←hr],by simp[A6,←hr],by simp[←hr,hz]⟩)
 .obtain⟨rfl,hr⟩:=hr;rw[A0g (by omega)]at hr;simp[Ci,A6,k1,k6,A7];exact hΦ _ _ _ (.inl ⟨rfl,by rw[hh,E7],hr.symm⟩)
theorem jF (na:Nar) (ns rs:List ByteArray) (B8:na.goals.length<=1099511627776) (IH:∀s∈na.goals,pc Q Ez [G8 na,En s]=some (.int .i64 (Ik ns rs s))) (fr:Fr) (h:AH) (hh:h=⟨[(G8 na).cells],[]⟩) (hl:fr.length=66) (h1:A0 fr 1=.ptr 0 0) (h8:A0 fr 8=.int .i64 0) :
  B7 (lp (A2 (K8 Q) (D6 ID) Ch) (fr,h)) λe C4 h'=>Kp Ch.wr fr C4/\(e=.exit 2/\S1 (Ik ns rs) Gol.line na.goals=(0,0)\/e=.ret/\A0 C4 2=.int .i64 (S1 (Ik ns rs) Gol.line na.goals).1/\A0 C4 3=.int .i64 (S1 (Ik ns rs) Gol.line na.goals).2):=by
 refine B4 rfl fr (λn fr h'=>∃(i:Nat),i+n=na.goals.length/\A0 fr 8=.int .i64 (i:Nat)/\h'=⟨[(G8 na).cells],[]⟩/\S1 (Ik ns rs) Gol.line (na.goals.drop i)=S1 (Ik ns rs) Gol.line na.goals) ?_ na.goals.length h ⟨0,by omega,h8,hh,rfl⟩;rintro J Φ hJ hΦ n D5 H1 K ⟨i,hi,k8,hr⟩;have A6:=K.1.trans hl;have k1:=A8 K 1 h1;clear K;by_cases A7:i<na.goals.length
 .have L4:=C6 i (by omega);obtain⟨rfl,hr⟩:=hr;have hx:=G2 (f:=En) (A0Q A7);have hI:=IH na.goals[i] (A0V A7);rw[A0d A7]at hr;simp only[S1]at hr;generalize na.goals[i]=t at *
  generalize Ik ns rs t=z at *
  generalize hgl:S1 (Ik ns rs) Gol.line na.goals=L at *
  by_cases hz:z=0
  .rw[if_neg (by simp[hz])]at hr;simp[Ch,A6,k1,k8,A7,L4,hx,hI,hz];exact E9 hJ ⟨i+1,by omega,by simp[A6],by simp[E7],hr⟩
  .rw[if_pos hz]at hr;simp[Ch,A6,k1,k8,A7,hx,hI,hz];exact hΦ _ _ _ (.inr ⟨rfl,by simp[A6,←hr],by simp[A6,←hr]⟩)
 .obtain⟨rfl,hr⟩:=hr;rw[A0g (by omega)]at hr;simp[Ch,A6,k1,k8,A7];exact hΦ _ _ _ (.inl ⟨rfl,hr.symm⟩)
theorem oo (n:Nar) (F:Fine n) (S:Lens n):pc Q ID [G8 n]=some (.tup [.int .i64 (l8 n).1,.int .i64 (l8 n).2]):=by
 have hV:=Xz n F;have hD:=cQ n F S;have q1:=jG n (B5 n) n.roles F.stepsL (λs hs=>sj n S s (F.steps s hs).2.2);have q2:=jF n (B5 n) n.roles F.goalsL (λg hg=>sh n S g (F.goals g hg).2.2);have hE:l8 n=if PQ n≠0 then (0,PQ n)else if Hx n≠0 then (0,Hx n)
  else if S1 (Gn (B5 n) n.roles) Ste.line n.steps≠(0,0)then S1 (Gn (B5 n) n.roles) Ste.line n.steps else S1 (Ik (B5 n) n.roles) Gol.line n.goals:=rfl
 generalize l8 n=z at *
 generalize PQ n=e1 at *
 generalize Hx n=e2 at *
 generalize S1 (Gn (B5 n) n.roles) Ste.line n.steps=L1 at *
 generalize S1 (Ik (B5 n) n.roles) Gol.line n.goals=L2 at *
 refine H5 IR λfr hl h0=>?_;simp[IR]at hl h0;by_cases z1:e1=0
 .rw[if_neg (by simp[z1])]at hE;by_cases z2:e2=0
  .rw[if_neg (by simp[z2])]at hE;simp[IR,hl,h0,hV,z1,hD,z2];refine B7.mono (q1 _ _ ?_ ?_ ?_ ?_) ?_<;>first|(simp[hl];done)|rfl|skip
   rintro e D5 h1 ⟨K,⟨rfl,rfl,hz⟩|⟨rfl,k2,k3,hz⟩⟩
   .have J0:D5.length=66:=K.1.trans (by simp[hl]);have FS:A0 D5 1=.ptr 0 0:=A8 K 1 (by simp[hl]);clear K;rw[if_neg (by simp[hz])]at hE;simp;refine B7.mono (q2 _ _ ?_ ?_ ?_ ?_) ?_<;>first|(simp[J0,FS];done)|rfl|skip
    rintro e R1 h2 ⟨K,⟨rfl,hz⟩|⟨rfl,k2,k3⟩⟩
    .have S7:R1.length=66:=K.1.trans (by simp[J0]);clear K;simp[S7,hE,hz]
    .simp[k2,k3,hE]
   .rw[if_pos hz]at hE;simp[k2,k3,hE]
  .rw[if_pos z2]at hE;simp[IR,hl,h0,hV,z1,hD,z2,hE]
 .rw[if_pos z1]at hE;simp[IR,hl,h0,hV,z1,hE]
theorem dP {sz:Nat} {acc:G3} {v:AV} {h:AH} (hg:Dr sz acc v h):∃m,∀B:List (List AV),Ej ⟨B,h.fams⟩ true v=some (sl m sz acc):=by
 rcases hg with ⟨rfl,rfl⟩|⟨_,k,rfl,h3⟩
 .exact⟨(true,false),λB=>by rw[XE];exact congrArg some (l9 _ rfl _ _)⟩
 .exact⟨_,λB=>JQ (h:=⟨B,h.fams⟩) h3 rfl⟩
mutual
def gp (ns:List ByteArray):Tm->Bool
 | .mk k nm _ _ l=>(decide (k≠2)||ns.any (V4 nm))&&VD ns l
def VD (ns:List ByteArray):List Tm->Bool
 | []=>true
 |t::l=>gp ns t&&VD ns l
end
theorem rH (ns:List ByteArray) {l:G7} (h:VD ns l=true):∀t∈l,gp ns t=true:=by
 induction l with
 |nil=>intro t ht;cases ht
 |cons a l ih =>
  simp only[VD,A0R]at h;intro t ht;rcases List.mem_cons.1 ht with rfl|ht
  .exact h.1
  .exact ih h.2 t ht
@[simp] theorem tm_flatA (t:Tm):OD (B9 t)=true:=by cases t;rfl
theorem eu (na:Nar) (f:ByteArray->Int) (m:I7) (l:G7) (B8:l.length<=1099511627776) (IH:∀t∈l,∃t',pc Q Q7 [G8 na,B9 t]=some (B9 t')/\E3 t'=CI f t) (x0 x1 x2:AV) (C:G3) (fr:Fr) (h:AH) (hh:h.boxes=[(G8 na).cells,[x0,x1,x2,sl m 4 (A4 l)],C]) (h7:A0 fr 7=.vs true 0 []) (hl:fr.length=45) (h2:A0 fr 2=.ptr 0 0) (h3:A0 fr 3=.ptr 1 0) (h8:A0 fr 8=.int .i64 0) :
  B7 (lp (A2 (K8 Q) (D6 Q7) EX) (fr,h)) λe C4 h'=>Kp EX.wr fr C4/\e=.exit 0/\h'.boxes=h.boxes/\∃done:List Tm,Dr 4 (A4 done) (A0 C4 7) h'/\H4 done=m8 f l:=by
 refine B4 rfl fr (λn fr h'=>∃(i:Nat),i+n=l.length/\A0 fr 8=.int .i64 (i:Nat)/\h'.boxes=h.boxes/\(∃done:List Tm,Dr 4 (A4 done) (A0 fr 7) h'/\H4 done=m8 f (l.take i)/\done.length=i)) ?_ l.length h ⟨0,by omega,h8,rfl,[],by rw[h7];exact Ct _ _,by simp[H4,m8],rfl⟩;rintro J Φ hJ hΦ n D5 H1 K ⟨i,hi,k8,hr⟩;have A6:=K.1.trans hl;have k2:=A8 K 2 h2;have k3:=A8 K 3 h3;clear K;by_cases A7:i<l.length
 .have L4:=C6 i (by omega);obtain⟨hB,done,hg,hd,Di⟩:=hr;obtain⟨bx,fams⟩:=H1;rw[hh]at hB hJ;simp only at hB;subst hB;have hx:=H9 A7;obtain⟨t',hI,ht⟩:=IH l[i] (A0V A7);obtain⟨v',h',ha,Z6,Qo⟩:=Af (c:=D6 Q7) (bytes:=56) (x:=B9 t') hg rfl (true,true) (by simp;omega) (by simp;omega);have e2:H4 (done++[t'])=m8 f (l.take (i+1)):=by
   rw[A0S A7,E4,A0U,←E4,hd,JF,JF,A0U,A0X,A0a,A0X,A0a,ht]
  have hg2:Dr 4 (A4 (done++[t'])) v' h':=by rw[P8];exact Z6
  clear ht hd;generalize l[i]=t at *
  rw[E7]at ha;simp[EX,A6,k2,k3,k8,A7,L4,hx,hI,A5,ha];exact E9 hJ ⟨i+1,by omega,by simp[A6],by rw[Qo,E7],done++[t'],by simp[A6];exact hg2,e2,by simp[Di]⟩
 .obtain⟨hB,done,hg,hd,Di⟩:=hr;obtain⟨bx,fams⟩:=H1;rw[hh]at hB hΦ;simp only at hB;subst hB;rw[A0W (by omega)]at hd;simp[EX,A6,k3,k8,A7];exact hΦ _ _ _ ⟨rfl,by rw[E7],done,by simp;exact hg,hd⟩
theorem aL (na:Nar) (S:Lens na):∀(n:Nat) (t:Tm),t.size<=n->t.size<=1099511627776->I8 t=0->gp (B5 na) t=true->∃t',pc Q Q7 [G8 na,B9 t]=some (B9 t')/\E3 t'=CI (L0 (B5 na) (G6 na)) t:=by
 have s0:=S.names;intro n
 induction n with
 |zero=>intro t h;have:=t.size_pos;omega
 |succ n ih =>
  intro t hn hb P0 hkn;obtain⟨k,nm,s,m,kids⟩:=t;have J4:Tm.size (.mk k nm s m kids)=1+Tm.sizes kids:=rfl;have B8:=Tm.length_le kids;obtain⟨hne1,hne2⟩:=Q1 P0;simp only[gp,A0R,Bool.or_eq_true,decide_eq_true_eq]at hkn;have hkm:=rH _ hkn.2;have GW:=eu na (L0 (B5 na) (G6 na)) m kids (by omega) (λt ht=>ih t (by have:=Tm.size_le ht;omega) (by have:=Tm.size_le ht;omega) (K0 hne2 t ht) (hkm t ht));clear ih;obtain⟨r,hNm,m1,m2,rfl⟩:=Xn na ⟨by omega,by omega,by omega⟩;unfold DJ at hNm;have hI:=HR m1 (B5 na) nm (by simp[B5];omega)
  suffices h:∃v,pc Q Q7 [G8 na,B9 (.mk k nm s m kids)]=some v/\∃t',v=B9 t'/\E3 t'=CI (L0 (B5 na) (G6 na)) (.mk k nm s m kids) by
   obtain⟨v,h1,t',rfl,h2⟩:=h;exact⟨t',h1,h2⟩
  refine Sp Jy λΨ hΨ fr hl h0 h1=>?_;simp[Jy,B9]at hl h0 h1;by_cases hk:k=2
  .have hany:(B5 na).any (V4 nm)=true:=by
    rcases hkn.1 with h|h
    .exact absurd hk h
    .exact h
   have hge:0<=idx (V4 nm) (B5 na):=(bU _ _).2 hany;have A7:idx (V4 nm) (B5 na)<(0:Nat)+(B5 na).length:=KX (V4 nm) (B5 na) 0;have hix:(idx (V4 nm) (B5 na)).toNat<(G6 na).length:=by rw[←NC];omega
   have hx:=G2 (f:=AV.int .i64) (A0Q hix);have hls:L0 (B5 na) (G6 na) nm=(G6 na)[(idx (V4 nm) (B5 na)).toNat]:=by
    unfold L0;rw[if_pos hany,A0j,A0Q hix];rfl
   rw[←hls]at hx;simp[Jy,hl,h0,h1,B6 hk,hNm,hI,hge,hx];refine B7.mono (GW (.int .i64 k) (.str nm) (.int .i64 (L0 (B5 na) (G6 na) nm)) [.int .i64 0,.str (bs []),.int .i64 0,.vs true 0 []] _ _ ?_ ?_ ?_ ?_ ?_ ?_) ?_<;>first|(simp[hl];done)|skip
   rintro e D5 ⟨bx,fams⟩ ⟨K,rfl,hB,done,hg,hd⟩;simp only at hB;subst hB;have J0:D5.length=45:=K.1.trans (by simp[hl]);have OE:A0 D5 3=.ptr 1 0:=A8 K 3 (by simp[hl]);have Mt:A0 D5 4=.ptr 2 0:=A8 K 4 (by simp[hl]);clear K;obtain⟨c1,c2,c3⟩:=L5 hg;obtain⟨mm,hz⟩:=dP hg;generalize hv7:A0 D5 7=v7 at *
   simp[J0,OE,Mt,hv7,c1,c2,hz];exact hΨ _ ⟨.mk k nm (L0 (B5 na) (G6 na) nm) mm done,rfl,by simp[E3,CI,hk,hd]⟩
  .simp[Jy,hl,h0,h1,A3 hk];refine B7.mono (GW (.int .i64 k) (.str nm) (.int .i64 s) [.int .i64 0,.str (bs []),.int .i64 0,.vs true 0 []] _ _ ?_ ?_ ?_ ?_ ?_ ?_) ?_<;>first|(simp[hl];done)|skip
   rintro e D5 ⟨bx,fams⟩ ⟨K,rfl,hB,done,hg,hd⟩;simp only at hB;subst hB;have J0:D5.length=45:=K.1.trans (by simp[hl]);have OE:A0 D5 3=.ptr 1 0:=A8 K 3 (by simp[hl]);have Mt:A0 D5 4=.ptr 2 0:=A8 K 4 (by simp[hl]);clear K;obtain⟨c1,c2,c3⟩:=L5 hg;obtain⟨mm,hz⟩:=dP hg;generalize hv7:A0 D5 7=v7 at *
   simp[J0,OE,Mt,hv7,c1,c2,hz];exact hΨ _ ⟨.mk k nm s mm done,rfl,by simp[E3,CI,hk,hd]⟩
end Go.Abs.Q
namespace Go.Abs.Q
open Go.Proofs
attribute [local simp] E1 E5 fin J7 G4
structure Grx (sz:Nat) (acc:List AV) (v:AV) (h0 h:AH):Prop where
 g:Dr sz acc v h
 low:∀j,j<h0.fams.length->h.fams[j]?=h0.fams[j]?
 row:∀k n o l,v=.sl k n o l->h0.fams.length<=k
theorem ap (sz:Nat) (h0 h:AH) (e:h.fams=h0.fams):Grx sz [] (.vs true 0 []) h0 h:=⟨Ct _ _,λj _=>by rw[e],λk n o l h=>by cases h⟩
theorem jN {h0 h:AH} (hl:∀j,j<h0.fams.length->h.fams[j]?=h0.fams[j]?):h0.fams.length<=h.fams.length:=by
 apply Classical.byContradiction;intro hc;have h1:=hl h.fams.length (by omega);rw[A0s (A0Z _),A0Q (by omega)]at h1;cases h1
theorem an {sz:Nat} {acc:G3} {v:AV} {h h':AH} (hg:Dr sz acc v h) (hl:∀j,j<h.fams.length->h'.fams[j]?=h.fams[j]?):Dr sz acc v h':=by
 rcases hg with hg|⟨h1,k,h2,h3⟩
 .exact .inl hg
 .exact .inr ⟨h1,k,h2,by rw[hl k (H3 h3)];exact h3⟩
theorem Nv {sz:Nat} {acc:G3} {v:AV} {h0 h h':AH} (hg:Grx sz acc v h0 h) (hl:∀j,j<h.fams.length->h'.fams[j]?=h.fams[j]?):Grx sz acc v h0 h' :=
 ⟨an hg.g hl,λj hj=>by rw[hl j (by have:=jN hg.low;omega)];exact hg.low j hj,hg.row⟩
theorem uK {c:Ctx} {sz bytes:Nat} {acc ys:G3} {v x:AV} {h0 h:AH} (hg:Grx sz acc v h0 h) (hm:c.mutApp=false) (hx:AR h sz x=some ys)
  (hb:(acc.length+ys.length)*bytes<=H2/\acc.length+ys.length<=maxLen):∃v' h',K1 c h sz bytes v x=some (v',h')/\Grx sz (acc++ys) v' h0 h'/\h'.boxes=h.boxes:=by
 obtain⟨hg,hlow,hrow⟩:=hg;obtain⟨v',h',h1,h2,h3⟩:=Nu (c:=c) (bytes:=bytes) hg hm hx hb;refine⟨v',h',h1,⟨h2,?_,?_⟩,h3⟩
 .rcases hg with ⟨rfl,rfl⟩|⟨P0,k,rfl,hk⟩
  .rw[Pj,hx,A0b]at h1;split at h1
   .cases h1;exact hlow
   .split at h1
    .cases h1;intro j hj;have:=jN hlow;rw[←hlow j hj];exact A0Y (by omega)
    .cases h1
  .rw[LV,hx,A0b,hk,A0b]at h1;split at h1
   .cases h1;intro j hj;have:=hrow _ _ _ _ rfl;rw[←hlow j hj];exact A0m (by omega)
   .cases h1
 .rcases hg with ⟨rfl,rfl⟩|⟨P0,k,rfl,hk⟩
  .rw[Pj,hx,A0b]at h1;split at h1
   .cases h1;intro _ _ _ _ e;cases e
   .split at h1
    .cases h1;intro _ _ _ _ e;cases e;exact jN hlow
    .cases h1
  .rw[LV,hx,A0b,hk,A0b]at h1;split at h1
   .cases h1;intro _ _ _ _ e;cases e;exact hrow _ _ _ _ rfl
   .cases h1
theorem aq {c:Ctx} {sz bytes:Nat} {acc:G3} {v x:AV} {h0 h:AH} (hg:Grx sz acc v h0 h) (hm:c.mutApp=false) (m:I7)
  (hb:(acc.length+1)*bytes<=140737488355328) (hb':acc.length<=1099511627776):∃v' h',K1 c h sz bytes v (sl m sz [x])=some (v',h')/\Grx sz (acc++[x]) v' h0 h'/\h'.boxes=h.boxes :=
 uK hg hm (M9 h m sz [x]) (by simp only[H2,maxLen,List.length_singleton];omega)
theorem PB {sz:Nat} {acc:G3} {v:AV} {h:AH} (hg:Dr sz acc v h):∃m,∀(B:List (List AV)) (am:Bool),Ej ⟨B,h.fams⟩ am v=some (sl m sz acc):=by
 rcases hg with ⟨rfl,rfl⟩|⟨_,k,rfl,h3⟩
 .exact⟨(true,false),λB am=>by rw[XE];exact congrArg some (l9 _ rfl _ _)⟩
 .refine⟨(false,true),λB am=>?_⟩;rw[CS];simp only[h3,A0b];rw[if_pos (by simp),List.drop_zero,A0W (A0Z _)]
theorem nZ (na:Nar) (f:ByteArray->Int) (B8:na.steps.length<=1048576) (IH:∀s∈na.steps,∃t',pc Q Q7 [G8 na,B9 s.msg]=some (B9 t')/\E3 t'=CI f s.msg) (A1:G3) (o0 o1 o2 o3 o5:AV) (fr:Fr) (h:AH) (hh:h.boxes=[(G8 na).cells,A1,[o0,o1,o2,o3,.vs true 0 [],o5]]) (hl:fr.length=96) (h1:A0 fr 1=.ptr 0 0) (h7:A0 fr 7=.ptr 2 0) (h8:A0 fr 8=.int .i64 0) :
  B7 (lp (A2 (K8 Q) (D6 T7) DQ) (fr,h)) λe C4 h'=>Kp DQ.wr fr C4/\e=.exit 0/\∃(B:List (List AV)) (v:AV) (done:List Ste),h'.boxes=(G8 na).cells::A1::[o0,o1,o2,o3,v,o5]::B/\Grx 7 (done.map El) v h h'/\done.map Oz=na.steps.map (Ek f):=by
 refine B4 rfl fr (λn fr h'=>∃(i:Nat),i+n=na.steps.length/\A0 fr 8=.int .i64 (i:Nat)/\(∃(B:List (List AV)) (v:AV) (done:List Ste),h'.boxes=(G8 na).cells::A1::[o0,o1,o2,o3,v,o5]::B/\Grx 7 (done.map El) v h h'/\done.map Oz=(na.steps.take i).map (Ek f)/\done.length=i)) ?_ na.steps.length h ⟨0,by omega,h8,[],_,[],hh,ap _ _ _ rfl,by simp,by simp⟩;rintro J Φ hJ hΦ n D5 H1 K ⟨i,hi,k8,hr⟩;have A6:=K.1.trans hl;have k1:=A8 K 1 h1;have k7:=A8 K 7 h7;clear K;by_cases A7:i<na.steps.length
 .have L4:=C6 i (by omega);obtain⟨B,v,done,hB,hg,hd,Di⟩:=hr;obtain⟨bx,fams⟩:=H1;simp only at hB;subst hB;have hx:=G2 (f:=El) (A0Q A7);obtain⟨t',hI,ht⟩:=IH na.steps[i] (A0V A7);obtain⟨v',h',ha,Z6,Qo⟩:=aq (c:=D6 T7) (bytes:=96) (x:=El ⟨na.steps[i].frm,na.steps[i].to,t',na.steps[i].line⟩) (h:=⟨(G8 na).cells::A1::[o0,o1,o2,o3,v,o5]::(B++[(El ⟨na.steps[i].frm,na.steps[i].to,t',na.steps[i].line⟩).cells]),fams⟩) (Nv hg λ_ _=>rfl) rfl (true,true) (by simp;omega) (by simp;omega);have e2:(done++[Ste.mk na.steps[i].frm na.steps[i].to t' na.steps[i].line]).map Oz=(na.steps.take (i+1)).map (Ek f):=by
   rw[A0S A7,A0U,hd,A0U,A0X,A0a,A0X,A0a];simp only[Oz,ht,Ek]
  have e3:(done.map El++[El ⟨na.steps[i].frm,na.steps[i].to,t',na.steps[i].line⟩])=(done++[Ste.mk na.steps[i].frm na.steps[i].to t' na.steps[i].line]).map El:=by simp
  rw[e3]at Z6;have e6:=wj na.steps[i].frm na.steps[i].to t' na.steps[i].line;clear hd ht;generalize hY:done++[Ste.mk na.steps[i].frm na.steps[i].to t' na.steps[i].line]=Y at *
  have hYl:Y.length=i+1:=by rw[←hY];simp[Di]
  clear hY e3;generalize na.steps[i]=s at *
  obtain⟨bx',fams'⟩:=h';simp only at Qo;subst Qo;simp only[gW,E7]at ha;obtain⟨c1,c2,-⟩:=L5 Z6.g;simp[DQ,A6,k1,k7,k8,A7,L4,hx,hI,A5,e6,ha,E7,c1,c2];exact E9 hJ ⟨i+1,by omega,by simp[A6],_,v',Y,rfl,Nv Z6 λ_ _=>rfl,e2,hYl⟩
 .obtain⟨B,v,done,hB,hg,hd,Di⟩:=hr;obtain⟨bx,fams⟩:=H1;simp only at hB;subst hB;rw[A0W (by omega)]at hd;simp[DQ,A6,k1,k8,A7,E7];exact hΦ _ _ _ ⟨rfl,B,v,done,rfl,Nv hg λ_ _=>rfl,hd⟩
theorem nX (na:Nar) (f:ByteArray->Int) (j:Nat) (g:Gol) (hj:KN (na.goals.map En) j=some (En g)) (hjl:j<na.goals.length) (B8:g.data.length<=1048576) (IH:∀t∈g.data,∃t',pc Q Q7 [G8 na,B9 t]=some (B9 t')/\E3 t'=CI f t) (p:Nat) (hp0:0≠p) (g0 g1 g2 g4:AV) (fr:Fr) (h:AH) (hb0:h.boxes[0]?=some (G8 na).cells) (hbp:h.boxes[p]?=some [g0,g1,g2,.vs true 0 [],g4]) (hl:fr.length=96) (h1:A0 fr 1=.ptr 0 0) (h10:A0 fr 10=.int .i64 j) (h11:A0 fr 11=.ptr p 0) (h12:A0 fr 12=.int .i64 0) :
  B7 (lp (A2 (K8 Q) (D6 T7) DO) (fr,h)) λe C4 h'=>Kp DO.wr fr C4/\e=.exit 4/\∃(v:AV) (done:List Tm),h'.boxes=h.boxes.set p [g0,g1,g2,v,g4]/\Grx 4 (A4 done) v h h'/\H4 done=m8 f g.data:=by
 refine B4 rfl fr (λn fr h'=>∃(i:Nat),i+n=g.data.length/\A0 fr 12=.int .i64 (i:Nat)/\(∃(v:AV) (done:List Tm),h'.boxes=h.boxes.set p [g0,g1,g2,v,g4]/\Grx 4 (A4 done) v h h'/\H4 done=m8 f (g.data.take i)/\done.length=i)) ?_ g.data.length h ⟨0,by omega,h12,_,[],(DH hbp).symm,ap _ _ _ rfl,by simp[H4,m8],rfl⟩;rintro J Φ hJ hΦ n D5 H1 K ⟨i,hi,k12,hr⟩;have A6:=K.1.trans hl;have k1:=A8 K 1 h1;have k10:=A8 K 10 h10;have k11:=A8 K 11 h11;clear K;by_cases A7:i<g.data.length
 .have L4:=C6 i (by omega);obtain⟨v,done,hB,hg,hd,Di⟩:=hr;obtain⟨bx,fams⟩:=H1;simp only at hB;subst hB;have hx:=H9 A7;obtain⟨t',hI,ht⟩:=IH g.data[i] (A0V A7);have hpl:=H3 hbp;have q1:∀X,(h.boxes.set p X)[0]?=some (G8 na).cells:=λX=>by rw[A0m (Ne.symm hp0)];exact hb0
  have q2:∀X,(h.boxes.set p X)[p]?=some X:=λX=>List.getElem?_set_self hpl;obtain⟨v',h',ha,Z6,Qo⟩:=aq (c:=D6 T7) (bytes:=56) (x:=B9 t') hg rfl (true,true) (by simp;omega) (by simp;omega);have e2:H4 (done++[t'])=m8 f (g.data.take (i+1)):=by
   rw[A0S A7,E4,A0U,←E4,hd,JF,JF,A0U,A0X,A0a,A0X,A0a,ht]
  have hg2:Grx 4 (A4 (done++[t'])) v' h h':=by rw[P8];exact Z6
  clear ht hd;generalize g.data[i]=t at *
  obtain⟨bx',fams'⟩:=h';simp only at Qo;subst Qo;rw[E7]at q1;obtain⟨c1,c2,-⟩:=L5 Z6.g;simp[DO,A6,k1,k10,k11,k12,A7,L4,hx,hI,hj,A5,q1,q2,ha,c1,c2];exact E9 hJ ⟨i+1,by omega,by simp[A6],v',done++[t'],by simp,Nv hg2 λ_ _=>rfl,e2,by simp[Di]⟩
 .obtain⟨v,done,hB,hg,hd,Di⟩:=hr;obtain⟨bx,fams⟩:=H1;simp only at hB;subst hB;have hpl:=H3 hbp;have q1:∀X,(h.boxes.set p X)[0]?=some (G8 na).cells:=λX=>by rw[A0m (Ne.symm hp0)];exact hb0
  rw[A0W (by omega)]at hd;rw[E7]at q1;simp[DO,A6,k1,k10,k12,A7,hj,q1];exact hΦ _ _ _ ⟨rfl,v,done,rfl,Nv hg λ_ _=>rfl,hd⟩
theorem nY (na:Nar) (f:ByteArray->Int) (B8:na.goals.length<=1048576) (Di:∀g∈na.goals,g.data.length<=1048576) (IH:∀g∈na.goals,∀t∈g.data,∃t',pc Q Q7 [G8 na,B9 t]=some (B9 t')/\E3 t'=CI f t) (A1:G3) (o0 o1 o2 o3 o4:AV) (D:List (List AV)) (fr:Fr) (h:AH) (hh:h.boxes=(G8 na).cells::A1::[o0,o1,o2,o3,o4,.vs true 0 []]::D) (hl:fr.length=96) (h1:A0 fr 1=.ptr 0 0) (h7:A0 fr 7=.ptr 2 0) (h10:A0 fr 10=.int .i64 0) :
  B7 (lp (A2 (K8 Q) (D6 T7) DP) (fr,h)) λe C4 h'=>Kp DP.wr fr C4/\e=.exit 2/\∃(B:List (List AV)) (v:AV) (done:List Gol),h'.boxes=(G8 na).cells::A1::[o0,o1,o2,o3,o4,v]::B/\Grx 5 (done.map En) v h h'/\done.map mh=na.goals.map (VT f):=by
 refine B4 rfl fr (λn fr h'=>∃(i:Nat),i+n=na.goals.length/\A0 fr 10=.int .i64 (i:Nat)/\(∃(B:List (List AV)) (v:AV) (done:List Gol),h'.boxes=(G8 na).cells::A1::[o0,o1,o2,o3,o4,v]::B/\Grx 5 (done.map En) v h h'/\done.map mh=(na.goals.take i).map (VT f)/\done.length=i)) ?_ na.goals.length h ⟨0,by omega,h10,D,_,[],hh,ap _ _ _ rfl,rfl,rfl⟩;rintro J Φ hJ hΦ n D5 H1 K ⟨i,hi,k10,hr⟩;have A6:=K.1.trans hl;have k1:=A8 K 1 h1;have k7:=A8 K 7 h7;clear K;by_cases A7:i<na.goals.length
 .have L4:=C6 i (by omega);obtain⟨B,v,done,hB,hg,hd,hdn⟩:=hr;obtain⟨bx,fams⟩:=H1;simp only at hB;subst hB;have hx:=G2 (f:=En) (A0Q A7);have q1:=nX na f i na.goals[i] hx A7 (Di _ (A0V A7)) (IH _ (A0V A7)) (B.length+3) (by omega) (.int .i64 na.goals[i].kind) (.str na.goals[i].role) (.str na.goals[i].wth) (.int .i64 na.goals[i].line);have e2:∀g',mh g'=VT f na.goals[i]->(done++[g']).map mh=(na.goals.take (i+1)).map (VT f):=by
   intro g' he;rw[A0S A7,A0U,hd,A0U,A0X,A0a,A0X,A0a,he]
  clear hd;generalize na.goals[i]=g at *
  simp[DP,A6,k1,k10,A7,hx,E7];refine B7.mono (q1 _ _ ?_ ?_ ?_ ?_ ?_ ?_ ?_) ?_<;>first|(simp[A6,k1,k10,E7];done)|skip
  rintro e R1 ⟨bx2,fams2⟩ ⟨K,rfl,vd,dd,hB2,hgd,hdd⟩;have S7:R1.length=96:=K.1.trans (by simp[A6]);have k1fr2:A0 R1 1=.ptr 0 0:=A8 K 1 (by simp[k1]);have k7fr2:A0 R1 7=.ptr 2 0:=A8 K 7 (by simp[k7]);have k10fr2:A0 R1 10=.int .i64 (i:Nat):=A8 K 10 (by simp[k10]);have k11fr2:A0 R1 11=.ptr (B.length+3) 0:=A8 K 11 (by simp[A6]);clear K;have hg2:=Nv hg (h':=⟨bx2,fams2⟩) (λj hj=>hgd.low j hj);simp at hB2;subst hB2;obtain⟨m,hz⟩:=PB hgd.g;simp only at hz;obtain⟨v',⟨bx',fams'⟩,ha,Z6,Qo⟩:=aq (c:=D6 T7) (bytes:=72) (x:=En ⟨g.kind,g.role,g.wth,m,dd,g.line⟩) hg2 rfl (true,true) (by simp;omega) (by simp;omega);simp only at Qo;subst Qo;have e3:done.map En++[En ⟨g.kind,g.role,g.wth,m,dd,g.line⟩]=(done++[Gol.mk g.kind g.role g.wth m dd g.line]).map En:=by simp
  rw[e3]at Z6;have e4:=e2 ⟨g.kind,g.role,g.wth,m,dd,g.line⟩ (by simp[mh,VT,hdd]);have e6:=qv g.kind g.role g.wth m dd g.line;obtain⟨c1,c2,-⟩:=L5 Z6.g;simp[S7,k7fr2,k10fr2,k11fr2,hz,A5,e6,ha,L4,c1,c2];exact E9 hJ ⟨i+1,by omega,by simp[S7],_,v',_,rfl,Nv Z6 λ_ _=>rfl,e4,by simp[hdn]⟩
 .obtain⟨B,v,done,hB,hg,hd,hdn⟩:=hr;obtain⟨bx,fams⟩:=H1;simp only at hB;subst hB;rw[A0W (by omega)]at hd;simp[DP,A6,k1,k10,A7,E7];exact hΦ _ _ _ ⟨rfl,B,v,done,rfl,Nv hg λ_ _=>rfl,hd⟩
theorem bX {ns rs:List ByteArray} (hrs:∀a,rs.any (V4 a)=true->ns.any (V4 a)=true) {t:Tm} (hn:I8 t=0) (h:Bt rs t=true):gp ns t=true:=by
 obtain⟨k,nm,s,m,l⟩:=t;obtain⟨h1,_⟩:=Q1 hn;rw[Bt,A0R]at h;have hk:k=2:=of_decide_eq_true h.1;have hr:rs.any (V4 nm)=true:=h.2;have hl:l=[]:=A0n ((Gm h1).2.1 (.inr hk));subst hl;simp[gp,VD,hrs nm hr]
theorem lF {ns rs:List ByteArray} (hrs:∀a,rs.any (V4 a)=true->ns.any (V4 a)=true) {t:Tm} (hn:I8 t=0) (h:CJ rs t=true):gp ns t=true:=by
 obtain⟨k,nm,s,m,l⟩:=t;obtain⟨_,h2⟩:=Q1 hn;rw[CJ,A0R,s8,A0R,A0R]at h;obtain⟨⟨⟨hk,_⟩,hl⟩,hf⟩:=h;have hk:k=3:=of_decide_eq_true hk;have hl:(l.length:Int)=1:=of_decide_eq_true hl
 replace hf:TW (Bt rs) l=true:=hf
 subst hk
 replace hl:l.length=1:=by omega
 match l,hl,hf with
 | [a],_,hf=>simp[gp,VD,bX hrs (K0 h2 a (by simp)) hf]
theorem rI {ns rs:List ByteArray} (hrs:∀a,rs.any (V4 a)=true->ns.any (V4 a)=true) {t:Tm} (hn:I8 t=0) (h:HT rs t=true):gp ns t=true:=by
 obtain⟨k,nm,s,m,l⟩:=t;obtain⟨_,h2⟩:=Q1 hn;rw[HT,A0R,s8,A0R,A0R]at h;obtain⟨⟨⟨hk,_⟩,hl⟩,hf⟩:=h;have hk:k=3:=of_decide_eq_true hk;have hl:(l.length:Int)=1:=of_decide_eq_true hl
 replace hf:TW (CJ rs) l=true:=hf
 subst hk
 replace hl:l.length=1:=by omega
 match l,hl,hf with
 | [a],_,hf=>simp[gp,VD,lF hrs (K0 h2 a (by simp)) hf]
theorem iG (nm s) (m:I7) (l:G7) (x:J2) (n:Int):(s8 (.mk 3 nm s m l) x n=true)=(nm=x/\(l.length:Int)=n):=by
 rw[s8,A0R,A0R];exact propext ⟨λh=>⟨of_decide_eq_true h.1.2,of_decide_eq_true h.2⟩,λh=>⟨⟨decide_eq_true (p:=(3:Int)=3) rfl,decide_eq_true (p:=nm=x) h.1⟩,decide_eq_true (p:=(l.length:Int)=n) h.2⟩⟩
theorem lD (rs:List ByteArray) (nm s) (m:I7) (l:G7):Ix rs (.mk 3 nm s m l) =
  if (nm=bs [112,97,105,114]/\(l.length:Int)=2)\/(nm=bs [101,110,99]/\(l.length:Int)=2)then 2
  else if nm=bs [104,97,115,104]/\(l.length:Int)=1 then 1
  else if ((nm=bs [97,101,110,99]/\(l.length:Int)=2)/\QL (HT rs) l=true)\/((nm=bs [115,105,103,110]/\(l.length:Int)=2)/\QL (CJ rs) l=true)then 1
  else if HT rs (.mk 3 nm s m l)=true\/VS rs (.mk 3 nm s m l)=true then 0 else -1:=by
 unfold Ix;simp only[iG];rfl
theorem rJ {ns rs:List ByteArray} (hrs:∀a,rs.any (V4 a)=true->ns.any (V4 a)=true):∀(n:Nat) (t:Tm),t.size<=n->I8 t=0->x6 ns rs t=0->gp ns t=true:=by
 intro n
 induction n with
 |zero=>intro t h;have:=t.size_pos;omega
 |succ n ih =>
  intro t hn P0 hs;obtain⟨k,nm,s,m,l⟩:=t;have J4:Tm.size (.mk k nm s m l)=1+Tm.sizes l:=rfl;obtain⟨h1,h2⟩:=Q1 P0;by_cases hk:k=3
  .subst hk;rw[Sf]at hs;simp only[Tm.kind,ne_eq,not_true,if_false]at hs;split at hs
   .omega
   .rename_i hkd;have s9:=Em hs
    suffices hl:VD ns l=true by simp[gp,hl]
    have one:∀t∈l,x6 ns rs t=0->gp ns t=true:=λt ht h0=>ih t (by have:=Tm.size_le ht;omega) (K0 h2 t ht) h0;rw[lD]at s9 hkd;simp only[Tm.kids]at s9;by_cases c1:nm=bs [112,97,105,114]/\(l.length:Int)=2\/nm=bs [101,110,99]/\(l.length:Int)=2
    .rw[if_pos c1]at s9;have hl:l.length=2:=by omega
     match l,hl,s9,one with
     | [a,b],_,s9,one=>simp[VD,one a (by simp) (s9 a (by simp)),one b (by simp) (s9 b (by simp))]
    .rw[if_neg c1]at s9 hkd;by_cases c2:nm=bs [104,97,115,104]/\(l.length:Int)=1
     .rw[if_pos c2]at s9;have hl:l.length=1:=by omega
      match l,hl,s9,one with
      | [a],_,s9,one=>simp[VD,one a (by simp) (s9 a (by simp))]
     .rw[if_neg c2]at s9 hkd;by_cases c3:(nm=bs [97,101,110,99]/\(l.length:Int)=2)/\QL (HT rs) l=true\/(nm=bs [115,105,103,110]/\(l.length:Int)=2)/\QL (CJ rs) l=true
      .rw[if_pos c3]at s9;have hl:l.length=2:=by omega
       match l,hl,s9,one,c3,h2 with
       | [a,b],_,s9,one,c3,h2 =>
        have hb:gp ns b=true:=by
         rcases c3 with c3|c3
         .exact rI hrs (K0 h2 b (by simp)) c3.2
         .exact lF hrs (K0 h2 b (by simp)) c3.2
        simp[VD,one a (by simp) (s9 a (by simp)),hb]
      .rw[if_neg c3]at s9 hkd;by_cases c4:HT rs (.mk 3 nm s m l)=true\/VS rs (.mk 3 nm s m l)=true
       .rcases c4 with c4|c4
        .have:=rI hrs P0 c4;simpa[gp]using this
        .rw[VS,A0R,A0R,A0R,iG]at c4;obtain⟨⟨⟨⟨_,hl⟩,ha⟩,hb⟩,_⟩:=c4
         replace ha:TW (Bt rs) l=true:=ha
         replace hb:QL (Bt rs) l=true:=hb
         have hl:l.length=2:=by omega
         match l,hl,ha,hb,h2 with
         | [a,b],_,ha,hb,h2=>simp[VD,bX hrs (K0 h2 a (by simp)) ha,bX hrs (K0 h2 b (by simp)) hb]
       .rw[if_neg c4]at hkd;omega
  .have hb:=(Gm h1);have hl:l=[]:=A0n (hb.2.1 (by rcases hb.2.2.1 with h|h|h<;>omega))
   subst hl;rw[Sf]at hs;simp only[Tm.kind,ne_eq,hk,not_false_eq_true,if_true,Tm.name]at hs;by_cases h:ns.any (V4 nm)=true
   .simp[gp,VD,h]
   .replace hs:(if ns.any (V4 nm)=true then (0:Int)else 13)=0:=hs
    rw[if_neg h]at hs;omega
theorem Vz (n:Nar):∀a,n.roles.any (V4 a)=true->(B5 n).any (V4 a)=true:=by
 intro a h;unfold B5;rw[A0w,A0w,h,A0y,A0y]
theorem gN {ns rs:List ByteArray} {s:Ste} (h:Gn ns rs s=0):x6 ns rs s.msg=0:=by
 unfold Gn at h;split at h
 .rename_i h1;exact absurd h h1
 .exact h
theorem pq {ns rs:List ByteArray} {g:Gol} (h:Ik ns rs g=0):∀t∈g.data,x6 ns rs t=0:=by
 unfold Ik at h;split at h
 .omega
 .split at h
  .rename_i h1;exact absurd h h1.2
  .exact Em h
theorem ff (n:Nar) (F:Fine n) (S:Lens n):∃r,pc Q T7 [G8 n]=some (.tup [G8 r,.int .i64 (l8 n).1,.int .i64 (l8 n).2])/\((l8 n).2=0->Qn r=DI (L0 (B5 n) (G6 n)) n):=by
 suffices h:∃v,pc Q T7 [G8 n]=some v/\∃r,v=.tup [G8 r,.int .i64 (l8 n).1,.int .i64 (l8 n).2]/\((l8 n).2=0->Qn r=DI (L0 (B5 n) (G6 n)) n) by
  obtain⟨v,h1,r,rfl,h2⟩:=h;exact⟨r,h1,h2⟩
 have hC:=oo n F S;have nb:=E7 n;by_cases hz:(l8 n).2=0
 .obtain⟨hz0,hR⟩:=JE hz;obtain⟨k1,k2,k3⟩:=JB hR.nar;have hrk:=Vz n;have q1:=nZ n (L0 (B5 n) (G6 n)) S.steps (λs hs=>aL n S _ _ (A0Z _) (F.steps s hs).2.2 (Ka (Si (k2 s hs))) (rJ hrk _ _ (A0Z _) (Ka (Si (k2 s hs))) (gN (hR.steps s hs))));have q2:=nY n (L0 (B5 n) (G6 n)) S.goals S.data (λg hg t ht=>aL n S _ _ (A0Z _) (by have:=(F.goals g hg).2.2;have:=Tm.size_le ht;omega) (Ka (XH (k3 g hg) t ht)) (rJ hrk _ _ (A0Z _) (Ka (XH (k3 g hg) t ht)) (pq (hR.goals g hg) t ht)));rw[hz0]at hC ⊢;refine GU Cj λΨ hΨ fr hl h0=>?_;simp[Cj]at hl h0;simp[Cj,hl,h0,nb,hC];refine B7.mono (q1 [.str (bs []),.vs true 0 [],.vs true 0 [],.vs true 0 [],.vs true 0 [],.vs true 0 []] (.str n.name) (sl n.rm 1 (n.roles.map .str)) (sl n.fm 3 (n.fresh.map Lp)) (sl n.tm 1 (n.tags.map .str)) (.vs true 0 []) _ _ ?_ ?_ ?_ ?_ ?_) ?_<;>first|(simp[hl,nb];done)|skip
  rintro e D5 ⟨bx1,fams1⟩ ⟨K,rfl,B,v,done,hB,hg,hd⟩;have J0:D5.length=96:=K.1.trans (by simp[hl]);have FS:A0 D5 1=.ptr 0 0:=A8 K 1 (by simp[hl]);have GK:A0 D5 2=.ptr 1 0:=A8 K 2 (by simp[hl]);have k7fr1:A0 D5 7=.ptr 2 0:=A8 K 7 (by simp[hl]);clear K;simp only at hB;subst hB;simp;refine B7.mono (q2 [.str (bs []),.vs true 0 [],.vs true 0 [],.vs true 0 [],.vs true 0 [],.vs true 0 []] (.str n.name) (sl n.rm 1 (n.roles.map .str)) (sl n.fm 3 (n.fresh.map Lp)) (sl n.tm 1 (n.tags.map .str)) v B _ _ ?_ ?_ ?_ ?_ ?_) ?_<;>first|(simp[J0,FS,k7fr1];done)|rfl|skip
  rintro e R1 ⟨bx2,fams2⟩ ⟨K,rfl,B2,v2,done2,hB2,hg2,hd2⟩;have S7:R1.length=96:=K.1.trans (by simp[J0]);have k1fr2:A0 R1 1=.ptr 0 0:=A8 K 1 (by simp[FS]);have k2fr2:A0 R1 2=.ptr 1 0:=A8 K 2 (by simp[GK]);have k7fr2:A0 R1 7=.ptr 2 0:=A8 K 7 (by simp[k7fr1]);clear K;simp only at hB2;subst hB2;have hg1:=an hg.g hg2.low;obtain⟨m1,z1⟩:=PB hg1;obtain⟨m2,z2⟩:=PB hg2.g;simp only at z1 z2;simp[S7,k2fr2,k7fr2,z1,z2];exact hΨ _ ⟨⟨n.name,n.rm,n.roles,n.fm,n.fresh,n.tm,n.tags,m1,done,m2,done2⟩,rfl,λ_=>by simp[Qn,DI,hd,hd2]⟩
 .refine GU Cj λΨ hΨ fr hl h0=>?_;simp[Cj]at hl h0;simp[Cj,hl,h0,nb,hC,hz,E6,D2];exact hΨ _ ⟨ni,by rw[←Xh,l9 (true,false) rfl 1 1],λh=>absurd h hz⟩
end Go.Abs.Q
namespace Go.Abs.Q
open Go.Proofs
attribute [local simp] E1 E5 fin J7 G4 O2 L3 P2 P1
theorem ip (m:I7) (l:G7) (B8:l.length<=1099511627776) (IH:∀t∈l,∃t',pc Q i9 [B9 t]=some (B9 t')/\E3 t'=E3 t) (x0 x1 x2:AV) (C:G3) (fr:Fr) (h:AH) (hh:h.boxes=[[x0,x1,x2,.vs true 0 []],C]) (hl:fr.length=24) (h1:A0 fr 1=.ptr 0 0) (h9:A0 fr 9=sl m 4 (A4 l)) (h10:A0 fr 10=.int .i64 l.length) (h11:A0 fr 11=.int .i64 0) :
  B7 (lp (A2 (K8 Q) (D6 i9) HB) (fr,h)) λe C4 h'=>Kp HB.wr fr C4/\e=.exit 0/\∃(B:List (List AV)) (v:AV) (done:List Tm),h'.boxes=[x0,x1,x2,v]::C::B/\Dr 4 (A4 done) v h'/\H4 done=H4 l:=by
 refine B4 rfl fr (λn fr h'=>∃(i:Nat),i+n=l.length/\A0 fr 11=.int .i64 (i:Nat)/\(∃(B:List (List AV)) (v:AV) (done:List Tm),h'.boxes=[x0,x1,x2,v]::C::B/\Dr 4 (A4 done) v h'/\H4 done=H4 (l.take i)/\done.length=i)) ?_ l.length h ⟨0,by omega,h11,[],_,[],hh,Ct _ _,by simp[H4],rfl⟩;rintro J Φ hJ hΦ n D5 H1 K ⟨i,hi,k11,hr⟩;have A6:=K.1.trans hl;have k1:=A8 K 1 h1;have k9:=A8 K 9 h9;have k10:=A8 K 10 h10;clear K;by_cases A7:i<l.length
 .have L4:=C6 i (by omega);obtain⟨B,v,done,hB,hg,hd,Di⟩:=hr;obtain⟨bx,fams⟩:=H1;simp only at hB;subst hB;have hx:=H9 A7;obtain⟨t',hI,ht⟩:=IH l[i] (A0V A7);obtain⟨v',⟨bx',fams'⟩,ha,Z6,Qo⟩:=Af (c:=D6 i9) (bytes:=56) (x:=B9 t') (h:=⟨[x0,x1,x2,v]::C::(B++[(B9 l[i]).cells]),fams⟩) (Bg hg rfl) rfl (true,true) (by simp;omega) (by simp;omega);have e2:H4 (done++[t'])=H4 (l.take (i+1)):=by
   rw[A0S A7,E4,A0U,←E4,hd,E4,E4,A0U,A0X,A0a,A0X,A0a,ht]
  have hg2:Dr 4 (A4 (done++[t'])) v' ⟨bx',fams'⟩:=by rw[P8];exact Z6
  clear ht hd;generalize l[i]=t at *
  simp only at Qo;subst Qo;simp only[I1]at ha;obtain⟨c1,c2,-⟩:=L5 Z6;simp[HB,A6,k1,k9,k10,k11,A7,L4,hx,hI,A5,ha,c1,c2];exact E9 hJ ⟨i+1,by omega,by simp[A6],_,v',done++[t'],rfl,Bg hg2 rfl,e2,by simp[Di]⟩
 .obtain⟨B,v,done,hB,hg,hd,Di⟩:=hr;obtain⟨bx,fams⟩:=H1;simp only at hB;subst hB;rw[A0W (by omega)]at hd;simp[HB,A6,k10,k11,A7];exact hΦ _ _ _ ⟨rfl,B,v,done,rfl,hg,hd⟩
theorem Xr:∀(n:Nat) (t:Tm),t.size<=n->t.size<=1099511627776->∃t',pc Q i9 [B9 t]=some (B9 t')/\E3 t'=E3 t:=by
 intro n
 induction n with
 |zero=>intro t h;have:=t.size_pos;omega
 |succ n ih =>
  intro t hn hb;obtain⟨k,nm,s,m,kids⟩:=t;have J4:Tm.size (.mk k nm s m kids)=1+Tm.sizes kids:=rfl;have B8:=Tm.length_le kids;have GW:=ip m kids (by omega) (λt ht=>ih t (by have:=Tm.size_le ht;omega) (by have:=Tm.size_le ht;omega));clear ih
  suffices h:∃v,pc Q i9 [B9 (.mk k nm s m kids)]=some v/\∃t',v=B9 t'/\E3 t'=E3 (.mk k nm s m kids) by
   obtain⟨v,h1,t',rfl,h2⟩:=h;exact⟨t',h1,h2⟩
  refine GU QY λΨ hΨ fr hl h0=>?_;simp[QY,B9]at hl h0;simp[QY,hl,h0];refine B7.mono (GW (.int .i64 k) (.str nm) (.int .i64 s) [.int .i64 0,.str (bs []),.int .i64 0,.vs true 0 []] _ _ ?_ ?_ ?_ ?_ ?_ ?_) ?_<;>first|(simp[hl];done)|skip
  rintro e D5 ⟨bx,fams⟩ ⟨K,rfl,B,v,done,hB,hg,hd⟩;simp only at hB;subst hB;have J0:D5.length=24:=K.1.trans (by simp[hl]);have FS:A0 D5 1=.ptr 0 0:=A8 K 1 (by simp[hl]);have GK:A0 D5 2=.ptr 1 0:=A8 K 2 (by simp[hl]);clear K;obtain⟨mm,hz⟩:=PB hg;obtain⟨c1,c2,c3⟩:=L5 hg;simp[J0,FS,GK,hz];exact hΨ _ ⟨.mk k nm s mm done,rfl,by simp[E3,hd]⟩
theorem rR (fr:Fr) (h:AH) (hl:fr.length=32) (h9:A0 fr 9=.int .i64 0) (h10:A0 fr 10=.int .i64 0) :
  B7 (lp (A2 (K8 Q) (D6 SY) OR) (fr,h)) λe C4 h'=>Kp OR.wr fr C4/\e=.exit 0/\h'=h:=by
 refine B4 rfl fr (λn C4 h'=>C4=fr/\h'=h) ?_ 0 h ⟨rfl,rfl⟩;rintro J Φ hJ hΦ n D5 H1 K ⟨rfl,rfl⟩;simp[OR,hl,h9,h10];exact hΦ _ _ _ ⟨rfl,rfl⟩
theorem yB (m:I7) (t:Tm) (hb:t.size<=1099511627776):∃t',pc Q SY [B9 t,sl m 1 []]=some (.tup [B9 t',.int .i64 0])/\E3 t'=E3 t:=by
 obtain⟨t',hC,hE⟩:=Xr _ t (A0Z _) hb;refine⟨t',?_,hE⟩;refine O9 VX λfr hl h0 h1=>?_;simp[VX]at hl h0 h1;simp[VX,hl,h0,h1];refine B7.mono (rR _ _ ?_ ?_ ?_) ?_<;>first|(simp[hl];done)|skip
 rintro e D5 Cv ⟨K,rfl,rfl⟩;have J0:D5.length=32:=K.1.trans (by simp[hl]);have GK:A0 D5 2=.ptr 0 0:=A8 K 2 (by simp[hl]);have Mt:A0 D5 4=.ptr 1 0:=A8 K 4 (by simp[hl]);clear K;simp[J0,GK,Mt,hC]
theorem aF (t:Tm) (hb:t.size<=1099511627776):∃t',pc Q Ic [B9 t]=some (B9 t')/\E3 t'=E3 t:=by
 obtain⟨t',hA,hE⟩:=yB (true,false) t hb;refine⟨t',?_,hE⟩;refine H5 MI λfr hl h0=>?_;simp[MI]at hl h0;simp[MI,hl,h0,hA]
theorem fo (t:Tm) (nm:J2):pc Q Iz [B9 t,.str nm]=some (.bool (decide (t.kind=3)&&decide (t.name=nm))):=by
 refine O9 Rz λfr hl h0 h1=>?_;simp[Rz]at hl h0 h1;simp +contextual (maxSteps:=10000000) [Rz,hl,h0,h1]
theorem HF:∀(n:Nat) (t:Tm),t.size<=n->(E3 t).size=t.size:=by
 intro n
 induction n with
 |zero=>intro t h;have:=t.size_pos;omega
 |succ n ih =>
  intro t hn;obtain⟨k,nm,s,m,l⟩:=t;have J4:Tm.size (.mk k nm s m l)=1+Tm.sizes l:=rfl;have:∀l:List Tm,Tm.sizes l<=n->Tm.sizes (H4 l)=Tm.sizes l:=by
   intro l
   induction l with
   |nil=>intro _;rfl
   |cons a l ihl =>
    intro h;simp only[Tm.sizes]at h;simp only[H4,Tm.sizes,ih a (by omega),ihl (by omega)]
  rw[E3,Tm.size,this l (by omega),J4]
theorem RG:∀(l:G7),Tm.sizes (H4 l)=Tm.sizes l
 | []=>rfl
 |t::l=>by simp only[H4,Tm.sizes,HF _ t (A0Z _),RG l]
theorem XR (l:List UInt8):Op.bytesLess l l=false:=by
 induction l with
 |nil=>rfl
 |cons a l ih=>simp[Op.bytesLess,ih]
theorem mS (a:Int):Hw a a=0:=by simp[Hw]
theorem mQ (a:J2):U9 a a=0:=by simp[U9,XR]
theorem kZ:∀(n:Nat) (a b:Tm),a.size<=n->E3 a=E3 b->H6 a b=0:=by
 intro n
 induction n with
 |zero=>intro t _ h;have:=t.size_pos;omega
 |succ n ih =>
  intro a b hn he;obtain⟨k,nm,s,m,l⟩:=a;obtain⟨k',nm',s',m',l'⟩:=b;have J4:Tm.size (.mk k nm s m l)=1+Tm.sizes l:=rfl;simp only[E3,Tm.mk.injEq]at he;obtain⟨rfl,rfl,rfl,_,hl⟩:=he;have h1:Tm.sizes l=Tm.sizes l':=by rw[←RG l,hl,RG]
  have h2:l.length=l'.length:=by
   have:=congrArg List.length hl;simpa[E4]using this
  have:∀l l':List Tm,Tm.sizes l<=n->H4 l=H4 l'->Iw l l'=0:=by
   intro l
   induction l with
   |nil=>intro l' _ h;exact SL l'
   |cons a l ihl =>
    intro l' hs h;cases l' with
    |nil=>simp[H4]at h
    |cons b l' =>
     simp only[H4,List.cons.injEq]at h;simp only[Tm.sizes]at hs;simp[Iw,nz,ih a b (by omega) h.1,ihl l' (by omega) h.2]
  simp[H6,nz,mS,mQ,h1,h2,this l l' (by omega) hl]
end Go.Abs.Q
namespace Go.Abs
open Go.Proofs Go.Shelf Go.RowKit Go.Lib Go.Sort
variable {P:Program} {ρ:Ren}
set_option maxHeartbeats 2000000 in
theorem qx (L:SlLaysF0.n20 P ρ) (p:Option Addr) (cap:Nat) (fv:Value) (w:World) :
  Calls P (ρ.f 20) #[.slice p 1 cap,.int .i64 0,.int .i64 1,fv] w λe w'=>e=.returned (.tuple #[])/\w'=w:=by
 have mixed:=L.mixed;have t0:=L.t0;have a0:=L.a0;have z0:=L.z0;have v0:=L.v0;have t3:=L.t3;have a3:=L.a3;have z3:=L.z3;have v3:=L.v3;have t4:=L.t4;have a4:=L.a4;have z4:=L.z4;have v4:=L.v4;have t22:=L.t22;have a22:=L.a22;have z22:=L.z22;have v22:=L.v22;have t25:=L.t25;have a25:=L.a25;have z25:=L.z25;have v25:=L.v25;obtain⟨_,_,FG⟩:=L.f20
 go_enter FG,SlBodyF.n20_ntmps ρ
 go_wp2
 refine wp_loop_rounds 1 ?_;rw[rounds_succ]
 go_wp2
 go_end0
 exact⟨rfl,rfl⟩
set_option maxHeartbeats 2000000 in
theorem sx (L:SlLaysF0.n14 P ρ) (p:Option Addr) (cap:Nat) (K8:Int) (fv:Value) (w:World) :
  Calls P (ρ.f 14) #[.slice p 1 cap,.int .i64 0,.int .i64 1,.int .i64 K8,fv] w λe w'=>e=.returned (.tuple #[])/\w'=w:=by
 have mixed:=L.mixed;have t0:=L.t0;have a0:=L.a0;have z0:=L.z0;have v0:=L.v0;have t3:=L.t3;have a3:=L.a3;have z3:=L.z3;have v3:=L.v3;have t4:=L.t4;have a4:=L.a4;have z4:=L.z4;have v4:=L.v4;have t5:=L.t5;have a5:=L.a5;have z5:=L.z5;have v5:=L.v5;have t9:=L.t9;have a9:=L.a9;have z9:=L.z9;have v9:=L.v9;have t22:=L.t22;have a22:=L.a22;have z22:=L.z22;have v22:=L.v22;have t25:=L.t25;have a25:=L.a25;have z25:=L.z25;have v25:=L.v25;have t39:=L.t39;have a39:=L.a39;have z39:=L.z39;have v39:=L.v39;have t45:=L.t45;have a45:=L.a45;have z45:=L.z45;have v45:=L.v45;have t46:=L.t46;have a46:=L.a46;have z46:=L.z46;have v46:=L.v46;have t50:=L.t50;have a50:=L.a50;have z50:=L.z50;have v50:=L.v50;have t53:=L.t53;have a53:=L.a53;have z53:=L.z53;have v53:=L.v53;have t55:=L.t55;have a55:=L.a55;have z55:=L.z55;have v55:=L.v55;have t66:=L.t66;have a66:=L.a66;have z66:=L.z66;have v66:=L.v66;have t70:=L.t70;have a70:=L.a70;have z70:=L.z70;have v70:=L.v70;have t76:=L.t76;have a76:=L.a76;have z76:=L.z76;have v76:=L.v76;have t77:=L.t77;have a77:=L.a77;have z77:=L.z77;have v77:=L.v77;have e20:∀args w,(callFunc (ρ.f 20) args).run P w=.ok (.enter (ρ.f 20) args) w:=L.f20.enters rfl;have hi:=λW=>qx (P:=P) (ρ:=ρ) {L with} p cap fv W
 obtain⟨_,_,FG⟩:=L.f14
 go_enter FG,SlBodyF.n14_ntmps ρ
 go_wp2
 refine wp_loop_rounds 1 ?_;rw[rounds_succ]
 go_wp2_with (go_at_fn (ρ.f 20);refine(hi _).mono ?_;rintro e w' ⟨rfl,rfl⟩)
 (try simp only[Exit.inBlock,Exit.then]);refine bodyPost_ret (results_none rfl _ _ _) rfl ?_
 exact⟨rfl,rfl⟩
set_option maxHeartbeats 2000000 in
theorem pz (L:SlLaysF0.n6 P ρ) (p:Option Addr) (cap:Nat) (fv:Value) (w:World) :
  Calls P (ρ.f 6) #[.slice p 1 cap,fv] w λe w'=>e=.returned (.tuple #[])/\w'=w:=by
 have mixed:=L.mixed;have t0:=L.t0;have a0:=L.a0;have z0:=L.z0;have v0:=L.v0;have t3:=L.t3;have a3:=L.a3;have z3:=L.z3;have v3:=L.v3;have t4:=L.t4;have a4:=L.a4;have z4:=L.z4;have v4:=L.v4;have t5:=L.t5;have a5:=L.a5;have z5:=L.z5;have v5:=L.v5;have t9:=L.t9;have a9:=L.a9;have z9:=L.z9;have v9:=L.v9;have t22:=L.t22;have a22:=L.a22;have z22:=L.z22;have v22:=L.v22;have t25:=L.t25;have a25:=L.a25;have z25:=L.z25;have v25:=L.v25;have t39:=L.t39;have a39:=L.a39;have z39:=L.z39;have v39:=L.v39;have t45:=L.t45;have a45:=L.a45;have z45:=L.z45;have v45:=L.v45;have t46:=L.t46;have a46:=L.a46;have z46:=L.z46;have v46:=L.v46;have t50:=L.t50;have a50:=L.a50;have z50:=L.z50;have v50:=L.v50;have t53:=L.t53;have a53:=L.a53;have z53:=L.z53;have v53:=L.v53;have t55:=L.t55;have a55:=L.a55;have z55:=L.z55;have v55:=L.v55;have t66:=L.t66;have a66:=L.a66;have z66:=L.z66;have v66:=L.v66;have t70:=L.t70;have a70:=L.a70;have z70:=L.z70;have v70:=L.v70;have t76:=L.t76;have a76:=L.a76;have z76:=L.z76;have v76:=L.v76;have t77:=L.t77;have a77:=L.a77;have z77:=L.z77;have v77:=L.v77;have e14:∀args w,(callFunc (ρ.f 14) args).run P w=.ok (.enter (ρ.f 14) args) w:=L.f14.enters rfl;have e15:∀args w,(callFunc (ρ.f 15) args).run P w=.ok (.enter (ρ.f 15) args) w:=enters_of L.f15 (by kernel_rfl) rfl;have hp:=λK8 W=>sx (P:=P) (ρ:=ρ) {L with} p cap K8 fv W
 have hl:∀W,Calls P (ρ.f 15) #[.int .u64 1] W λe w'=>e=.returned (.int .i64 (Lib.bitLen 1:Nat))/\w'=W:=λW=>by
  have h:=Any.bits_Len (SlLaysF0.n15.bits (P:=P) (ρ:=ρ) {L with}) 1 W (by omega) (by omega)
  exact h
 obtain⟨_,_,FG⟩:=L.f6
 go_enter FG,SlBodyF.n6_ntmps ρ
 go_wp2_with (first|(go_at_fn (ρ.f 15);refine(hl _).mono ?_;rintro e w' ⟨rfl,rfl⟩)|(go_at_fn (ρ.f 14);refine(hp _ _).mono ?_;rintro e w' ⟨rfl,rfl⟩))
 go_end0
 exact⟨rfl,rfl⟩
end Go.Abs
namespace Go.Abs
open Go.RowKit (Below)
open Go.Proofs (ltOf CmpLays sortWorldK)
open Go.Shelf (Ren)
section
variable {P:Program} {O:Orc} {E:Env}
theorem QM {g:FuncId} {caps xs:G3} (h:SortOk O g caps xs):(FD O g caps xs).toList.Perm (A02 xs.length)/\Go.Sort.SortedIn (ltOf (mO O g caps xs)) 0 xs.length (FD O g caps xs):=by
 have hs:(A0f xs.length).size=xs.length:=by simp
 have:=Go.Sort.pdq_sorts (ltOf (mO O g caps xs)) h.swo (A0f xs.length) 0 xs.length (Lib.bitLen xs.length) true true (A01 _) (by rw[hs];exact A0Z _) (Or.inl rfl);refine⟨?_,this.2⟩;obtain⟨h1,h2,h3⟩:=this.1;have e1:∀d:Array Nat,d.size=xs.length->d.extract 0 xs.length=d:=λd hd=>by rw[←hd];simp
 rw[e1 _ hs,e1 _ (h1.trans hs)]at h3;unfold FD;simpa using h3
theorem Uc {g:FuncId} {caps xs:G3} (h:SortOk O g caps xs):(FD O g caps xs).size=xs.length:=by
 have:=(QM h).1.length_eq;simpa using this
theorem kC {g:FuncId} {caps xs:G3} (h:SortOk O g caps xs) {i:Nat} (hi:i<(FD O g caps xs).size):(FD O g caps xs)[i]! < xs.length:=by
 have hm:(FD O g caps xs)[i]!∈(FD O g caps xs).toList:=by
  rw[getElem!_pos _ i hi];exact Array.getElem_mem_toList hi
 have:=(QM h).1.mem_iff.1 hm;simpa using this
def MO (cur:Array Value) (off K n i:Nat):List Value:=(A02 K).map λc=>cur.getD (off+d7 n i*K+c) undef
theorem dv {cur:Array Value} {off K n i:Nat}:(MO cur off K n i).length=K:=by simp[MO]
theorem XA {cur:Array Value} {off K n i c:Nat} (hc:c<K):(MO cur off K n i)[c]?=some (cur.getD (off+d7 n i*K+c) undef):=by simp[MO,hc]
theorem Nt.enc {cur:Array Value} {off K n i:Nat} {x:AV} (hi:i<n) (h:Nt E cur (off+i*K) K x):(∀v∈MO cur off K n i,v.oneCell'=true)/\Dg E.w E.ok x.cells (MO cur off K n i):=by
 have GJ:d7 n i=i:=by unfold d7;rw[if_pos hi]
 obtain⟨h1,h2⟩:=h;have key:∀c,c<K->∃y,x.cells[c]?=some y/\(cur.getD (off+i*K+c) undef).oneCell'=true/\PV E.w E.ok y (cur.getD (off+i*K+c) undef):=by
  intro c hc;have A7:c<x.cells.length:=by omega
  obtain⟨v,e1,e2,e3⟩:=h2 c _ (A0Q A7);refine⟨_,A0Q A7,?_⟩;have:cur.getD (off+i*K+c) undef=v:=by rw[A0i,e1];rfl
  rw[this];exact⟨e2,e3⟩
 constructor
 .intro v hv;unfold MO at hv;rw[A0z]at hv;obtain⟨c,hc,rfl⟩:=hv;rw[GJ];obtain⟨_,_,k,_⟩:=key c (by simpa using hc);exact k
 .refine Up (by rw[dv];exact h1.symm) λc y u hy hu=>?_;have hc:c<K:=by have:=(A0e.1 hy).1;omega
  rw[XA hc,GJ]at hu;cases hu;obtain⟨y',e1,_,e3⟩:=key c hc;rw[hy]at e1;cases e1;exact e3
theorem Xi {k:Nat} {f:Fam} (hf:E.h.fams[k]?=some f) (hw:f.wr=true) (hS:SR E) {b o:Nat} (ho:E.ok b o):b≠(E.im k).b:=by
 intro e;rcases ho with ⟨h1,_⟩|⟨_,_,_,h4⟩
 .have:=(hS.fams k f hf).base;omega
 .have:=(h4 k f hf e.symm).1;rw[hw]at this;cases this
theorem YV {enc:Nat->List Value} {K blk off m:Nat} {dk:Array Nat} {os:Array Obj} {w:World} {b o:Nat} (hb:b<w.heap.size) (P0:b≠blk):KG w (sortWorldK enc K w blk off m dk os) b o:=by
 have hh:(sortWorldK enc K w blk off m dk os).heap[b]?=w.heap[b]?:=by
  unfold sortWorldK Go.Sort.grow;show ((Go.Sort.putRowK enc K (Go.Sort.ahead w m) blk off dk).heap++os)[b]?=_;have J4:(Go.Sort.putRowK enc K (Go.Sort.ahead w m) blk off dk).heap.size=w.heap.size:=Go.Sort.size_putRowK _ _ _ _ _ _;rw[A0p (by rw[J4];exact hb)];unfold Go.Sort.putRowK Go.Sort.putRow Go.Sort.mapBlock;simp only[Array.getElem?_modify];rw[if_neg (λe=>P0 e.symm)];rfl
 exact LH hh
theorem kD {ρ:Ren} (L:Go.Proofs.SlLaysF0.n6 P ρ) (hen:Program.enterable P (ρ.f 6)=true) (K:Nat) (aE:∀w,(isAgg (ρ.t 24)).run P w=.ok true w) (zE:∀w,(Go.sizeOf (ρ.t 24)).run P w=.ok K w)
  (hP:Qc P O) (args:List AV) (h:AH) (r:AV) (h':AH) (he:(aX K).run O args h=some (r,h')):Program.enterable P (ρ.f 6)=true /\
  ∀(E:Env) (vs:Array Value),SR E->E.h=h->Be E args vs.toList ->
   Calls P (ρ.f 6) vs E.w λe w'=>∃u E',e=.returned u/\w'=E'.w/\Ext E E'/\SR E'/\E'.h=h'/\VR E' r u:=by
 refine⟨hen,λE vs hS hh hv=>?_⟩;subst hh;change LO K O args E.h=some (r,h')at he;unfold LO at he;split at he
 .rename_i k n off len g caps;split at he
  .rename_i f hf;split at he
   .rename_i hc;obtain⟨c1,rfl,c3,c4,c5,c6,c7,c8,c9,Bf⟩:=hc;cases he;subst c1;subst c3;obtain⟨vs⟩:=vs;simp only[Be]at hv;obtain⟨v0,_,rfl,hv0,v1,_,rfl,hv1,rfl⟩:=hv;simp only[VR]at hv0 hv1;obtain⟨a,cap,f',rfl,hf',⟨_,_⟩,hv0⟩:=hv0;rw[hf]at hf';cases hf';obtain⟨us,rfl,WI⟩:=hv1;obtain⟨l1,_,l3,_,l5⟩:=hv0 rfl;have TY:(E.im k).lo=0:=by omega
    have hfam:=hS.fams k f hf;have BF:=hfam.room;have hcap:cap=(E.im k).cap:=by omega
    have ha:a=some ⟨(E.im k).b,(E.im k).o,none⟩:=by
     have:=l5 (by omega);rw[TY]at this;simpa using this
    subst ha;obtain⟨cur,t,hcur,Dn,Ul⟩:=hfam.cells;rw[TY]at Ul;have hel':∀(i:Nat) (x:AV),f.xs[i]?=some x->Nt E cur ((E.im k).o+i*K) K x:=λi x hx=>by
     have:=Ul i x (A01 _) hx;rw[c7]at this;simpa using this
    rw[c7]at Dn;generalize hn:f.xs.length=n at *
    have hblk:=hS.im_lt (A0e.1 hf).1;generalize hb:(E.im k).b=blk at *
    generalize ho:(E.im k).o=off at *
    have hnK:off+n*K<=cur.size:=by
     have:n*K<=(E.im k).cap*K:=Nat.mul_le_mul_right _ (by omega);omega
    have hget:∀i,i<n->∃x,f.xs[i]?=some x:=λi hi=>⟨_,A0Q (by omega)⟩;have henc:∀i,(∀v∈MO cur off K n i,v.oneCell'=true)/\∃cs,f.xs.getD (d7 n i) C5=.agg cs/\Dg E.w E.ok cs (MO cur off K n i):=by
     intro i;obtain⟨x,hx⟩:=hget (d7 n i) (JN c4);have e1:MO cur off K n i=MO cur off K n (d7 n i):=by
      unfold MO;have:d7 n (d7 n i)=d7 n i:=by
       have:=JN (i:=i) c4;show (if d7 n i<n then d7 n i else 0)=_
       rw[if_pos this]
      rw[this]
     obtain⟨k1,k2⟩:=(hel' _ x hx).enc (JN c4);rw[e1];refine⟨k1,?_⟩;have hag:x.isAgg=true:=A0v.1 c9 x (A0t hx);have hgd:f.xs.getD (d7 n i) C5=x:=by rw[A0j,hx];rfl
     rw[hgd];cases x<;>simp only[AV.isAgg]at hag<;>try (cases hag;done)
     exact⟨_,rfl,k2⟩
    have hfr:E.w.heap[blk]?=some (.cells cur t (0,0)):=hcur;have hH:Go.Sort.HoldsK (MO cur off K n) K E.w blk off (A0f n):=by
     intro j hj;rw[Go.Sort.size_flatK]at hj;have hK:0<K:=by
                rcases Nat.eq_zero_or_pos K with h|h;· subst h;simp at hj
                .exact h
     have hjs:j<n*K:=by simpa using hj
     have hdiv:j / K<n:=Nat.div_lt_of_lt_mul (by rw[A0q];exact hjs);have hmod:j % K<K:=Nat.mod_lt _ hK;have hjj:j / K*K+j % K=j:=by rw[A0q];exact Nat.div_add_mod j K
     rw[Go.Sort.get_flatK _ _ _ _ hj];have e1:(A0f n)[j / K]! = j / K:=by rw[getElem!_pos _ _ (by simpa using hdiv)];simp
     rw[e1];have e2:(MO cur off K n (j / K))[j % K]! = cur.getD (off+j) undef:=by
      have:=XA (cur:=cur) (off:=off) (n:=n) (i:=j / K) hmod;rw[show d7 n (j / K)=j / K from by unfold d7;rw[if_pos hdiv],Nat.add_assoc,hjj]at this;rw[A0l,this];rfl
     rw[e2];refine⟨?_,by unfold World.frozen?;rw[hfr];simp⟩;rw[cell_of_row _ _ _ _ _ _ hfr,A0i,A0k (by omega)];rfl
    have hcmp:CmpLays P g us (MO cur off K n) K (mO O g caps f.xs) blk off (A0f n).size E.w:=by
     intro m os dk hdk x y;obtain⟨_,csx,ex,px⟩:=henc x;obtain⟨_,csy,ey,py⟩:=henc y;obtain⟨c,hc⟩:=Bf.ans (d7 n x) (d7 n y) (by rw[hn];exact JN c4) (by rw[hn];exact JN c4);have hcf:mO O g caps f.xs x y=c:=by unfold mO bG;rw[hn,hc]
     rw[hcf];rw[ex,ey]at hc;obtain⟨_,hcalls⟩:=hP g _ _ hc;have Hg:∀b o,E.ok b o->E.ok b o/\KG E.w (sortWorldK (MO cur off K n) K E.w blk off m dk os) b o:=λb o hbo =>
      ⟨hbo,YV (UL hS hbo) (by rw[←hb];exact Xi hf c6 hS hbo)⟩
     have hcp:Dg E.w E.ok caps us.toList:=by
      refine Up (IW WI).1 λj z u hz hu=>?_;obtain⟨u',hu',hvr⟩:=(IW WI).2 hz;rw[hu]at hu';cases hu';exact WU hvr (A0v.1 c8 z (A0t hz))
     have hpv:Dg (sortWorldK (MO cur off K n) K E.w blk off m dk os) E.ok ([.agg csx,.agg csy]++caps) (#[Value.agg (MO cur off K n x).toArray,Value.agg (MO cur off K n y).toArray]++us).toList:=by
      refine d6 Hg _ _ ?_;simp only[Array.toList_append,List.cons_append,List.nil_append,Dg,PV];exact⟨_,_,rfl,⟨_,rfl,(henc x).1,px⟩,_,_,rfl,⟨_,rfl,(henc y).1,py⟩,hcp⟩
     refine(hcalls _ E.ok _ (λb o hbo=>Nat.lt_of_lt_of_le (UL hS hbo) (Go.Proofs.size_sortWorldK_c _ _ _ _ _ _ _ _)) hpv).mono λe w' ⟨u,h1,h2,h3⟩=>?_;simp only[PV]at h3;subst h3;exact⟨h1,iV h2⟩
    have hcalls:=Go.Proofs.AnyQ.slices_SortFunc_eq L K aE zE (MO cur off K n) (λ_=>dv) (λx=>(henc x).1) (mO O g caps f.xs) Bf.swo g us blk off cap (A0f n) E.w
     (λargs w=>dw (hP g _ _ (Bf.ans 0 0 (by omega) (by omega)).choose_spec).1 args w) hcmp hH hblk.2 (by simpa using c5)
    rw[show (A0f n).size=n from by simp]at hcalls;refine hcalls.mono λe w' ⟨h1,m,os,h2⟩=>?_;have hidx:Go.Sort.pdq (ltOf (mO O g caps f.xs)) (A0f n) 0 n (Lib.bitLen n) true true=FD O g caps f.xs:=by unfold FD;rw[hn]
    rw[hidx]at h2;have J4:=Uc Bf;rw[hn]at J4;generalize hd:FD O g caps f.xs=d at *
    have A7:∀i,i<n->d[i]! < n:=λi hi=>by have:=kC Bf (i:=i) (by rw[hd];omega);rw[hd]at this;omega
    have hA:Bl E.w.heap.size E.w (Go.Sort.ahead E.w m):=⟨⟨rfl,rfl,rfl,A0Z _,λ_ _=>rfl⟩,Nat.le_add_right _ _⟩;have x1:=Bk hS hA;have s1:=HG hS hA;have hcur1:({E with w:=Go.Sort.ahead E.w m}:Env).w.heap[(({E with w:=Go.Sort.ahead E.w m}:Env).im k).b]?=some (.cells cur t (0,0)):=by
     show E.w.heap[(E.im k).b]?=_;rw[hb];exact hcur
    have hf1:({E with w:=Go.Sort.ahead E.w m}:Env).h.fams[k]?=some f:=hf
    have hfl:f.xs.length=({f with xs:=d.toList.map λi=>f.xs.getD i C5}:Fam).xs.length:=by simp;omega
    have x2:=Ki s1 hf1 (us:=Go.Sort.putCells id off (Go.Sort.flatK (MO cur off K n) K d) cur) (f':={f with xs:=d.toList.map λi=>f.xs.getD i C5}) hcur1 rfl rfl (A00 hfl) (λhw=>by rw[c6]at hw;cases hw)
    have s2:=PY s1 hf1 (us:=Go.Sort.putCells id off (Go.Sort.flatK (MO cur off K n) K d) cur) (f':={f with xs:=d.toList.map λi=>f.xs.getD i C5}) hcur1 rfl rfl (A00 hfl) (λhw=>by rw[c6]at hw;cases hw)
     (by rw[←hfl];show f.xs.length<=(E.im k).lo+(E.im k).cap;omega) ZF (by
      intro i x _ hx;show Nt _ _ ((E.im k).o+(i-(E.im k).lo)*f.sz) f.sz x;rw[TY,ho,c7,Nat.sub_zero];simp only[A0h]at hx;have hi:i<n:=by
       rcases Nat.lt_or_ge i n with h|h
       .exact h
       .rw[A0s (by simp;omega)]at hx;cases hx
      have hdi:d.toList[i]?=some d[i]!:=by
       rw[getElem!_pos _ i (by omega)];simp[A0k (show i<d.size by omega)]
      rw[hdi]at hx;simp only[A0r,Option.some.injEq]at hx;obtain⟨x',hx'⟩:=hget _ (A7 i hi);have qD:x'=x:=by rw[←hx,A0j,hx'];rfl
      subst qD;obtain⟨g1,g2⟩:=(hel' _ _ hx').ext x1;refine⟨g1,λc y hy=>?_⟩;have hcK:c<K:=by have:=(A0e.1 hy).1;omega
      obtain⟨v,e1,e2,e3⟩:=g2 c y hy;refine⟨v,?_,e2,e3⟩;have hik:i*K+c<n*K:=Cz hi hcK;have hK0:0<K:=by omega
      rw[bR,A0k (show off+i*K+c<cur.size by omega),A0r,if_pos ⟨by omega,by rw[Go.Sort.size_flatK,J4];omega⟩];rw[show off+i*K+c-off=i*K+c from by omega,Go.Sort.get_flatK _ _ _ _ (by rw[J4];exact hik)];have q1:(i*K+c) / K=i:=by rw[A0q,Nat.mul_add_div hK0,Nat.div_eq_of_lt hcK,Nat.add_zero]
      have q2:(i*K+c) % K=c:=by rw[A0q,Nat.mul_add_mod,Nat.mod_eq_of_lt hcK]
      rw[q1,q2];have:=XA (cur:=cur) (off:=off) (n:=n) (i:=d[i]!) hcK;rw[show d7 n d[i]! = d[i]! from by unfold d7;rw[if_pos (A7 i hi)]]at this;rw[A0l,this];simp only[Option.getD_some];rw[A0i,e1];rfl)
    generalize hE2:({E with w:=Go.Sort.ahead E.w m}:Env).setFam k (Go.Sort.putCells id off (Go.Sort.flatK (MO cur off K n) K d) cur) {f with xs:=d.toList.map λi=>f.xs.getD i C5}=E2 at x2 s2
    have hw2:E2.w=Go.Sort.putRowK (MO cur off K n) K (Go.Sort.ahead E.w m) blk off d:=by
     rw[←hE2];show (Go.Sort.ahead E.w m).setRow (E.im k).b _=_;rw[hb];exact(VK (w:=Go.Sort.ahead E.w m) hcur).symm
    have hB3:Bl E2.w.heap.size E2.w (Go.Sort.grow E2.w os):=by
     refine⟨⟨rfl,rfl,rfl,?_,λi hi=>?_⟩,A0Z _⟩
     .simp[Go.Sort.grow]
     .show (E2.w.heap++os)[i]?=_;rw[A0p hi]
    refine⟨.tuple #[],{E2 with w:=Go.Sort.grow E2.w os},h1,?_,(x1.trans x2).trans (Bk s2 hB3),HG s2 hB3,?_,FO _⟩
    .rw[h2];show _=Go.Sort.grow E2.w os;rw[hw2];rfl
    .show E2.h=_;rw[←hE2];rfl
   .cases he
  .cases he
 .rename_i q z xs g caps;split at he
  .rename_i h0;cases he;obtain⟨vs⟩:=vs;simp only[Be]at hv;obtain⟨v0,_,rfl,hv0,v1,_,rfl,hv1,rfl⟩:=hv;simp only[VR,PV]at hv0;obtain⟨a,len,cap,rfl,hl,_⟩:=hv0;have A6:len=0\/len=1:=by omega
   rcases A6 with A6|A6
   .subst A6;refine(Go.Proofs.AnyF.slices_SortFunc_none L a cap v1 E.w).mono λe w' ⟨h1,h2⟩=>?_;exact⟨_,E,h1,h2,Ext.refl E,hS,rfl,FO _⟩
   .subst A6;refine(pz L a cap v1 E.w).mono λe w' ⟨h1,h2⟩=>?_;exact⟨_,E,h1,h2,Ext.refl E,hS,rfl,FO _⟩
  .cases he
 .cases he
end
end Go.Abs
