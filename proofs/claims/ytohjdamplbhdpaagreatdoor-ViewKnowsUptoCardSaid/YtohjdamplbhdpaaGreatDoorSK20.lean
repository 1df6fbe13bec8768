/- A part of the proof. -/
import Derived.Test.YtohjdamplbhdpaaGreatDoorSK19
set_option linter.all false
open List renaming getElem?_eq_getElem->A0A,take_succ_eq_append_getElem->A0C,getElem?_append_right->A0D,getElem_mem->A0E,getElem?_append_left->A0F,map_append->A0G,take_of_length_le->A0I,map_cons->A0J,append_assoc->A0K,drop_eq_getElem_cons->A0L,map_nil->A0M,drop_eq_nil_of_le->A0N,getElem?_map->A0O,getElem?_set_ne->A0Q,eq_nil_of_length_eq_zero->A0R,map_take->A0T,any_append->A0U,length_map->A0V
open Bool renaming and_eq_true->A0B,false_eq_true->A0S,true_or->A0W
open Option renaming bind_some->A0H
open Nat renaming le_refl->A0P
namespace Go.Abs.Q
open Go.Proofs
attribute [local simp] D9 E4 fin I8 G6 R4 R3 D8
theorem dG (m:J3) (ns:List ByteArray) (j:Nat) (a:I3) (ha:ns[j]?=some a) (hs:a.size<=1099511627776) (fr:Fr) (h:AH) (hl:fr.length=92) (h3:A0 fr 3=sl m 1 (ns.map .str)) (h5:A0 fr 5=.int .i64 (j:Nat)) (h7:A0 fr 7=.int .i64 0) :
  B9 (lp (A3 (L5 Q) (E5 Cx) q7) (fr,h)) λe C6 h'=>Kp q7.wr fr C6/\(e=.exit 2/\h'=h/\OM a=false\/e=.ret/\A0 C6 2=.int .i64 2/\OM a=true):=by
 refine B5 rfl fr (λn fr h'=>∃(i:Nat),i+n=(L6 a).length/\A0 fr 7=.int .i64 (i:Nat)/\h'=h/\((L6 a).drop i).contains 35=OM a) ?_ (L6 a).length h ⟨0,by omega,h7,rfl,rfl⟩;rintro J Φ hJ hΦ n E1 H1 K ⟨i,hi,k7,hr⟩;have A6:=K.1.trans hl;have k3:=A9 K 3 h3;have k5:=A9 K 5 h5;clear K;by_cases A7:i<(L6 a).length
 .have I9:=K5 a;have Q6:=D1 i (by omega);obtain⟨rfl,hr⟩:=hr;have hx:=G0 (f:=AV.str) ha;have i7:i<a.size:=by omega
  have Fd:a[i]'i7=(L6 a)[i]:=by
   have:=Eh a i;rw[getElem?_pos a i i7,A0A A7]at this;exact Option.some.inj this
  rw[A0L A7,List.contains_cons]at hr;generalize (L6 a)[i]=c at *
  by_cases hc:c=35
  .subst hc;simp[q7,A6,k3,k5,k7,hx,i7,Fd];exact hΦ _ _ _ (.inr ⟨rfl,by simp[A6],by rw[←hr];rfl⟩)
  .have hc':¬(c.toNat:Int)=35:=λh=>hc (UInt8.toNat_inj.1 (by have:(35:UInt8).toNat=35:=rfl;omega));have hb:(35 == c)=false:=by simp;exact λh=>hc h.symm
   rw[hb,Bool.false_or]at hr;simp[q7,A6,k3,k5,k7,Q6,hx,i7,Fd,hc'];exact G8 hJ ⟨i+1,by omega,by simp[A6],rfl,hr⟩
 .have I9:=K5 a;obtain⟨rfl,hr⟩:=hr;rw[A0N (by omega)]at hr;have hx:=G0 (f:=AV.str) ha;have i7:¬i<a.size:=by omega
  simp[q7,A6,k3,k5,k7,hx,i7];exact hΦ _ _ _ (.inl ⟨rfl,rfl,hr.symm⟩)
theorem nZ (na:Nar) {i:Nat} (hi:i<(B4 na).length):∃f,(UN na)[i]?=some ((B4 na)[i],f) /\
  ((i<na.roles.length/\f=none)\/(na.roles.length<=i/\∃h:i-na.roles.length<na.fresh.length,f=some (na.fresh[i-na.roles.length]).role)\/(na.roles.length+na.fresh.length<=i/\f=none)):=by
 have hn:(B4 na)[i]?=some (B4 na)[i]:=A0A hi;generalize (B4 na)[i]=a at *
 unfold B4 at hn hi;unfold UN;by_cases h1:i<na.roles.length
 .rw[A0K,A0F h1]at hn;refine⟨none,?_,.inl ⟨h1,rfl⟩⟩;rw[A0K,A0F (by simpa using h1),A0O,hn];rfl
 .by_cases h2:i-na.roles.length<na.fresh.length
  .rw[A0K,A0D (by omega),A0F (by simpa using h2),A0O,A0A h2]at hn;simp only[Option.map_some,Option.some.injEq]at hn;subst hn;refine⟨some (na.fresh[i-na.roles.length]).role,?_,.inr (.inl ⟨by omega,h2,rfl⟩)⟩;rw[A0K,A0D (by simp;omega),A0V,A0F (by simpa using h2),A0O,A0A h2];rfl
  .rw[A0K,A0D (by omega),A0D (by simp;omega)]at hn;refine⟨none,?_,.inr (.inr ⟨by omega,rfl⟩)⟩;rw[A0K,A0D (by simp;omega),A0D (by simp;omega)];simp only[A0V,A0O]at hn ⊢;rw[hn];rfl
theorem kO {α:Type} {l:List α} {i:Nat} {x:α} (h:l[i]?=some x):l.drop i=x::l.drop (i+1):=by
 obtain⟨h1,h2⟩:=List.getElem?_eq_some_iff.1 h;subst h2;exact A0L h1
theorem dH (m:J3) (na:Nar) (S:Lens na) (hs:∀a∈B4 na,a.size<=1099511627776) (fr:Fr) (h:AH) (hh:h=⟨[(F0 na).cells],[]⟩) (hl:fr.length=92) (h1:A0 fr 1=.ptr 0 0) (h3:A0 fr 3=sl m 1 ((B4 na).map .str)) (h5:A0 fr 5=.int .i64 0) :
  B9 (lp (A3 (L5 Q) (E5 Cx) W1) (fr,h)) λe C6 h'=>Kp W1.wr fr C6/\(e=.exit 0/\GY na=0\/e=.ret/\A0 C6 2=.int .i64 (GY na)):=by
 refine B5 rfl fr (λn fr h'=>∃(i:Nat),i+n=(B4 na).length/\A0 fr 5=.int .i64 (i:Nat)/\h'=⟨[(F0 na).cells],[]⟩/\X6 na.roles ((B4 na).take i) ((UN na).drop i)=GY na) ?_ (B4 na).length h ⟨0,by omega,h5,hh,rfl⟩;rintro J Φ hJ hΦ n E1 H1 K ⟨i,hi,k5,hr⟩;have A6:=K.1.trans hl;have k1:=A9 K 1 h1;have k3:=A9 K 3 h3;clear K;by_cases A7:i<(B4 na).length
 .have s0:=S.names;have hnl:(B4 na).length=na.roles.length+na.fresh.length+na.tags.length:=by simp[B4];omega
  have Q6:=D1 i (by omega);obtain⟨rfl,hr⟩:=hr;have hx:=G0 (f:=AV.str) (A0A A7);obtain⟨f,hg,hf⟩:=nZ na A7;rw[kO hg]at hr;have Ys:=A0A A7;have I9:=hs _ (A0E A7);have KB:=dG m (B4 na) i (B4 na)[i] Ys I9;have bw:=bY ⟨[(F0 na).cells],[]⟩ m 1 (by omega) ((B4 na).map .str) i (by simp;omega);obtain⟨m2,bw⟩:∃m2,Vz ⟨[(F0 na).cells],[]⟩ 1 (sl m 1 ((B4 na).map .str)) (some none) (some (some (i:Int))) (some none)=some (sl m2 1 (((B4 na).take i).map .str),⟨[(F0 na).cells],[]⟩):=⟨_,by rw[bw,A0T]⟩;rw[D8,A0T]at bw;have hI:=Fq m2 ((B4 na).take i) (B4 na)[i] (by rw[List.length_take];omega);rw[A0T]at hI;have hge:=Xq (B4 na)[i] ((B4 na).take i);have hnx:∀b,LJ ((B4 na).take i) (B4 na)[i] b=if OM (B4 na)[i]=true then 2 else if b=true/\((B4 na)[i]=bs [101]\/(B4 na)[i]=bs [103])then 1 else if ((B4 na).take i).any (U3 (B4 na)[i])=true then 5 else 0:=λ_=>rfl
  have htk:(B4 na).take i++[(B4 na)[i]]=(B4 na).take (i+1):=by rw[A0C A7]
  generalize (B4 na)[i]=a at *
  generalize hP:((B4 na).take i).any (U3 a)=pb at *
  generalize hD:GY na=D at *
  have i1:pb=true->0<=idx (U3 a) ((B4 na).take i):=λh=>hge.2 h;have i2:pb=false->¬0<=idx (U3 a) ((B4 na).take i):=λh h'=>by rw[h]at hge;exact nomatch (hge.1 h')
  clear hge;rcases hf with ⟨c1,rfl⟩|⟨c1,c2,rfl⟩|⟨c1,rfl⟩
  .have d1:¬(na.roles.length:Int)<=(i:Int):=by omega
   rw[NC,htk,hnx]at hr;simp only[A0S,false_and,if_false]at hr;simp[W1,A6,k1,k3,k5,A7,A2 (show ¬na.roles.length<=i by omega)];refine B9.mono (KB _ _ ?_ ?_ ?_ ?_) ?_<;>first|(simp[A6,k3,k5];done)|skip
   rintro e V8 h2 ⟨K,⟨rfl,rfl,hh2⟩|⟨rfl,k2,hh2⟩⟩
   .have R5:V8.length=92:=K.1.trans (by simp[A6]);have k1fr2:A0 V8 1=.ptr 0 0:=A9 K 1 (by simp[k1]);have k3fr2:A0 V8 3=sl m 1 ((B4 na).map .str):=A9 K 3 (by simp[k3]);have k5fr2:A0 V8 5=.int .i64 (i:Nat):=A9 K 5 (by simp[k5]);have k6fr2:A0 V8 6=.bool false:=A9 K 6 (by simp[A6]);clear K;rw[hh2]at hr;cases pb with
    |true =>
     simp at hr;simp[R5,k3fr2,k5fr2,k6fr2,hx,bw,hI,B6 (i1 rfl)];exact hΦ _ _ _ (.inr ⟨rfl,by simp[R5,hr]⟩)
    |false =>
     simp at hr;simp[R5,k3fr2,k5fr2,k6fr2,hx,bw,hI,A2 (i2 rfl),Q6];exact G8 hJ ⟨i+1,by omega,by simp[R5],by rw[D8],hr⟩
   .rw[hh2]at hr;simp at hr;simp;exact hΦ _ _ _ (.inr ⟨rfl,by rw[k2,hr]⟩)
  .have d1:(na.roles.length:Int)<=(i:Int):=by omega
   have w1:IntKind.i64.wrap ((na.roles.length:Int)+(na.fresh.length:Int))=(na.roles.length:Int)+(na.fresh.length:Int):=U4 (by omega) (by omega);have w2:IntKind.i64.wrap ((i:Int)-(na.roles.length:Int))=(i:Int)-(na.roles.length:Int):=U4 (by omega) (by omega);have d2:(i:Int)<(na.roles.length:Int)+(na.fresh.length:Int):=by omega
   have hfx:=G0 (f:=KD) (A0A c2);have ei:((i:Int)-(na.roles.length:Int)).toNat=i-na.roles.length:=by omega
   have hC:=Fq na.rm na.roles (na.fresh[i-na.roles.length]).role (by omega);have hlt2:=Pp (na.fresh[i-na.roles.length]).role na.roles;have d3:(0:Int)<=(i:Int)-(na.roles.length:Int):=by omega
   rw[SN,htk,hnx]at hr;generalize na.fresh[i-na.roles.length]=fx at *
   generalize na.roles.any (U3 fx.role)=rb at *
   have r1:rb=true->¬idx (U3 fx.role) na.roles<0:=λh h'=>by rw[h]at hlt2;exact nomatch (hlt2.1 h')
   simp[W1,A6,k1,k3,k5,A7,B6 (show na.roles.length<=i by omega),w1,B6 d2];refine B9.mono (KB _ _ ?_ ?_ ?_ ?_) ?_<;>first|(simp[A6,k3,k5];done)|skip
   rintro e V8 h2 ⟨K,⟨rfl,rfl,hh2⟩|⟨rfl,k2,hh2⟩⟩
   .have R5:V8.length=92:=K.1.trans (by simp[A6]);have k1fr2:A0 V8 1=.ptr 0 0:=A9 K 1 (by simp[k1]);have k3fr2:A0 V8 3=sl m 1 ((B4 na).map .str):=A9 K 3 (by simp[k3]);have k5fr2:A0 V8 5=.int .i64 (i:Nat):=A9 K 5 (by simp[k5]);have k6fr2:A0 V8 6=.bool true:=A9 K 6 (by simp[A6]);clear K;rw[hh2]at hr;by_cases he:a=bs [101]
    .rw[if_neg (c:=false=true) (by simp),if_pos (c:=true=true/\(a=bs [101]\/a=bs [103])) ⟨rfl,.inl he⟩]at hr;simp at hr;simp[R5,k3fr2,k5fr2,k6fr2,hx,B6 he];exact hΦ _ _ _ (.inr ⟨rfl,by simp[R5,hr]⟩)
    by_cases he2:a=bs [103]
    .rw[if_neg (c:=false=true) (by simp),if_pos (c:=true=true/\(a=bs [101]\/a=bs [103])) ⟨rfl,.inr he2⟩]at hr;simp at hr;simp[R5,k3fr2,k5fr2,k6fr2,hx,A2 he,B6 he2];exact hΦ _ _ _ (.inr ⟨rfl,by simp[R5,hr]⟩)
    simp only[he,he2,or_self,and_false,A0S,if_false]at hr;cases pb with
    |true =>
     simp at hr;simp[R5,k3fr2,k5fr2,k6fr2,hx,A2 he,A2 he2,bw,hI,B6 (i1 rfl)];exact hΦ _ _ _ (.inr ⟨rfl,by simp[R5,hr]⟩)
    |false =>
     cases rb with
     |true =>
      simp at hr;simp[R5,k1fr2,k3fr2,k5fr2,k6fr2,hx,A2 he,A2 he2,bw,hI,A2 (i2 rfl),Q6,w2,hfx,ei,c1,hC,A2 (r1 rfl)];exact G8 hJ ⟨i+1,by omega,by simp[R5],by rw[D8],hr⟩
     |false =>
      simp at hr;simp[R5,k1fr2,k3fr2,k5fr2,k6fr2,hx,A2 he,A2 he2,bw,hI,A2 (i2 rfl),w2,hfx,ei,c1,hC,B6 (hlt2.2 rfl)];exact hΦ _ _ _ (.inr ⟨rfl,by simp[R5,hr]⟩)
   .rw[hh2]at hr;simp at hr;simp;exact hΦ _ _ _ (.inr ⟨rfl,by rw[k2,hr]⟩)
  .have d1:(na.roles.length:Int)<=(i:Int):=by omega
   have w1:IntKind.i64.wrap ((na.roles.length:Int)+(na.fresh.length:Int))=(na.roles.length:Int)+(na.fresh.length:Int):=U4 (by omega) (by omega);have d2:¬(i:Int)<(na.roles.length:Int)+(na.fresh.length:Int):=by omega
   rw[NC,htk,hnx]at hr;simp only[A0S,false_and,if_false]at hr;simp[W1,A6,k1,k3,k5,A7,B6 (show na.roles.length<=i by omega),w1,A2 d2];refine B9.mono (KB _ _ ?_ ?_ ?_ ?_) ?_<;>first|(simp[A6,k3,k5];done)|skip
   rintro e V8 h2 ⟨K,⟨rfl,rfl,hh2⟩|⟨rfl,k2,hh2⟩⟩
   .have R5:V8.length=92:=K.1.trans (by simp[A6]);have k1fr2:A0 V8 1=.ptr 0 0:=A9 K 1 (by simp[k1]);have k3fr2:A0 V8 3=sl m 1 ((B4 na).map .str):=A9 K 3 (by simp[k3]);have k5fr2:A0 V8 5=.int .i64 (i:Nat):=A9 K 5 (by simp[k5]);have k6fr2:A0 V8 6=.bool false:=A9 K 6 (by simp[A6]);clear K;rw[hh2]at hr;cases pb with
    |true =>
     simp at hr;simp[R5,k3fr2,k5fr2,k6fr2,hx,bw,hI,B6 (i1 rfl)];exact hΦ _ _ _ (.inr ⟨rfl,by simp[R5,hr]⟩)
    |false =>
     simp at hr;simp[R5,k3fr2,k5fr2,k6fr2,hx,bw,hI,A2 (i2 rfl),Q6];exact G8 hJ ⟨i+1,by omega,by simp[R5],by rw[D8],hr⟩
   .rw[hh2]at hr;simp at hr;simp;exact hΦ _ _ _ (.inr ⟨rfl,by rw[k2,hr]⟩)
 .obtain⟨rfl,hr⟩:=hr;have Rw:(UN na).length=(B4 na).length:=by simp[UN,B4]
  rw[A0N (by omega)]at hr;simp only[X6]at hr;simp[W1,A6,k3,k5,A7];exact hΦ _ _ _ (.inl ⟨rfl,hr.symm⟩)
theorem YU (na:Nar) (F:Fine na) (S:Lens na):pc Q Cx [F0 na]=some (.int .i64 (GY na)):=by
 have s0:=S.names;obtain⟨r,hNm,m,m',rfl⟩:=Up na ⟨by omega,by omega,by omega⟩;unfold CK at hNm;have KB:=dH m na S (λa ha=>by
  unfold B4 at ha;simp only[List.mem_append,List.mem_map]at ha;rcases ha with (ha|⟨f,hf,rfl⟩)|ha
  .exact F.roles a ha
  .exact(F.fresh f hf).2
  .exact F.tags a ha)
 generalize GY na=D at *
 refine M2 JK λfr hl h0=>?_;simp[JK]at hl h0;simp[JK,hl,h0,hNm];refine B9.mono (KB _ _ ?_ ?_ ?_ ?_ ?_) ?_<;>first|(simp[hl];done)|skip
 rintro e E1 Ei ⟨K,⟨rfl,hz⟩|⟨rfl,k4⟩⟩
 .have J5:E1.length=92:=K.1.trans (by simp[hl]);clear K;simp[J5,hz]
 .simp[k4]
end Go.Abs.Q
namespace Go.Abs.Q
open Go.Proofs
attribute [local simp] D9 E4 fin I8 G6 D8
theorem dE (na:Nar) (ns rs:List ByteArray) (B8:na.steps.length<=1099511627776) (IH:∀s∈na.steps,pc Q Kh [F0 na,DY s]=some (.int .i64 (FN ns rs s))) (fr:Fr) (h:AH) (hh:h=⟨[(F0 na).cells],[]⟩) (hl:fr.length=66) (h1:A0 fr 1=.ptr 0 0) (h6:A0 fr 6=.int .i64 0) :
  B9 (lp (A3 (L5 Q) (E5 Gb) Bo) (fr,h)) λe C6 h'=>Kp Bo.wr fr C6/\(e=.exit 0/\h'=h/\Q7 (FN ns rs) Ste.line na.steps=(0,0)\/e=.ret/\A0 C6 2=.int .i64 (Q7 (FN ns rs) Ste.line na.steps).1/\A0 C6 3=.int .i64 (Q7 (FN ns rs) Ste.line na.steps).2/\Q7 (FN ns rs) Ste.line na.steps≠(0,0)):=by
 refine B5 rfl fr (λn fr h'=>∃(i:Nat),i+n=na.steps.length/\A0 fr 6=.int .i64 (i:Nat)/\h'=⟨[(F0 na).cells],[]⟩/\Q7 (FN ns rs) Ste.line (na.steps.drop i)=Q7 (FN ns rs) Ste.line na.steps) ?_ na.steps.length h ⟨0,by omega,h6,hh,rfl⟩;rintro J Φ hJ hΦ n E1 H1 K ⟨i,hi,k6,hr⟩;have A6:=K.1.trans hl;have k1:=A9 K 1 h1;clear K;by_cases A7:i<na.steps.length
 .have Q6:=D1 i (by omega);obtain⟨rfl,hr⟩:=hr;have hx:=G0 (f:=DY) (A0A A7);have hI:=IH na.steps[i] (A0E A7);rw[A0L A7]at hr;simp only[Q7]at hr;generalize na.steps[i]=t at *
  generalize FN ns rs t=z at *
  generalize hgl:Q7 (FN ns rs) Ste.line na.steps=L at *
  by_cases hz:z=0
  .rw[if_neg (by simp[hz])]at hr;simp[Bo,A6,k1,k6,A7,Q6,hx,hI,hz];exact G8 hJ ⟨i+1,by omega,by simp[A6],by simp[D8],hr⟩
  .rw[if_pos hz]at hr;simp[Bo,A6,k1,k6,A7,hx,hI,hz];exact hΦ _ _ _ (.inr ⟨rfl,by simp[A6,←hr],by simp[A6,←hr],by simp[←hr,hz]⟩)
 .obtain⟨rfl,hr⟩:=hr;rw[A0N (by omega)]at hr;simp[Bo,A6,k1,k6,A7];exact hΦ _ _ _ (.inl ⟨rfl,by rw[hh,D8],hr.symm⟩)
theorem dD (na:Nar) (ns rs:List ByteArray) (B8:na.goals.length<=1099511627776) (IH:∀s∈na.goals,pc Q Dj [F0 na,Da s]=some (.int .i64 (HN ns rs s))) (fr:Fr) (h:AH) (hh:h=⟨[(F0 na).cells],[]⟩) (hl:fr.length=66) (h1:A0 fr 1=.ptr 0 0) (h8:A0 fr 8=.int .i64 0) :
  B9 (lp (A3 (L5 Q) (E5 Gb) Bn) (fr,h)) λe C6 h'=>Kp Bn.wr fr C6/\(e=.exit 2/\Q7 (HN ns rs) Gol.line na.goals=(0,0)\/e=.ret/\A0 C6 2=.int .i64 (Q7 (HN ns rs) Gol.line na.goals).1/\A0 C6 3=.int .i64 (Q7 (HN ns rs) Gol.line na.goals).2):=by
 refine B5 rfl fr (λn fr h'=>∃(i:Nat),i+n=na.goals.length/\A0 fr 8=.int .i64 (i:Nat)/\h'=⟨[(F0 na).cells],[]⟩/\Q7 (HN ns rs) Gol.line (na.goals.drop i)=Q7 (HN ns rs) Gol.line na.goals) ?_ na.goals.length h ⟨0,by omega,h8,hh,rfl⟩;rintro J Φ hJ hΦ n E1 H1 K ⟨i,hi,k8,hr⟩;have A6:=K.1.trans hl;have k1:=A9 K 1 h1;clear K;by_cases A7:i<na.goals.length
 .have Q6:=D1 i (by omega);obtain⟨rfl,hr⟩:=hr;have hx:=G0 (f:=Da) (A0A A7);have hI:=IH na.goals[i] (A0E A7);rw[A0L A7]at hr;simp only[Q7]at hr;generalize na.goals[i]=t at *
  generalize HN ns rs t=z at *
  generalize hgl:Q7 (HN ns rs) Gol.line na.goals=L at *
  by_cases hz:z=0
  .rw[if_neg (by simp[hz])]at hr;simp[Bn,A6,k1,k8,A7,Q6,hx,hI,hz];exact G8 hJ ⟨i+1,by omega,by simp[A6],by simp[D8],hr⟩
  .rw[if_pos hz]at hr;simp[Bn,A6,k1,k8,A7,hx,hI,hz];exact hΦ _ _ _ (.inr ⟨rfl,by simp[A6,←hr],by simp[A6,←hr]⟩)
 .obtain⟨rfl,hr⟩:=hr;rw[A0N (by omega)]at hr;simp[Bn,A6,k1,k8,A7];exact hΦ _ _ _ (.inl ⟨rfl,hr.symm⟩)
theorem ip (n:Nar) (F:Fine n) (S:Lens n):pc Q Gb [F0 n]=some (.tup [.int .i64 (Z5 n).1,.int .i64 (Z5 n).2]):=by
 have hV:=Uz n F;have hD:=YU n F S;have q1:=dE n (B4 n) n.roles F.stepsL (λs hs=>mA n S s (F.steps s hs).2.2);have q2:=dD n (B4 n) n.roles F.goalsL (λg hg=>ly n S g (F.goals g hg).2.2);have hE:Z5 n=if NJ n≠0 then (0,NJ n)else if GY n≠0 then (0,GY n)
  else if Q7 (FN (B4 n) n.roles) Ste.line n.steps≠(0,0)then Q7 (FN (B4 n) n.roles) Ste.line n.steps else Q7 (HN (B4 n) n.roles) Gol.line n.goals:=rfl
 generalize Z5 n=z at *
 generalize NJ n=e1 at *
 generalize GY n=e2 at *
 generalize Q7 (FN (B4 n) n.roles) Ste.line n.steps=L1 at *
 generalize Q7 (HN (B4 n) n.roles) Gol.line n.goals=L2 at *
 refine M2 Gp λfr hl h0=>?_;simp[Gp]at hl h0;by_cases z1:e1=0
 .rw[if_neg (by simp[z1])]at hE;by_cases z2:e2=0
  .rw[if_neg (by simp[z2])]at hE;simp[Gp,hl,h0,hV,z1,hD,z2];refine B9.mono (q1 _ _ ?_ ?_ ?_ ?_) ?_<;>first|(simp[hl];done)|rfl|skip
   rintro e E1 h1 ⟨K,⟨rfl,rfl,hz⟩|⟨rfl,k2,k3,hz⟩⟩
   .have J5:E1.length=66:=K.1.trans (by simp[hl]);have Ey:A0 E1 1=.ptr 0 0:=A9 K 1 (by simp[hl]);clear K;rw[if_neg (by simp[hz])]at hE;simp;refine B9.mono (q2 _ _ ?_ ?_ ?_ ?_) ?_<;>first|(simp[J5,Ey];done)|rfl|skip
    rintro e V8 h2 ⟨K,⟨rfl,hz⟩|⟨rfl,k2,k3⟩⟩
    .have R5:V8.length=66:=K.1.trans (by simp[J5]);clear K;simp[R5,hE,hz]
    .simp[k2,k3,hE]
   .rw[if_pos hz]at hE;simp[k2,k3,hE]
  .rw[if_pos z2]at hE;simp[Gp,hl,h0,hV,z1,hD,z2,hE]
 .rw[if_pos z1]at hE;simp[Gp,hl,h0,hV,z1,hE]
theorem ZA {sz:Nat} {D7:G1} {v:AV} {h:AH} (hg:GT sz D7 v h):∃m,∀B:List (List AV),Dy ⟨B,h.fams⟩ true v=some (sl m sz D7):=by
 rcases hg with ⟨rfl,rfl⟩|⟨_,k,rfl,h3⟩
 .exact⟨(true,false),λB=>by rw[UO];exact congrArg some (o7 _ rfl _ _)⟩
 .exact⟨_,λB=>JX (h:=⟨B,h.fams⟩) h3 rfl⟩
mutual
def bz (ns:List ByteArray):Tm->Bool
 | .mk k nm _ _ l=>(decide (k≠2)||ns.any (U3 nm))&&SS ns l
def SS (ns:List ByteArray):List Tm->Bool
 | []=>true
 |t::l=>bz ns t&&SS ns l
end
theorem kj (ns:List ByteArray) {l:I6} (h:SS ns l=true):∀t∈l,bz ns t=true:=by
 induction l with
 |nil=>intro t ht;cases ht
 |cons a l ih =>
  simp only[SS,A0B]at h;intro t ht;rcases List.mem_cons.1 ht with rfl|ht
  .exact h.1
  .exact ih h.2 t ht
@[simp] theorem wh (t:Tm):MC (B7 t)=true:=by cases t;rfl
theorem aH (na:Nar) (f:ByteArray->Int) (m:J3) (l:I6) (B8:l.length<=1099511627776) (IH:∀t∈l,∃t',pc Q O9 [F0 na,B7 t]=some (B7 t')/\E8 t'=BT f t) (x0 x1 x2:AV) (C:G1) (fr:Fr) (h:AH) (hh:h.boxes=[(F0 na).cells,[x0,x1,x2,sl m 4 (A4 l)],C]) (h7:A0 fr 7=.vs true 0 []) (hl:fr.length=45) (h2:A0 fr 2=.ptr 0 0) (h3:A0 fr 3=.ptr 1 0) (h8:A0 fr 8=.int .i64 0) :
  B9 (lp (A3 (L5 Q) (E5 O9) DK) (fr,h)) λe C6 h'=>Kp DK.wr fr C6/\e=.exit 0/\h'.boxes=h.boxes/\∃done:List Tm,GT 4 (A4 done) (A0 C6 7) h'/\H2 done=Z6 f l:=by
 refine B5 rfl fr (λn fr h'=>∃(i:Nat),i+n=l.length/\A0 fr 8=.int .i64 (i:Nat)/\h'.boxes=h.boxes/\(∃done:List Tm,GT 4 (A4 done) (A0 fr 7) h'/\H2 done=Z6 f (l.take i)/\done.length=i)) ?_ l.length h ⟨0,by omega,h8,rfl,[],by rw[h7];exact Gu _ _,by simp[H2,Z6],rfl⟩;rintro J Φ hJ hΦ n E1 H1 K ⟨i,hi,k8,hr⟩;have A6:=K.1.trans hl;have k2:=A9 K 2 h2;have k3:=A9 K 3 h3;clear K;by_cases A7:i<l.length
 .have Q6:=D1 i (by omega);obtain⟨hB,done,hg,hd,DX⟩:=hr;obtain⟨bx,fams⟩:=H1;rw[hh]at hB hJ;simp only at hB;subst hB;have hx:=N6 A7;obtain⟨t',hI,ht⟩:=IH l[i] (A0E A7);obtain⟨v',h',ha,f7,Qz⟩:=Gv (c:=E5 O9) (bytes:=56) (x:=B7 t') hg rfl (true,true) (by simp;omega) (by simp;omega);have e2:H2 (done++[t'])=Z6 f (l.take (i+1)):=by
   rw[A0C A7,E3,A0G,←E3,hd,Hh,Hh,A0G,A0J,A0M,A0J,A0M,ht]
  have hg2:GT 4 (A4 (done++[t'])) v' h':=by rw[o8];exact f7
  clear ht hd;generalize l[i]=t at *
  rw[D8]at ha;simp[DK,A6,k2,k3,k8,A7,Q6,hx,hI,A5,ha];exact G8 hJ ⟨i+1,by omega,by simp[A6],by rw[Qz,D8],done++[t'],by simp[A6];exact hg2,e2,by simp[DX]⟩
 .obtain⟨hB,done,hg,hd,DX⟩:=hr;obtain⟨bx,fams⟩:=H1;rw[hh]at hB hΦ;simp only at hB;subst hB;rw[A0I (by omega)]at hd;simp[DK,A6,k3,k8,A7];exact hΦ _ _ _ ⟨rfl,by rw[D8],done,by simp;exact hg,hd⟩
theorem Ws (na:Nar) (S:Lens na):∀(n:Nat) (t:Tm),t.size<=n->t.size<=1099511627776->I7 t=0->bz (B4 na) t=true->∃t',pc Q O9 [F0 na,B7 t]=some (B7 t')/\E8 t'=BT (J8 (B4 na) (G3 na)) t:=by
 have s0:=S.names;intro n
 induction n with
 |zero=>intro t h;have:=t.size_pos;omega
 |succ n ih =>
  intro t hn hb P1 hkn;obtain⟨k,nm,s,m,kids⟩:=t;have I9:Tm.size (.mk k nm s m kids)=1+Tm.sizes kids:=rfl;have B8:=Tm.length_le kids;obtain⟨hne1,hne2⟩:=Z2 P1;simp only[bz,A0B,Bool.or_eq_true,decide_eq_true_eq]at hkn;have hkm:=kj _ hkn.2;have KB:=aH na (J8 (B4 na) (G3 na)) m kids (by omega) (λt ht=>ih t (by have:=Tm.size_le ht;omega) (by have:=Tm.size_le ht;omega) (O1 hne2 t ht) (hkm t ht));clear ih;obtain⟨r,hNm,m1,m2,rfl⟩:=Up na ⟨by omega,by omega,by omega⟩;unfold CK at hNm;have hI:=Fq m1 (B4 na) nm (by simp[B4];omega)
  suffices h:∃v,pc Q O9 [F0 na,B7 (.mk k nm s m kids)]=some v/\∃t',v=B7 t'/\E8 t'=BT (J8 (B4 na) (G3 na)) (.mk k nm s m kids) by
   obtain⟨v,h1,t',rfl,h2⟩:=h;exact⟨t',h1,h2⟩
  refine Qp IW λΨ hΨ fr hl h0 h1=>?_;simp[IW,B7]at hl h0 h1;by_cases hk:k=2
  .have hany:(B4 na).any (U3 nm)=true:=by
    rcases hkn.1 with h|h
    .exact absurd hk h
    .exact h
   have hge:0<=idx (U3 nm) (B4 na):=(Xq _ _).2 hany;have A7:idx (U3 nm) (B4 na)<(0:Nat)+(B4 na).length:=Ir (U3 nm) (B4 na) 0;have hix:(idx (U3 nm) (B4 na)).toNat<(G3 na).length:=by rw[←LI];omega
   have hx:=G0 (f:=AV.int .i64) (A0A hix);have hls:J8 (B4 na) (G3 na) nm=(G3 na)[(idx (U3 nm) (B4 na)).toNat]:=by
    unfold J8;rw[if_pos hany,List.getD_eq_getElem?_getD,A0A hix];rfl
   rw[←hls]at hx;simp[IW,hl,h0,h1,B6 hk,hNm,hI,hge,hx];refine B9.mono (KB (.int .i64 k) (.str nm) (.int .i64 (J8 (B4 na) (G3 na) nm)) [.int .i64 0,.str (bs []),.int .i64 0,.vs true 0 []] _ _ ?_ ?_ ?_ ?_ ?_ ?_) ?_<;>first|(simp[hl];done)|skip
   rintro e E1 ⟨bx,fams⟩ ⟨K,rfl,hB,done,hg,hd⟩;simp only at hB;subst hB;have J5:E1.length=45:=K.1.trans (by simp[hl]);have ON:A0 E1 3=.ptr 1 0:=A9 K 3 (by simp[hl]);have LC:A0 E1 4=.ptr 2 0:=A9 K 4 (by simp[hl]);clear K;obtain⟨c1,c2,c3⟩:=y7 hg;obtain⟨mm,hz⟩:=ZA hg;generalize hv7:A0 E1 7=v7 at *
   simp[J5,ON,LC,hv7,c1,c2,hz];exact hΨ _ ⟨.mk k nm (J8 (B4 na) (G3 na) nm) mm done,rfl,by simp[E8,BT,hk,hd]⟩
  .simp[IW,hl,h0,h1,A2 hk];refine B9.mono (KB (.int .i64 k) (.str nm) (.int .i64 s) [.int .i64 0,.str (bs []),.int .i64 0,.vs true 0 []] _ _ ?_ ?_ ?_ ?_ ?_ ?_) ?_<;>first|(simp[hl];done)|skip
   rintro e E1 ⟨bx,fams⟩ ⟨K,rfl,hB,done,hg,hd⟩;simp only at hB;subst hB;have J5:E1.length=45:=K.1.trans (by simp[hl]);have ON:A0 E1 3=.ptr 1 0:=A9 K 3 (by simp[hl]);have LC:A0 E1 4=.ptr 2 0:=A9 K 4 (by simp[hl]);clear K;obtain⟨c1,c2,c3⟩:=y7 hg;obtain⟨mm,hz⟩:=ZA hg;generalize hv7:A0 E1 7=v7 at *
   simp[J5,ON,LC,hv7,c1,c2,hz];exact hΨ _ ⟨.mk k nm s mm done,rfl,by simp[E8,BT,hk,hd]⟩
end Go.Abs.Q
namespace Go.Abs.Q
open Go.Proofs
attribute [local simp] D9 E4 fin I8 G6
structure Grx (sz:Nat) (D7:List AV) (v:AV) (h0 h:AH):Prop where
 g:GT sz D7 v h
 low:∀j,j<h0.fams.length->h.fams[j]?=h0.fams[j]?
 row:∀k n o l,v=.sl k n o l->h0.fams.length<=k
theorem XQ (sz:Nat) (h0 h:AH) (e:h.fams=h0.fams):Grx sz [] (.vs true 0 []) h0 h:=⟨Gu _ _,λj _=>by rw[e],λk n o l h=>by cases h⟩
theorem dL {h0 h:AH} (hl:∀j,j<h0.fams.length->h.fams[j]?=h0.fams[j]?):h0.fams.length<=h.fams.length:=by
 apply Classical.byContradiction;intro hc;have h1:=hl h.fams.length (by omega);rw[List.getElem?_eq_none (A0P _),A0A (by omega)]at h1;cases h1
theorem eO {sz:Nat} {D7:G1} {v:AV} {h h':AH} (hg:GT sz D7 v h) (hl:∀j,j<h.fams.length->h'.fams[j]?=h.fams[j]?):GT sz D7 v h':=by
 rcases hg with hg|⟨h1,k,h2,h3⟩
 .exact .inl hg
 .exact .inr ⟨h1,k,h2,by rw[hl k (I2 h3)];exact h3⟩
theorem Lt {sz:Nat} {D7:G1} {v:AV} {h0 h h':AH} (hg:Grx sz D7 v h0 h) (hl:∀j,j<h.fams.length->h'.fams[j]?=h.fams[j]?):Grx sz D7 v h0 h' :=
 ⟨eO hg.g hl,λj hj=>by rw[hl j (by have:=dL hg.low;omega)];exact hg.low j hj,hg.row⟩
theorem nG {c:Ctx} {sz bytes:Nat} {D7 ys:G1} {v x:AV} {h0 h:AH} (hg:Grx sz D7 v h0 h) (hm:c.mutApp=false) (hx:y8 h sz x=some ys)
  (hb:(D7.length+ys.length)*bytes<=H6/\D7.length+ys.length<=maxLen):∃v' h',N1 c h sz bytes v x=some (v',h')/\Grx sz (D7++ys) v' h0 h'/\h'.boxes=h.boxes:=by
 obtain⟨hg,hlow,hrow⟩:=hg;obtain⟨v',h',h1,h2,h3⟩:=RB (c:=c) (bytes:=bytes) hg hm hx hb;refine⟨v',h',h1,⟨h2,?_,?_⟩,h3⟩
 .rcases hg with ⟨rfl,rfl⟩|⟨P1,k,rfl,hk⟩
  .rw[Pj,hx,A0H]at h1;split at h1
   .cases h1;exact hlow
   .split at h1
    .cases h1;intro j hj;have:=dL hlow;rw[←hlow j hj];exact A0F (by omega)
    .cases h1
  .rw[Kx,hx,A0H,hk,A0H]at h1;split at h1
   .cases h1;intro j hj;have:=hrow _ _ _ _ rfl;rw[←hlow j hj];exact A0Q (by omega)
   .cases h1
 .rcases hg with ⟨rfl,rfl⟩|⟨P1,k,rfl,hk⟩
  .rw[Pj,hx,A0H]at h1;split at h1
   .cases h1;intro _ _ _ _ e;cases e
   .split at h1
    .cases h1;intro _ _ _ _ e;cases e;exact dL hlow
    .cases h1
  .rw[Kx,hx,A0H,hk,A0H]at h1;split at h1
   .cases h1;intro _ _ _ _ e;cases e;exact hrow _ _ _ _ rfl
   .cases h1
theorem XR {c:Ctx} {sz bytes:Nat} {D7:G1} {v x:AV} {h0 h:AH} (hg:Grx sz D7 v h0 h) (hm:c.mutApp=false) (m:J3)
  (hb:(D7.length+1)*bytes<=140737488355328) (hb':D7.length<=1099511627776):∃v' h',N1 c h sz bytes v (sl m sz [x])=some (v',h')/\Grx sz (D7++[x]) v' h0 h'/\h'.boxes=h.boxes :=
 nG hg hm (T7 h m sz [x]) (by simp only[H6,maxLen,List.length_singleton];omega)
theorem OZ {sz:Nat} {D7:G1} {v:AV} {h:AH} (hg:GT sz D7 v h):∃m,∀(B:List (List AV)) (am:Bool),Dy ⟨B,h.fams⟩ am v=some (sl m sz D7):=by
 rcases hg with ⟨rfl,rfl⟩|⟨_,k,rfl,h3⟩
 .exact⟨(true,false),λB am=>by rw[UO];exact congrArg some (o7 _ rfl _ _)⟩
 .refine⟨(false,true),λB am=>?_⟩;rw[Cr];simp only[h3,A0H];rw[if_pos (by simp),List.drop_zero,A0I (A0P _)]
theorem iK (na:Nar) (f:ByteArray->Int) (B8:na.steps.length<=1048576) (IH:∀s∈na.steps,∃t',pc Q O9 [F0 na,B7 s.msg]=some (B7 t')/\E8 t'=BT f s.msg) (A1:G1) (o0 o1 o2 o3 o5:AV) (fr:Fr) (h:AH) (hh:h.boxes=[(F0 na).cells,A1,[o0,o1,o2,o3,.vs true 0 [],o5]]) (hl:fr.length=96) (h1:A0 fr 1=.ptr 0 0) (h7:A0 fr 7=.ptr 2 0) (h8:A0 fr 8=.int .i64 0) :
  B9 (lp (A3 (L5 Q) (E5 S1) CO) (fr,h)) λe C6 h'=>Kp CO.wr fr C6/\e=.exit 0/\∃(B:List (List AV)) (v:AV) (done:List Ste),h'.boxes=(F0 na).cells::A1::[o0,o1,o2,o3,v,o5]::B/\Grx 7 (done.map DY) v h h'/\done.map KV=na.steps.map (Cd f):=by
 refine B5 rfl fr (λn fr h'=>∃(i:Nat),i+n=na.steps.length/\A0 fr 8=.int .i64 (i:Nat)/\(∃(B:List (List AV)) (v:AV) (done:List Ste),h'.boxes=(F0 na).cells::A1::[o0,o1,o2,o3,v,o5]::B/\Grx 7 (done.map DY) v h h'/\done.map KV=(na.steps.take i).map (Cd f)/\done.length=i)) ?_ na.steps.length h ⟨0,by omega,h8,[],_,[],hh,XQ _ _ _ rfl,by simp,by simp⟩;rintro J Φ hJ hΦ n E1 H1 K ⟨i,hi,k8,hr⟩;have A6:=K.1.trans hl;have k1:=A9 K 1 h1;have k7:=A9 K 7 h7;clear K;by_cases A7:i<na.steps.length
 .have Q6:=D1 i (by omega);obtain⟨B,v,done,hB,hg,hd,DX⟩:=hr;obtain⟨bx,fams⟩:=H1;simp only at hB;subst hB;have hx:=G0 (f:=DY) (A0A A7);obtain⟨t',hI,ht⟩:=IH na.steps[i] (A0E A7);obtain⟨v',h',ha,f7,Qz⟩:=XR (c:=E5 S1) (bytes:=96) (x:=DY ⟨na.steps[i].frm,na.steps[i].to,t',na.steps[i].line⟩) (h:=⟨(F0 na).cells::A1::[o0,o1,o2,o3,v,o5]::(B++[(DY ⟨na.steps[i].frm,na.steps[i].to,t',na.steps[i].line⟩).cells]),fams⟩) (Lt hg λ_ _=>rfl) rfl (true,true) (by simp;omega) (by simp;omega);have e2:(done++[Ste.mk na.steps[i].frm na.steps[i].to t' na.steps[i].line]).map KV=(na.steps.take (i+1)).map (Cd f):=by
   rw[A0C A7,A0G,hd,A0G,A0J,A0M,A0J,A0M];simp only[KV,ht,Cd]
  have e3:(done.map DY++[DY ⟨na.steps[i].frm,na.steps[i].to,t',na.steps[i].line⟩])=(done++[Ste.mk na.steps[i].frm na.steps[i].to t' na.steps[i].line]).map DY:=by simp
  rw[e3]at f7;have e6:=qZ na.steps[i].frm na.steps[i].to t' na.steps[i].line;clear hd ht;generalize hY:done++[Ste.mk na.steps[i].frm na.steps[i].to t' na.steps[i].line]=Y at *
  have hYl:Y.length=i+1:=by rw[←hY];simp[DX]
  clear hY e3;generalize na.steps[i]=s at *
  obtain⟨bx',fams'⟩:=h';simp only at Qz;subst Qz;simp only[bd,D8]at ha;obtain⟨c1,c2,-⟩:=y7 f7.g;simp[CO,A6,k1,k7,k8,A7,Q6,hx,hI,A5,e6,ha,D8,c1,c2];exact G8 hJ ⟨i+1,by omega,by simp[A6],_,v',Y,rfl,Lt f7 λ_ _=>rfl,e2,hYl⟩
 .obtain⟨B,v,done,hB,hg,hd,DX⟩:=hr;obtain⟨bx,fams⟩:=H1;simp only at hB;subst hB;rw[A0I (by omega)]at hd;simp[CO,A6,k1,k8,A7,D8];exact hΦ _ _ _ ⟨rfl,B,v,done,rfl,Lt hg λ_ _=>rfl,hd⟩
theorem iI (na:Nar) (f:ByteArray->Int) (j:Nat) (g:Gol) (hj:Jb (na.goals.map Da) j=some (Da g)) (hjl:j<na.goals.length) (B8:g.data.length<=1048576) (IH:∀t∈g.data,∃t',pc Q O9 [F0 na,B7 t]=some (B7 t')/\E8 t'=BT f t) (p:Nat) (hp0:0≠p) (g0 g1 g2 g4:AV) (fr:Fr) (h:AH) (hb0:h.boxes[0]?=some (F0 na).cells) (hbp:h.boxes[p]?=some [g0,g1,g2,.vs true 0 [],g4]) (hl:fr.length=96) (h1:A0 fr 1=.ptr 0 0) (h10:A0 fr 10=.int .i64 j) (h11:A0 fr 11=.ptr p 0) (h12:A0 fr 12=.int .i64 0) :
  B9 (lp (A3 (L5 Q) (E5 S1) CM) (fr,h)) λe C6 h'=>Kp CM.wr fr C6/\e=.exit 4/\∃(v:AV) (done:List Tm),h'.boxes=h.boxes.set p [g0,g1,g2,v,g4]/\Grx 4 (A4 done) v h h'/\H2 done=Z6 f g.data:=by
 refine B5 rfl fr (λn fr h'=>∃(i:Nat),i+n=g.data.length/\A0 fr 12=.int .i64 (i:Nat)/\(∃(v:AV) (done:List Tm),h'.boxes=h.boxes.set p [g0,g1,g2,v,g4]/\Grx 4 (A4 done) v h h'/\H2 done=Z6 f (g.data.take i)/\done.length=i)) ?_ g.data.length h ⟨0,by omega,h12,_,[],(DC hbp).symm,XQ _ _ _ rfl,by simp[H2,Z6],rfl⟩;rintro J Φ hJ hΦ n E1 H1 K ⟨i,hi,k12,hr⟩;have A6:=K.1.trans hl;have k1:=A9 K 1 h1;have k10:=A9 K 10 h10;have k11:=A9 K 11 h11;clear K;by_cases A7:i<g.data.length
 .have Q6:=D1 i (by omega);obtain⟨v,done,hB,hg,hd,DX⟩:=hr;obtain⟨bx,fams⟩:=H1;simp only at hB;subst hB;have hx:=N6 A7;obtain⟨t',hI,ht⟩:=IH g.data[i] (A0E A7);have hpl:=I2 hbp;have q1:∀X,(h.boxes.set p X)[0]?=some (F0 na).cells:=λX=>by rw[A0Q (Ne.symm hp0)];exact hb0
  have q2:∀X,(h.boxes.set p X)[p]?=some X:=λX=>List.getElem?_set_self hpl;obtain⟨v',h',ha,f7,Qz⟩:=XR (c:=E5 S1) (bytes:=56) (x:=B7 t') hg rfl (true,true) (by simp;omega) (by simp;omega);have e2:H2 (done++[t'])=Z6 f (g.data.take (i+1)):=by
   rw[A0C A7,E3,A0G,←E3,hd,Hh,Hh,A0G,A0J,A0M,A0J,A0M,ht]
  have hg2:Grx 4 (A4 (done++[t'])) v' h h':=by rw[o8];exact f7
  clear ht hd;generalize g.data[i]=t at *
  obtain⟨bx',fams'⟩:=h';simp only at Qz;subst Qz;rw[D8]at q1;obtain⟨c1,c2,-⟩:=y7 f7.g;simp[CM,A6,k1,k10,k11,k12,A7,Q6,hx,hI,hj,A5,q1,q2,ha,c1,c2];exact G8 hJ ⟨i+1,by omega,by simp[A6],v',done++[t'],by simp,Lt hg2 λ_ _=>rfl,e2,by simp[DX]⟩
 .obtain⟨v,done,hB,hg,hd,DX⟩:=hr;obtain⟨bx,fams⟩:=H1;simp only at hB;subst hB;have hpl:=I2 hbp;have q1:∀X,(h.boxes.set p X)[0]?=some (F0 na).cells:=λX=>by rw[A0Q (Ne.symm hp0)];exact hb0
  rw[A0I (by omega)]at hd;rw[D8]at q1;simp[CM,A6,k1,k10,k12,A7,hj,q1];exact hΦ _ _ _ ⟨rfl,v,done,rfl,Lt hg λ_ _=>rfl,hd⟩
theorem iJ (na:Nar) (f:ByteArray->Int) (B8:na.goals.length<=1048576) (DX:∀g∈na.goals,g.data.length<=1048576) (IH:∀g∈na.goals,∀t∈g.data,∃t',pc Q O9 [F0 na,B7 t]=some (B7 t')/\E8 t'=BT f t) (A1:G1) (o0 o1 o2 o3 o4:AV) (D:List (List AV)) (fr:Fr) (h:AH) (hh:h.boxes=(F0 na).cells::A1::[o0,o1,o2,o3,o4,.vs true 0 []]::D) (hl:fr.length=96) (h1:A0 fr 1=.ptr 0 0) (h7:A0 fr 7=.ptr 2 0) (h10:A0 fr 10=.int .i64 0) :
  B9 (lp (A3 (L5 Q) (E5 S1) CN) (fr,h)) λe C6 h'=>Kp CN.wr fr C6/\e=.exit 2/\∃(B:List (List AV)) (v:AV) (done:List Gol),h'.boxes=(F0 na).cells::A1::[o0,o1,o2,o3,o4,v]::B/\Grx 5 (done.map Da) v h h'/\done.map gb=na.goals.map (Si f):=by
 refine B5 rfl fr (λn fr h'=>∃(i:Nat),i+n=na.goals.length/\A0 fr 10=.int .i64 (i:Nat)/\(∃(B:List (List AV)) (v:AV) (done:List Gol),h'.boxes=(F0 na).cells::A1::[o0,o1,o2,o3,o4,v]::B/\Grx 5 (done.map Da) v h h'/\done.map gb=(na.goals.take i).map (Si f)/\done.length=i)) ?_ na.goals.length h ⟨0,by omega,h10,D,_,[],hh,XQ _ _ _ rfl,rfl,rfl⟩;rintro J Φ hJ hΦ n E1 H1 K ⟨i,hi,k10,hr⟩;have A6:=K.1.trans hl;have k1:=A9 K 1 h1;have k7:=A9 K 7 h7;clear K;by_cases A7:i<na.goals.length
 .have Q6:=D1 i (by omega);obtain⟨B,v,done,hB,hg,hd,hdn⟩:=hr;obtain⟨bx,fams⟩:=H1;simp only at hB;subst hB;have hx:=G0 (f:=Da) (A0A A7);have q1:=iI na f i na.goals[i] hx A7 (DX _ (A0E A7)) (IH _ (A0E A7)) (B.length+3) (by omega) (.int .i64 na.goals[i].kind) (.str na.goals[i].role) (.str na.goals[i].wth) (.int .i64 na.goals[i].line);have e2:∀g',gb g'=Si f na.goals[i]->(done++[g']).map gb=(na.goals.take (i+1)).map (Si f):=by
   intro g' he;rw[A0C A7,A0G,hd,A0G,A0J,A0M,A0J,A0M,he]
  clear hd;generalize na.goals[i]=g at *
  simp[CN,A6,k1,k10,A7,hx,D8];refine B9.mono (q1 _ _ ?_ ?_ ?_ ?_ ?_ ?_ ?_) ?_<;>first|(simp[A6,k1,k10,D8];done)|skip
  rintro e V8 ⟨bx2,fams2⟩ ⟨K,rfl,vd,dd,hB2,hgd,hdd⟩;have R5:V8.length=96:=K.1.trans (by simp[A6]);have k1fr2:A0 V8 1=.ptr 0 0:=A9 K 1 (by simp[k1]);have k7fr2:A0 V8 7=.ptr 2 0:=A9 K 7 (by simp[k7]);have k10fr2:A0 V8 10=.int .i64 (i:Nat):=A9 K 10 (by simp[k10]);have k11fr2:A0 V8 11=.ptr (B.length+3) 0:=A9 K 11 (by simp[A6]);clear K;have hg2:=Lt hg (h':=⟨bx2,fams2⟩) (λj hj=>hgd.low j hj);simp at hB2;subst hB2;obtain⟨m,hz⟩:=OZ hgd.g;simp only at hz;obtain⟨v',⟨bx',fams'⟩,ha,f7,Qz⟩:=XR (c:=E5 S1) (bytes:=72) (x:=Da ⟨g.kind,g.role,g.wth,m,dd,g.line⟩) hg2 rfl (true,true) (by simp;omega) (by simp;omega);simp only at Qz;subst Qz;have e3:done.map Da++[Da ⟨g.kind,g.role,g.wth,m,dd,g.line⟩]=(done++[Gol.mk g.kind g.role g.wth m dd g.line]).map Da:=by simp
  rw[e3]at f7;have e4:=e2 ⟨g.kind,g.role,g.wth,m,dd,g.line⟩ (by simp[gb,Si,hdd]);have e6:=kW g.kind g.role g.wth m dd g.line;obtain⟨c1,c2,-⟩:=y7 f7.g;simp[R5,k7fr2,k10fr2,k11fr2,hz,A5,e6,ha,Q6,c1,c2];exact G8 hJ ⟨i+1,by omega,by simp[R5],_,v',_,rfl,Lt f7 λ_ _=>rfl,e4,by simp[hdn]⟩
 .obtain⟨B,v,done,hB,hg,hd,hdn⟩:=hr;obtain⟨bx,fams⟩:=H1;simp only at hB;subst hB;rw[A0I (by omega)]at hd;simp[CN,A6,k1,k10,A7,D8];exact hΦ _ _ _ ⟨rfl,B,v,done,rfl,Lt hg λ_ _=>rfl,hd⟩
theorem Xt {ns rs:List ByteArray} (hrs:∀a,rs.any (U3 a)=true->ns.any (U3 a)=true) {t:Tm} (hn:I7 t=0) (h:BG rs t=true):bz ns t=true:=by
 obtain⟨k,nm,s,m,l⟩:=t;obtain⟨h1,_⟩:=Z2 hn;rw[BG,A0B]at h;have hk:k=2:=of_decide_eq_true h.1;have hr:rs.any (U3 nm)=true:=h.2;have hl:l=[]:=A0R ((HK h1).2.1 (.inr hk));subst hl;simp[bz,SS,hrs nm hr]
theorem fF {ns rs:List ByteArray} (hrs:∀a,rs.any (U3 a)=true->ns.any (U3 a)=true) {t:Tm} (hn:I7 t=0) (h:BU rs t=true):bz ns t=true:=by
 obtain⟨k,nm,s,m,l⟩:=t;obtain⟨_,h2⟩:=Z2 hn;rw[BU,A0B,f8,A0B,A0B]at h;obtain⟨⟨⟨hk,_⟩,hl⟩,hf⟩:=h;have hk:k=3:=of_decide_eq_true hk;have hl:(l.length:Int)=1:=of_decide_eq_true hl
 replace hf:Qj (BG rs) l=true:=hf
 subst hk
 replace hl:l.length=1:=by omega
 match l,hl,hf with
 | [a],_,hf=>simp[bz,SS,Xt hrs (O1 h2 a (by simp)) hf]
theorem ko {ns rs:List ByteArray} (hrs:∀a,rs.any (U3 a)=true->ns.any (U3 a)=true) {t:Tm} (hn:I7 t=0) (h:Ft rs t=true):bz ns t=true:=by
 obtain⟨k,nm,s,m,l⟩:=t;obtain⟨_,h2⟩:=Z2 hn;rw[Ft,A0B,f8,A0B,A0B]at h;obtain⟨⟨⟨hk,_⟩,hl⟩,hf⟩:=h;have hk:k=3:=of_decide_eq_true hk;have hl:(l.length:Int)=1:=of_decide_eq_true hl
 replace hf:Qj (BU rs) l=true:=hf
 subst hk
 replace hl:l.length=1:=by omega
 match l,hl,hf with
 | [a],_,hf=>simp[bz,SS,fF hrs (O1 h2 a (by simp)) hf]
theorem cK (nm s) (m:J3) (l:I6) (x:I3) (n:Int):(f8 (.mk 3 nm s m l) x n=true)=(nm=x/\(l.length:Int)=n):=by
 rw[f8,A0B,A0B];exact propext ⟨λh=>⟨of_decide_eq_true h.1.2,of_decide_eq_true h.2⟩,λh=>⟨⟨decide_eq_true (p:=(3:Int)=3) rfl,decide_eq_true (p:=nm=x) h.1⟩,decide_eq_true (p:=(l.length:Int)=n) h.2⟩⟩
theorem fD (rs:List ByteArray) (nm s) (m:J3) (l:I6):Hb rs (.mk 3 nm s m l) =
  if (nm=bs [112,97,105,114]/\(l.length:Int)=2)\/(nm=bs [101,110,99]/\(l.length:Int)=2)then 2
  else if nm=bs [104,97,115,104]/\(l.length:Int)=1 then 1
  else if ((nm=bs [97,101,110,99]/\(l.length:Int)=2)/\OA (Ft rs) l=true)\/((nm=bs [115,105,103,110]/\(l.length:Int)=2)/\OA (BU rs) l=true)then 1
  else if Ft rs (.mk 3 nm s m l)=true\/Sh rs (.mk 3 nm s m l)=true then 0 else -1:=by
 unfold Hb;simp only[cK];rfl
theorem kr {ns rs:List ByteArray} (hrs:∀a,rs.any (U3 a)=true->ns.any (U3 a)=true):∀(n:Nat) (t:Tm),t.size<=n->I7 t=0->o6 ns rs t=0->bz ns t=true:=by
 intro n
 induction n with
 |zero=>intro t h;have:=t.size_pos;omega
 |succ n ih =>
  intro t hn P1 hs;obtain⟨k,nm,s,m,l⟩:=t;have I9:Tm.size (.mk k nm s m l)=1+Tm.sizes l:=rfl;obtain⟨h1,h2⟩:=Z2 P1;by_cases hk:k=3
  .subst hk;rw[QA]at hs;simp only[Tm.kind,ne_eq,not_true,if_false]at hs;split at hs
   .omega
   .rename_i hkd;have i6:=DZ hs
    suffices hl:SS ns l=true by simp[bz,hl]
    have one:∀t∈l,o6 ns rs t=0->bz ns t=true:=λt ht h0=>ih t (by have:=Tm.size_le ht;omega) (O1 h2 t ht) h0;rw[fD]at i6 hkd;simp only[Tm.kids]at i6;by_cases c1:nm=bs [112,97,105,114]/\(l.length:Int)=2\/nm=bs [101,110,99]/\(l.length:Int)=2
    .rw[if_pos c1]at i6;have hl:l.length=2:=by omega
     match l,hl,i6,one with
     | [a,b],_,i6,one=>simp[SS,one a (by simp) (i6 a (by simp)),one b (by simp) (i6 b (by simp))]
    .rw[if_neg c1]at i6 hkd;by_cases c2:nm=bs [104,97,115,104]/\(l.length:Int)=1
     .rw[if_pos c2]at i6;have hl:l.length=1:=by omega
      match l,hl,i6,one with
      | [a],_,i6,one=>simp[SS,one a (by simp) (i6 a (by simp))]
     .rw[if_neg c2]at i6 hkd;by_cases c3:(nm=bs [97,101,110,99]/\(l.length:Int)=2)/\OA (Ft rs) l=true\/(nm=bs [115,105,103,110]/\(l.length:Int)=2)/\OA (BU rs) l=true
      .rw[if_pos c3]at i6;have hl:l.length=2:=by omega
       match l,hl,i6,one,c3,h2 with
       | [a,b],_,i6,one,c3,h2 =>
        have hb:bz ns b=true:=by
         rcases c3 with c3|c3
         .exact ko hrs (O1 h2 b (by simp)) c3.2
         .exact fF hrs (O1 h2 b (by simp)) c3.2
        simp[SS,one a (by simp) (i6 a (by simp)),hb]
      .rw[if_neg c3]at i6 hkd;by_cases c4:Ft rs (.mk 3 nm s m l)=true\/Sh rs (.mk 3 nm s m l)=true
       .rcases c4 with c4|c4
        .have:=ko hrs P1 c4;simpa[bz]using this
        .rw[Sh,A0B,A0B,A0B,cK]at c4;obtain⟨⟨⟨⟨_,hl⟩,ha⟩,hb⟩,_⟩:=c4
         replace ha:Qj (BG rs) l=true:=ha
         replace hb:OA (BG rs) l=true:=hb
         have hl:l.length=2:=by omega
         match l,hl,ha,hb,h2 with
         | [a,b],_,ha,hb,h2=>simp[SS,Xt hrs (O1 h2 a (by simp)) ha,Xt hrs (O1 h2 b (by simp)) hb]
       .rw[if_neg c4]at hkd;omega
  .have hb:=(HK h1);have hl:l=[]:=A0R (hb.2.1 (by rcases hb.2.2.1 with h|h|h<;>omega))
   subst hl;rw[QA]at hs;simp only[Tm.kind,ne_eq,hk,not_false_eq_true,if_true,Tm.name]at hs;by_cases h:ns.any (U3 nm)=true
   .simp[bz,SS,h]
   .replace hs:(if ns.any (U3 nm)=true then (0:Int)else 13)=0:=hs
    rw[if_neg h]at hs;omega
theorem TL (n:Nar):∀a,n.roles.any (U3 a)=true->(B4 n).any (U3 a)=true:=by
 intro a h;unfold B4;rw[A0U,A0U,h,A0W,A0W]
theorem bS {ns rs:List ByteArray} {s:Ste} (h:FN ns rs s=0):o6 ns rs s.msg=0:=by
 unfold FN at h;split at h
 .rename_i h1;exact absurd h h1
 .exact h
theorem jT {ns rs:List ByteArray} {g:Gol} (h:HN ns rs g=0):∀t∈g.data,o6 ns rs t=0:=by
 unfold HN at h;split at h
 .omega
 .split at h
  .rename_i h1;exact absurd h h1.2
  .exact DZ h
theorem al (n:Nar) (F:Fine n) (S:Lens n):∃r,pc Q S1 [F0 n]=some (.tup [F0 r,.int .i64 (Z5 n).1,.int .i64 (Z5 n).2])/\((Z5 n).2=0->Pn r=Cn (J8 (B4 n) (G3 n)) n):=by
 suffices h:∃v,pc Q S1 [F0 n]=some v/\∃r,v=.tup [F0 r,.int .i64 (Z5 n).1,.int .i64 (Z5 n).2]/\((Z5 n).2=0->Pn r=Cn (J8 (B4 n) (G3 n)) n) by
  obtain⟨v,h1,r,rfl,h2⟩:=h;exact⟨r,h1,h2⟩
 have hC:=ip n F S;have nb:=D8 n;by_cases hz:(Z5 n).2=0
 .obtain⟨hz0,hR⟩:=DB hz;obtain⟨k1,k2,k3⟩:=EU hR.nar;have hrk:=TL n;have q1:=iK n (J8 (B4 n) (G3 n)) S.steps (λs hs=>Ws n S _ _ (A0P _) (F.steps s hs).2.2 (Iu (QC (k2 s hs))) (kr hrk _ _ (A0P _) (Iu (QC (k2 s hs))) (bS (hR.steps s hs))));have q2:=iJ n (J8 (B4 n) (G3 n)) S.goals S.data (λg hg t ht=>Ws n S _ _ (A0P _) (by have:=(F.goals g hg).2.2;have:=Tm.size_le ht;omega) (Iu (UR (k3 g hg) t ht)) (kr hrk _ _ (A0P _) (Iu (UR (k3 g hg) t ht)) (jT (hR.goals g hg) t ht)));rw[hz0]at hC ⊢;refine HL Bp λΨ hΨ fr hl h0=>?_;simp[Bp]at hl h0;simp[Bp,hl,h0,nb,hC];refine B9.mono (q1 [.str (bs []),.vs true 0 [],.vs true 0 [],.vs true 0 [],.vs true 0 [],.vs true 0 []] (.str n.name) (sl n.rm 1 (n.roles.map .str)) (sl n.fm 3 (n.fresh.map KD)) (sl n.tm 1 (n.tags.map .str)) (.vs true 0 []) _ _ ?_ ?_ ?_ ?_ ?_) ?_<;>first|(simp[hl,nb];done)|skip
  rintro e E1 ⟨bx1,fams1⟩ ⟨K,rfl,B,v,done,hB,hg,hd⟩;have J5:E1.length=96:=K.1.trans (by simp[hl]);have Ey:A0 E1 1=.ptr 0 0:=A9 K 1 (by simp[hl]);have GG:A0 E1 2=.ptr 1 0:=A9 K 2 (by simp[hl]);have k7fr1:A0 E1 7=.ptr 2 0:=A9 K 7 (by simp[hl]);clear K;simp only at hB;subst hB;simp;refine B9.mono (q2 [.str (bs []),.vs true 0 [],.vs true 0 [],.vs true 0 [],.vs true 0 [],.vs true 0 []] (.str n.name) (sl n.rm 1 (n.roles.map .str)) (sl n.fm 3 (n.fresh.map KD)) (sl n.tm 1 (n.tags.map .str)) v B _ _ ?_ ?_ ?_ ?_ ?_) ?_<;>first|(simp[J5,Ey,k7fr1];done)|rfl|skip
  rintro e V8 ⟨bx2,fams2⟩ ⟨K,rfl,B2,v2,done2,hB2,hg2,hd2⟩;have R5:V8.length=96:=K.1.trans (by simp[J5]);have k1fr2:A0 V8 1=.ptr 0 0:=A9 K 1 (by simp[Ey]);have k2fr2:A0 V8 2=.ptr 1 0:=A9 K 2 (by simp[GG]);have k7fr2:A0 V8 7=.ptr 2 0:=A9 K 7 (by simp[k7fr1]);clear K;simp only at hB2;subst hB2;have hg1:=eO hg.g hg2.low;obtain⟨m1,z1⟩:=OZ hg1;obtain⟨m2,z2⟩:=OZ hg2.g;simp only at z1 z2;simp[R5,k2fr2,k7fr2,z1,z2];exact hΨ _ ⟨⟨n.name,n.rm,n.roles,n.fm,n.fresh,n.tm,n.tags,m1,done,m2,done2⟩,rfl,λ_=>by simp[Pn,Cn,hd,hd2]⟩
 .refine HL Bp λΨ hΨ fr hl h0=>?_;simp[Bp]at hl h0;simp[Bp,hl,h0,nb,hC,hz,E7,D2];exact hΨ _ ⟨iQ,by rw[←Uk,o7 (true,false) rfl 1 1],λh=>absurd h hz⟩
end Go.Abs.Q
