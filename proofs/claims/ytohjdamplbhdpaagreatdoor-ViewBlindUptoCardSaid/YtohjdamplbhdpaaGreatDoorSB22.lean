/- A part of the proof. -/
import Derived.Test.YtohjdamplbhdpaaGreatDoorSB21
set_option linter.all false
open List renaming getElem?_eq_getElem->A0O,mem_map_of_mem->A0P,length_map->A0Q,getD_eq_getElem?_getD->A0R,mem_of_getElem?->A0S,take_succ_eq_append_getElem->A0T,getElem_mem->A0U,mem_map->A0V,mem_cons_self->A0W,mem_cons_of_mem->A0X,replicate->A0Y,getElem?_append_left->A0a,take_of_length_le->A0b,getElem?_map->A0c,length_take->A0e,map_cons->A0g,take_succ_cons->A0h,length_set->A0j,mem_singleton->A0k,mem_flatMap->A0l,getElem?_eq_some_iff->A0m,any_eq_true->A0o,map_nil->A0p,map_append->A0s,length_replicate->A0v,mem_of_mem_take->A0w,mem_cons->A0x,getElem_of_mem->A0y,map_set->A0z,all_eq_true->A02,getElem_map->A03,length_cons->A04,mem_append->A05,take_zero->A06,map_take->A07
open Nat renaming le_refl->A0Z,not_lt_zero->A0t,le_trans->A00
open Bool renaming and_eq_true->A0d,false_or->A0f,eq_iff_iff->A0i,or_true->A0n,or_eq_true->A0r,eq_false_iff->A01,true_or->A08
open Option renaming bind_some->A0q,map_some->A0u
namespace Go.Abs.Q
open Go.Proofs
attribute [local simp] E6 E7 fin K1 H4 P2 L5 R0 Q9
def Vk (m:Bool×Bool) (ks:List Nat):AV:=sl m 1 (ks.map λ(j:Nat)=>AV.int .i64 (j:Int))
def ZC (t:Tm) (ks:List Nat) (key:Option Nat) (kn:List Bool):List Nat :=
 if p8 t (bs [112,97,105,114])then ks else if p8 t (bs [115,105,103,110])||(match key with|some j=>kn.getD j false|none=>false)then ks.take 1 else []
def zi (ks:List Nat) (v:AV):Prop:=∃mm,v=Vk mm ks
def UF:Option Nat->Int|some j=>j|none=>-1
theorem YP (m:I6) (t:Tm) (ks:List Nat) (key:Option Nat) (kn:List Bool) (k:Nat) (B:List (List AV)) (F:List Fam) (hk:F[k]?=some ⟨kn.map AV.bool,1,true⟩)
  (hkey:∀j,key=some j->j<kn.length) (hks:ks.length<=1048576) (h1:p8 t (bs [112,97,105,114])=false->p8 t (bs [115,105,103,110])=true\/key≠none->1<=ks.length) :
  ∃(mm:Bool×Bool) (B':List (List AV)),rc Q Fs [B8 t,Vw m ks (UF key),.sl k kn.length 0 kn.length] ⟨B,F⟩=some (Vk mm (ZC t ks key kn),⟨B++B',F⟩):=by
 have hP:=Fx t (bs [112,97,105,114]);have hS:=Fx t (bs [115,105,103,110])
 suffices hq:∃v h',rc Q Fs [B8 t,Vw m ks (UF key),.sl k kn.length 0 kn.length] ⟨B,F⟩=some (v,h')/\zi (ZC t ks key kn) v/\∃B',h'=⟨B++B',F⟩ by
  obtain⟨v,h',h1,⟨mm,rfl⟩,B',rfl⟩:=hq;exact⟨mm,B',h1⟩
 unfold ZC;have hm:(kn.map AV.bool).length=kn.length:=A0Q _;by_cases hp:p8 t (bs [112,97,105,114])=true
 .rw[hp]at hP;rw[if_pos hp];clear h1;refine cn O0 λfr hl h0 h1 h2=>?_;simp[O0,Vw]at hl h0 h1 h2;simp[O0,hl,h0,h1,hP];exact⟨m,rfl⟩
 .have hp':p8 t (bs [112,97,105,114])=false:=by simpa using hp
  rw[hp']at hP;rw[if_neg hp];have hks1:=h1 hp';clear h1;have Wb:1<=ks.length->∀h:AH,Yb h 1 (sl m 1 (ks.map λ(j:Nat)=>AV.int .i64 (j:Int))) (some none) (some (some 1)) (some none)=some (sl (m.1&&decide ((1:Int)=ks.length),m.2||!(ks.map λ(j:Nat)=>AV.int .i64 (j:Int)).isEmpty) 1 ((ks.take 1).map λ(j:Nat)=>AV.int .i64 (j:Int)),h):=λhk h=>by
   rw[dB _ _ _ (by decide)];simp only[Option.getD_none,Option.getD_some,A0Q];rw[if_pos (by omega)];simp
  by_cases hg:p8 t (bs [115,105,103,110])=true
  .rw[hg]at hS;have Wb:=Wb (hks1 (.inl hg));rw[if_pos (by rw[hg];rfl)];refine cn O0 λfr hl h0 h1 h2=>?_;simp[O0,Vw]at hl h0 h1 h2;simp[O0,hl,h0,h1,hP,hS,Wb];exact⟨_,by unfold Vk;rw[A07]⟩
  .have Z9:p8 t (bs [115,105,103,110])=false:=by simpa using hg
   rw[Z9]at hS ⊢;cases key with
   |none =>
    rw[if_neg (by simp)];simp only[UF];refine cn O0 λfr hl h0 h1 h2=>?_;simp[O0,Vw]at hl h0 h1 h2;simp[O0,hl,h0,h1,hP,hS];exact⟨(true,false),rfl⟩
   |some j =>
    have hj:=hkey j rfl;have Wb:=Wb (hks1 (.inr (by simp)));have hgd:kn.getD j false=kn[j]:=by rw[A0R,A0O hj];rfl
    have hx:(kn.map AV.bool)[j]?=some (.bool kn[j]):=by rw[A0c,A0O hj];rfl
    simp only[UF,hgd,A0f];generalize kn[j]=b at *
    generalize kn.map AV.bool=X at *
    have hj0:(0:Int)<=(j:Int):=by omega
    obtain⟨hjx,hx⟩:=A0m.1 hx;cases b with
    |true =>
     rw[if_pos rfl];refine cn O0 λfr hl h0 h1 h2=>?_;simp[O0,Vw]at hl h0 h1 h2;simp[O0,hl,h0,h1,h2,hP,hS,hj0,hj,hk,hm,hx,Wb];exact⟨_,by unfold Vk;rw[A07]⟩
    |false =>
     rw[if_neg (by simp)];refine cn O0 λfr hl h0 h1 h2=>?_;simp[O0,Vw]at hl h0 h1 h2;simp[O0,hl,h0,h1,h2,hP,hS,hj0,hj,hk,hm,hx];exact⟨(true,false),rfl⟩
def GG (u:Tm):AV:=.str (Sv (Kf u))
theorem uU (a b:List UInt8):(Sv a == Sv b)=decide (a=b):=by
 have e:(Sv a == Sv b)=((⟨a⟩:Array UInt8) == ⟨b⟩):=rfl;rw[e,A0i,decide_eq_true_iff,beq_iff_eq];exact⟨λh=>congrArg Array.toList h,λh=>by rw[h]⟩
theorem kc {a b:Tm} (ha:OkT a) (hb:OkT b):XM true (GG a) (GG b)=some (JQ b a):=by
 simp only[GG,XM,if_true,uU];congr 1;unfold JQ;rw[A0i,decide_eq_true_iff,decide_eq_true_iff,V5,yJ ha hb];exact⟨Eq.symm,Eq.symm⟩
theorem eG:∀(U:G6) (t:Tm) (i:Nat),(∀x∈U,OkT x)->OkT t->K0 U t=true->Mr true (GG t) (U.map GG) i=some (some (i+Sh U t))
 | [],t,i,_,_,h=>by simp[K0]at h
 |x::U,t,i,hU,ht,h=>by
  have hx:=hU x A0W;rw[A0g,Mr,kc ht hx];rw[VB]at h;unfold Sh;rw[List.findIdx_cons];cases hc:JQ x t with
  |true=>rfl
  |false =>
   rw[hc,A0f]at h;have:=eG U t (i+1) (λy hy=>hU y (A0X _ hy)) ht h;simp only[cond_false];rw[this];unfold Sh;congr 2;omega
theorem Ze:∀(U:G6) (t:Tm) (i:Nat),(∀x∈U,OkT x)->OkT t->K0 U t=false->Mr true (GG t) (U.map GG) i=some none
 | [],t,i,_,_,h=>rfl
 |x::U,t,i,hU,ht,h=>by
  have hx:=hU x A0W;rw[A0g,Mr,kc ht hx];rw[VB,Bool.or_eq_false_iff]at h;rw[h.1];exact Ze U t (i+1) (λy hy=>hU y (A0X _ hy)) ht h.2
def JS (n:Nat):List AV:=(List.range n).map λ(j:Nat)=>AV.int .i64 (j:Int)
theorem mX (n:Nat):JS (n+1)=JS n++[.int .i64 (n:Int)]:=by
 unfold JS;rw[List.range_succ,A0s,A0g,A0p]
theorem rx (ks vs:G4) (F:List Fam) (s:J3) (i:Int) (h:Mr true (.str s) ks 0=some none):ZA true ⟨[[.mbox ks vs]],F⟩ (.mp 0) (.str s) (.int .i64 i)=some (C5,⟨[[.mbox (ks++[.str s]) (vs++[.int .i64 i])]],F⟩):=by
 simp only[ZA,List.getElem?_cons_zero];rw[show KI ⟨[[.mbox ks vs]],F⟩ false (.int .i64 i)=some (.int .i64 i) from rfl];simp only;rw[if_pos ⟨rfl,rfl⟩,h];rfl
theorem iz (m:I6) (U:G6) (B9:U.length<=1048576) (hS:Y1 U) (hU:∀x∈U,OkT x) (fr:Fr) (h:AH) (hh:h=⟨[[.mbox [] []]],[]⟩) (hl:fr.length=137) (h1:A0 fr 1=sl m 4 (A4 U)) (h5:A0 fr 5=.mp 0) (h6:A0 fr 6=.int .i64 0) :
  B7 (lp (A2 (K8 Q) (D6 i7) Gx) (fr,h)) λe C3 h'=>Kp Gx.wr fr C3/\e=.exit 0/\h'=⟨[[.mbox (U.map GG) (JS U.length)]],[]⟩:=by
 refine B4 rfl fr (λn fr h'=>∃(i:Nat),i+n=U.length/\A0 fr 6=.int .i64 (i:Nat)/\h'=⟨[[.mbox ((U.take i).map GG) (JS i)]],[]⟩) ?_ U.length h ⟨0,by omega,h6,hh⟩;rintro J Φ hJ hΦ n D5 H1 K ⟨i,hi,k6,hr⟩;have A6:=K.1.trans hl;have k1:=A8 K 1 h1;have k5:=A8 K 5 h5;clear K;by_cases A7:i<U.length
 .have L4:=C6 i (by omega);subst hr;have hx:=I0 A7;have ho:=hU _ (A0U A7);have J5:=ho.size;have hP:=cZ _ U[i] (A0Z _) (by omega) (X5 (u9 ho.valid).1).1;have Yt:K0 (U.take i) U[i]=false:=by
   rw[A01];intro h;obtain⟨x,hx,he⟩:=A0o.1 h;obtain⟨j,hj,rfl⟩:=A0y hx;rw[A0e]at hj;rw[List.getElem_take]at he;have:=ah hS (i:=j) (j:=i) (by omega) A7 (V5.1 (of_decide_eq_true he));omega
  have hF:=Ze (U.take i) U[i] 0 (λx hx=>hU x (A0w hx)) ho Yt;have e1:(U.take (i+1)).map GG=(U.take i).map GG++[GG U[i]]:=by
   rw[A0T A7,A0s,A0g,A0p]
  have hM:ZA true ⟨[[.mbox ((U.take i).map GG) (JS i)]],[]⟩ (.mp 0) (.str (Sv (Kf U[i]))) (.int .i64 (i:Int))=some (C5,⟨[[.mbox ((U.take (i+1)).map GG) (JS (i+1))]],[]⟩):=by
   rw[e1,mX];exact rx _ _ [] _ (i:Int) hF
  clear Yt hF e1 hh;generalize (U.take i).map GG=ks0 at *
  generalize hks:(U.take (i+1)).map GG=ks1 at *
  generalize U[i]=s at *
  simp[Gx,A6,k1,k5,k6,A7,L4,hx,hP,hM];exact G0 hJ ⟨i+1,by omega,by simp[A6],by rw[hks]⟩
 .subst hr;have e:i=U.length:=by omega
  subst e;simp[Gx,A6,k1,k6];exact hΦ _ _ _ ⟨rfl,rfl⟩
end Go.Abs.Q
namespace Go.Abs.Q
open Go.Proofs
theorem Xg (U:G6) (s:Tm) (hU:∀x∈U,OkT x) (hs:OkT s) (hh:K0 U s=true) (h:AH) (b:Nat) (hb:h.boxes[b]?=some [.mbox (U.map GG) (JS U.length)]) (z:AV) :
  Gb true false z h (.mp b) (.str (Sv (Kf s)))=some (.int .i64 (Sh U s:Nat),h):=by
 have hF:=eG U s 0 hU hs hh;rw[Nat.zero_add]at hF;have hl:=RH hh;have hv:(JS U.length)[Sh U s]?=some (.int .i64 (Sh U s:Nat)):=by
  unfold JS;rw[A0c,List.getElem?_range hl];rfl
 have he:GM h (.mp b)=some (U.map GG,JS U.length):=by simp only[GM,hb]
 simp only[Gb,he];rw[if_pos (show Sq true (AV.str (Sv (Kf s)))=true from rfl)];rw[show AV.str (Sv (Kf s))=GG s from rfl];simp only[hF,hv];rfl
end Go.Abs.Q
namespace Go.Abs.Q
open Go.Proofs
attribute [local simp] E6 E7 fin K1 H4 P2 L5 R0 Q9
def OL (U:List Tm) (S:List Tm) (kn:List Bool):List Bool:=S.foldl (λkn s=>kn.set (Sh U s) true) kn
theorem Zx (U S:G6) (kn:List Bool):(OL U S kn).length=kn.length:=by
 unfold OL
 induction S generalizing kn with
 |nil=>rfl
 |cons s S ih=>rw[List.foldl_cons,ih,A0j]
theorem iw (m:I6) (S U:G6) (kn:List Bool) (k:Nat) (B0:List (List AV)) (F:List Fam) (B9:S.length<=1048576) (hS:∀x∈S,OkT x/\K0 U x=true) (hU:∀x∈U,OkT x) (hkn:kn.length=U.length) (hUl:U.length<=1048576) (hm:B0[0]?=some [.mbox (U.map GG) (JS U.length)]) (hk:F[k]?=some ⟨kn.map AV.bool,1,true⟩) (fr:Fr) (h:AH) (hh:h=⟨B0,F⟩) (hl:fr.length=137) (h0:A0 fr 0=sl m 4 (A4 S)) (h5:A0 fr 5=.mp 0) (h8:A0 fr 8=.sl k U.length 0 U.length) (h9:A0 fr 9=.int .i64 0) :
  B7 (lp (A2 (K8 Q) (D6 i7) Gw) (fr,h)) λe C3 h'=>Kp Gw.wr fr C3/\e=.exit 2/\h'=⟨B0,F.set k ⟨(OL U S kn).map AV.bool,1,true⟩⟩:=by
 refine B4 rfl fr (λn fr h'=>∃(i:Nat),i+n=S.length/\A0 fr 9=.int .i64 (i:Nat)/\(∃X:List AV,X=(OL U (S.take i) kn).map AV.bool/\h'=⟨B0,F.set k ⟨X,1,true⟩⟩)) ?_ S.length h ⟨0,by omega,h9,⟨kn.map AV.bool,rfl,hh.trans (by rw[DK hk])⟩⟩;rintro J Φ hJ hΦ n D5 H1 K ⟨i,hi,k9,hr⟩;have A6:=K.1.trans hl;have k0:=A8 K 0 h0;have k5:=A8 K 5 h5;have k8:=A8 K 8 h8;clear K;by_cases A7:i<S.length
 .have L4:=C6 i (by omega);obtain⟨X,hXd,rfl⟩:=hr;have hx:=I0 A7;obtain⟨ho,hh2⟩:=hS _ (A0U A7);have J5:=ho.size;have hP:=cZ _ S[i] (A0Z _) (by omega) (X5 (u9 ho.valid).1).1;have hM:=Xg U S[i] hU ho hh2 ⟨B0,F.set k ⟨X,1,true⟩⟩ 0 hm (.int .i64 0);have hix:=RH hh2;have e1:OL U (S.take (i+1)) kn=(OL U (S.take i) kn).set (Sh U S[i]) true:=by
   unfold OL;rw[A0T A7,List.foldl_append];rfl
  have hX:X.length=U.length:=by rw[hXd,A0Q,Zx,hkn]
  have e2:X.set (Sh U S[i]) (.bool true)=(OL U (S.take (i+1)) kn).map AV.bool:=by rw[hXd,e1,A0z]
  have CI:=H5 hk;obtain⟨y,hy⟩:∃y:Bool,X[Sh U S[i]]'(by omega)=.bool y:=by subst hXd;exact⟨_,by rw[A03]⟩
  clear hh e1 hXd;generalize hYd:(OL U (S.take (i+1)) kn).map AV.bool=Y at *
  simp[Gw,A6,k0,k5,k8,k9,A7,L4,hx,hP,hM,CI,hX,hix,hy,e2];exact G0 hJ ⟨i+1,by omega,by simp[A6],Y,hYd.symm,rfl⟩
 .obtain⟨X,hXd,rfl⟩:=hr;rw[A0b (by omega)]at hXd;simp[Gw,A6,k0,k9,A7];exact hΦ _ _ _ ⟨rfl,by rw[hXd]⟩
def lr (F0:List Fam) (sz:Nat) (acc:List AV) (v:AV) (h:AH):Prop:=(acc=[]/\v=.vs true 0 []/\h.fams=F0)\/(acc≠[]/\v=.sl F0.length acc.length 0 acc.length/\h.fams=F0++[⟨acc,sz,false⟩])
theorem Tq {F0:List Fam} {sz:Nat} {acc:G4} {v:AV} {h:AH} (hg:lr F0 sz acc v h):Du sz acc v h:=by
 rcases hg with ⟨h1,h2,-⟩|⟨h1,h2,h3⟩
 .exact .inl ⟨h1,h2⟩
 .exact .inr ⟨h1,_,h2,by rw[h3];simp⟩
theorem qG {c:Ctx} {F0:List Fam} {sz bytes:Nat} {acc:G4} {v x:AV} {h:AH} (hg:lr F0 sz acc v h) (hm:c.mutApp=false) (m:I6)
  (hb:(acc.length+1)*bytes<=140737488355328) (hb':acc.length<=1099511627776):∃v' h',K3 c h sz bytes v (sl m sz [x])=some (v',h')/\lr F0 sz (acc++[x]) v' h'/\h'.boxes=h.boxes:=by
 have hr:(acc.length+1)*bytes<=H3/\acc.length+1<=maxLen:=by simp only[H3,maxLen];omega
 rcases hg with ⟨rfl,rfl,hf⟩|⟨P6,rfl,hf⟩
 .rw[Po,N0,A0q,if_neg (by simp),if_pos (by simpa using hr),hm];exact⟨_,_,rfl,.inr ⟨by simp,by rw[hf];rfl,by simp[hf]⟩,rfl⟩
 .have hk:h.fams[F0.length]?=some ⟨acc,sz,false⟩:=by rw[hf];simp
  rw[LV,N0,A0q,hk,A0q,if_pos ⟨rfl,rfl,by omega,by simpa using hr⟩];exact⟨_,_,rfl,.inr ⟨by simp,by simp,by simp[hf]⟩,rfl⟩
def gp (U:List Tm) (l:List Tm):List AV:=l.map λx=>AV.int .i64 (Sh U x:Nat)
theorem uz (U a b:G6):gp U (a++b)=gp U a++gp U b:=A0s
theorem bq (m:I6) (U l:G6) (q:Nat) (t:Tm) (hql:U[q]?=some t) (htk:t.kids=l) (L:Nat) (B0:List (List AV)) (B9:l.length<=1048576) (CK:∀x∈l,OkT x/\K0 U x=true) (hU:∀x∈U,OkT x) (hUl:U.length<=1048576) (hm:B0[0]?=some [.mbox (U.map GG) (JS U.length)]) (hL:L=B0.length) (F0:List Fam) (fr:Fr) (h:AH) (hh:h.boxes=B0++[[.vs true 0 [],.int .i64 (-1)]]) (hF0:h.fams=F0) (hl:fr.length=64) (h0:A0 fr 0=sl m 4 (A4 U)) (h1:A0 fr 1=.mp 0) (h6:A0 fr 6=.int .i64 (q:Nat)) (h7:A0 fr 7=.ptr L 0) (h8:A0 fr 8=.int .i64 0) :
  B7 (lp (A2 (K8 Q) (D6 Q6) ES) (fr,h)) λe C3 h'=>Kp ES.wr fr C3/\e=.exit 2/\∃v:AV,h'.boxes=B0++[[v,.int .i64 (-1)]]/\lr F0 1 (gp U l) v h':=by
 refine B4 rfl fr (λn fr h'=>∃(i:Nat),i+n=l.length/\A0 fr 8=.int .i64 (i:Nat)/\(∃v:AV,h'.boxes=B0++[[v,.int .i64 (-1)]]/\lr F0 1 (gp U (l.take i)) v h')) ?_ l.length h ⟨0,by omega,h8,_,hh,.inl ⟨rfl,rfl,hF0⟩⟩;rintro J Φ hJ hΦ n D5 H1 K ⟨i,hi,k8,hr⟩;have A6:=K.1.trans hl;have k0:=A8 K 0 h0;have k1:=A8 K 1 h1;have k6:=A8 K 6 h6;have k7:=A8 K 7 h7;clear K;by_cases A7:i<l.length
 .have L4:=C6 i (by omega);obtain⟨v,hB,hg⟩:=hr;obtain⟨bx,F⟩:=H1;simp only at hB;subst hB;have hq:q<U.length:=H5 hql;have hqx:Hm (A4 U) q=some (B8 t):=by
   have:=I0 hq;rw[A0O hq]at hql;rw[this,Option.some.inj hql]
  have hx:=I0 A7;obtain⟨ho,hh2⟩:=CK _ (A0U A7);have hP:=cZ _ l[i] (A0Z _) (by have:=ho.size;omega) (X5 (u9 ho.valid).1).1;have hm':(B0++[[v,.int .i64 (-1)]])[0]?=some [.mbox (U.map GG) (JS U.length)]:=by rw[A0a (H5 hm)];exact hm
  have hM:=Xg U l[i] hU ho hh2 ⟨B0++[[v,.int .i64 (-1)]],F⟩ 0 hm' (.int .i64 0);have hal:(gp U (l.take i)).length<=1048576:=by unfold gp;rw[A0Q,A0e];omega
  obtain⟨v',⟨bx',F'⟩,ha,Z9,Qn⟩:=qG (c:=D6 Q6) (bytes:=8) (x:=.int .i64 (Sh U l[i]:Nat)) hg rfl (true,true) (by omega) (by omega);simp only at Qn;subst Qn;have e1:gp U (l.take (i+1))=gp U (l.take i)++[.int .i64 (Sh U l[i]:Nat)]:=by
   rw[A0T A7,uz];rfl
  rw[←e1]at Z9;obtain⟨c1,c2,c3⟩:=L6 (Tq hg);obtain⟨c4,c5,c6⟩:=L6 (Tq Z9);subst hL;clear hh e1;subst htk;generalize t.kids[i]=s at *
  simp[ES,A6,k0,k1,k6,k7,k8,A7,L4,hqx,hx,hP,hM,A5,ha,c4,c5];exact G0 hJ ⟨i+1,by omega,by simp[A6],v',rfl,Z9⟩
 .obtain⟨v,hB,hg⟩:=hr;rw[A0b (by omega)]at hg;have hq:q<U.length:=H5 hql;have hqx:Hm (A4 U) q=some (B8 t):=by
   have:=I0 hq;rw[A0O hq]at hql;rw[this,Option.some.inj hql]
  subst htk;simp[ES,A6,k0,k6,k8,A7,hqx];exact hΦ _ _ _ ⟨rfl,v,hB,hg⟩
def MR (U:List Tm) (t:Tm):List Nat:=t.kids.map (Sh U)
def SK (U:List Tm) (t:Tm):Option Nat:=(JI t).map (Sh U)
theorem qy (U:G6) (t:Tm):gp U t.kids=(MR U t).map λ(j:Nat)=>AV.int .i64 (j:Int):=by
 unfold gp MR;rw[List.map_map];rfl
def Vb (U l:List Tm) (acc:List AV):Prop:=acc.length=l.length/\∀(j:Nat) (hj:j<l.length),∃mm,acc[j]?=some (Vw mm (MR U l[j]) (UF (SK U l[j])))
theorem iA {U l:G6} {acc:G4} (h:Vb U l acc) (t:Tm) (mm:I6):Vb U (l++[t]) (acc++[Vw mm (MR U t) (UF (SK U t))]):=by
 obtain⟨h1,h2⟩:=h;refine⟨by simp[h1],λj hj=>?_⟩;by_cases hjl:j<l.length
 .obtain⟨m2,hm⟩:=h2 j hjl;refine⟨m2,?_⟩;rw[A0a (by omega),List.getElem_append_left hjl];exact hm
 .have e:j=l.length:=by simp at hj;omega
  subst e;refine⟨mm,?_⟩;rw[List.getElem?_append_right (by omega),List.getElem_append_right (by omega)];simp[h1]
end Go.Abs.Q
namespace Go.Abs.Q
open Go.Proofs
def kF (kn:List Bool):Nat:=(kn.filter (!·)).length
theorem dI:∀{kn:List Bool} {i:Nat},i<kn.length->kn.getD i false=false->kF (kn.set i true)+1=kF kn
 | [],i,h,_=>absurd h (A0t _)
 |b::kn,0,_,h=>by
  have:b=false:=h;subst this;simp[kF]
 |b::kn,i+1,h,h'=>by
  have ih:=dI (kn:=kn) (i:=i) (by simpa using h) (by simpa using h');unfold kF at ih ⊢;cases b with
  |true=>simpa using ih
  |false =>
   simp only[List.set_cons_succ,List.filter_cons,Bool.not_false,if_true,A04];omega
theorem PU {kn:List Bool} {i:Nat} (hi:i<kn.length) (j:Nat):(kn.set i true).getD j false=(decide (i=j)||kn.getD j false):=by
 rw[A0R,A0R,List.getElem?_set];by_cases h:i=j
 .subst h;rw[if_pos rfl,if_pos hi];simp
 .rw[if_neg h];simp[h]
def s6:List Tm->List Bool->List Tm
 |u::U,b::kn=>if b then u::s6 U kn else s6 U kn
 |_,_=>[]
theorem SX:∀{U:G6} {kn:List Bool} {t:Tm},t∈s6 U kn↔∃j:Nat,U[j]?=some t/\kn.getD j false=true
 | [],kn,t=>by simp[s6]
 |u::U,[],t=>by simp[s6]
 |u::U,b::kn,t=>by
  have ih:=SX (U:=U) (kn:=kn) (t:=t);constructor
  .intro h;cases b with
   |true =>
    rw[s6,if_pos rfl]at h;rcases A0x.1 h with rfl|h
    .exact⟨0,rfl,rfl⟩
    .obtain⟨j,h1,h2⟩:=ih.1 h;exact⟨j+1,by simpa using h1,by simpa using h2⟩
   |false =>
    rw[s6,if_neg (by simp)]at h;obtain⟨j,h1,h2⟩:=ih.1 h;exact⟨j+1,by simpa using h1,by simpa using h2⟩
  .rintro⟨j,h1,h2⟩;cases j with
   |zero =>
    have e1:u=t:=by simpa using h1
    have e2:b=true:=by simpa using h2
    subst e1 e2;rw[s6,if_pos rfl];exact A0W
   |succ j =>
    have:=ih.2 ⟨j,by simpa using h1,by simpa using h2⟩;rw[s6];split
    .exact A0X _ this
    .exact this
theorem aU:∀{U:G6} {kn:List Bool} {i:Nat} (hi:i<U.length),kn.length=U.length->s6 (U.take (i+1)) kn=s6 (U.take i) kn++(if kn.getD i false then [U[i]]else [])
 | [],_,i,hi,_=>absurd hi (A0t _)
 |u::U,[],i,hi,h=>by simp at h
 |u::U,b::kn,0,hi,h=>by
  cases b<;>simp[s6]
 |u::U,b::kn,i+1,hi,h=>by
  have ih:=aU (U:=U) (kn:=kn) (i:=i) (by simpa using hi) (by simpa using h);rw[A0h,A0h,s6,s6,ih];cases b<;>simp
theorem SY {U:G6} {kn:List Bool} {e:Tm}:e∈(s6 U kn).map E3↔∃(j:Nat) (t:Tm),U[j]?=some t/\kn.getD j false=true/\E3 t=e:=by
 rw[A0V];constructor
 .rintro⟨t,h,e⟩;obtain⟨j,h1,h2⟩:=SX.1 h;exact⟨j,t,h1,h2,e⟩
 .rintro⟨j,t,h1,h2,e⟩;exact⟨t,SX.2 ⟨j,h1,h2⟩,e⟩
theorem YM:∀(U:G6) (kn:List Bool),(s6 U kn).length<=U.length
 | [],_=>by simp[s6]
 |_::_,[]=>by simp[s6]
 |u::U,b::kn=>by
  have:=YM U kn;rw[s6];split<;>simp only[A04]<;>omega
structure UOk (U:List Tm):Prop where
 srt:Y1 U
 ok:∀x∈U,OkT x
 kid:∀u∈U,∀x∈u.kids,K0 U x=true
 key:∀u∈U,∀x,JI u=some x->OkT x/\K0 U x=true
theorem rA {U:G6} (hS:Y1 U) {i:Nat} (hi:i<U.length) {x:Tm} (e:E3 x=E3 U[i]):Sh U x=i:=by
 have h:K0 U x=true:=V6.2 (by rw[e];exact A0P (A0U hi));exact ah hS (RH h) hi ((qz h).trans e)
theorem RG {U:G6} {kn:List Bool} (hS:Y1 U) {x:Tm} (hx:K0 U x=true):K0 (s6 U kn) x=kn.getD (Sh U x) false:=by
 rw[A0i,V6,SY];constructor
 .rintro⟨j,t,hj,hk,e⟩;obtain⟨hjl,rfl⟩:=A0m.1 hj;rw[rA hS hjl e.symm];exact hk
 .intro h;exact⟨Sh U x,_,A0O (RH hx),h,qz hx⟩
theorem ZZ {U:G6} {kn:List Bool} (hU:UOk U) {u:Tm} (hu:u∈U):Fn (s6 U kn) u=(EH u ac&&(MR U u).all λj=>kn.getD j false):=by
 unfold Fn MR;congr 1;rw[A0i,A02,A02];constructor
 .intro h j hj;obtain⟨x,hx,rfl⟩:=A0V.1 hj;rw[←RG hU.srt (hU.kid u hu x hx)];exact h x hx
 .intro h x hx;rw[RG hU.srt (hU.kid u hu x hx)];exact h _ (A0P hx)
def uK (S U:List Tm) (kn:List Bool):Prop:=kn.length=U.length/\∀(j:Nat) (t:Tm),U[j]?=some t->kn.getD j false=true->Kn S U (E3 t)
theorem vH {S U:G6} {kn:List Bool} (hK:uK S U kn) {i:Nat} {t:Tm} (ht:U[i]?=some t) (hs:Dn (s6 U kn) t=true):uK S U (kn.set i true):=by
 have hi:=H5 ht;refine⟨by rw[A0j];exact hK.1,λj u hu hj=>?_⟩;rw[PU (by rw[hK.1];exact hi)]at hj;by_cases h:i=j
 .subst h;rw[ht]at hu;cases hu;refine .step (s6 U kn) (λe he=>?_) t (A0S ht) hs;obtain⟨j,x,h1,h2,rfl⟩:=SY.1 he;exact hK.2 j x h1 h2
 .simp only[h,decide_false,A0f]at hj;exact hK.2 j u hu hj
theorem iN {a b:Tm} (h:E3 a=E3 b):JQ a b=true:=decide_eq_true (V5.2 h)
theorem xR {a b:Tm} (h:JQ a b=true):E3 a=E3 b:=V5.1 (of_decide_eq_true h)
theorem kS {U:G6} {y:Tm} (h:K0 U y=true):∃x,U[Sh U y]?=some x/\E3 x=E3 y:=⟨_,A0O (RH h),qz h⟩
theorem aF {U:G6} {kn:List Bool} (hU:UOk U) {i:Nat} {t:Tm} (ht:U[i]?=some t) (hk:kn.getD i false=true) {p:Nat} (hp:p∈ZC t (MR U t) (SK U t) kn) :
  ∃x,U[p]?=some x/\Dn (s6 U kn) x=true:=by
 have hm:=A0S ht;have BF:=hU.ok t hm;have XT:t∈s6 U kn:=SX.2 ⟨i,ht,hk⟩
 suffices h:∃x,U[p]?=some x/\Qh (s6 U kn) x t=true by
  obtain⟨x,h1,h2⟩:=h;refine⟨x,h1,?_⟩;unfold Dn;rw[show Ma (s6 U kn) x=true from A0o.2 ⟨t,XT,h2⟩,A0n]
 unfold ZC at hp;unfold Qh;by_cases h1:p8 t (bs [112,97,105,114])=true
 .rw[if_pos h1]at hp;obtain⟨a,b,BE⟩:=R7 BF h1 (.inl rfl);have k0:J0 t 0=a:=by simp[J0,BE]
  have k1:J0 t 1=b:=by simp[J0,BE]
  unfold MR at hp;obtain⟨y,hy,rfl⟩:=A0V.1 hp;obtain⟨x,hx,e⟩:=kS (hU.kid t hm y hy);refine⟨x,hx,?_⟩;rw[if_pos h1,k0,k1];rw[BE]at hy;simp only[A0x,List.not_mem_nil,or_false]at hy;rcases hy with rfl|rfl
  .rw[iN e.symm,A08]
  .rw[iN (a:=y) e.symm,A0n]
 .rw[if_neg h1]at hp;have one:∀{a b:Tm},t.kids=[a,b]->p∈(MR U t).take 1->∃x,U[p]?=some x/\JQ (J0 t 0) x=true:=by
   intro a b BE hp;have k0:J0 t 0=a:=by simp[J0,BE]
   unfold MR at hp;rw[BE]at hp;simp only[A0g,A0p,A0h,A06,A0k]at hp;obtain⟨x,hx,e⟩:=kS (hU.kid t hm a (by rw[BE];simp));exact⟨x,by rw[hp];exact hx,by rw[k0];exact iN e.symm⟩
  by_cases h2:p8 t (bs [115,105,103,110])=true
  .rw[if_pos (by rw[h2];rfl)]at hp;obtain⟨a,b,BE⟩:=R7 BF h2 (.inr (.inr (.inr (.inl rfl))));obtain⟨x,hx,e⟩:=one BE hp;exact⟨x,hx,by rw[if_neg h1,if_pos h2];exact e⟩
  .have h2':p8 t (bs [115,105,103,110])=false:=by simpa using h2
   rw[h2',A0f]at hp;unfold SK at hp;cases hk:JI t with
   |none =>
    rw[hk]at hp;simp at hp
   |some k =>
    rw[hk,A0u]at hp;simp only at hp;have hh:=RG (kn:=kn) hU.srt (hU.key t hm k hk).2;by_cases h3:kn.getD (Sh U k) false=true
    .rw[if_pos h3]at hp;obtain⟨a,b,BE⟩:∃a b,t.kids=[a,b]:=by
      unfold JI at hk;by_cases q1:p8 t (bs [101,110,99])=true
      .exact R7 BF q1 (.inr (.inl rfl))
      .rw[if_neg q1]at hk;by_cases q2:(p8 t (bs [97,101,110,99])&&p8 (J0 t 1) (bs [112,107]))=true
       .rw[A0d]at q2;exact R7 BF q2.1 (.inr (.inr (.inl rfl)))
       .rw[if_neg q2]at hk;cases hk
     obtain⟨x,hx,e⟩:=one BE hp;refine⟨x,hx,?_⟩;rw[if_neg h1,if_neg h2];simp only;rw[e,hh,h3];rfl
    .rw[if_neg h3]at hp;cases hp
theorem xo {U:G6} (hU:UOk U) {t:Tm} (hm:t∈U) (kn:List Bool) {p:Nat} (hp:p∈ZC t (MR U t) (SK U t) kn):p<U.length:=by
 have h:p∈MR U t:=by
  have two:∀(c:Bool) (l:List Nat),p∈(if c=true then l.take 1 else [])->p∈l:=λc l h=>by
   cases c with
   |true=>exact A0w h
   |false=>cases h
  unfold ZC at hp;by_cases h1:p8 t (bs [112,97,105,114])=true
  .rw[if_pos h1]at hp;exact hp
  .rw[if_neg h1]at hp;exact two _ _ hp
 unfold MR at h;obtain⟨y,hy,rfl⟩:=A0V.1 h;exact RH (hU.kid t hm y hy)
def ClA (U:List Tm) (kn:List Bool) (j:Nat):Prop:=∀t,U[j]?=some t->(kn.getD j false=true\/(OK t||(EH t ac&&(MR U t).all λj=>kn.getD j false))=false)/\(kn.getD j false=true->∀p∈ZC t (MR U t) (SK U t) kn,kn.getD p false=true)
theorem dn {U:G6} {kn:List Bool} (hU:UOk U) (h:∀j,j<U.length->ClA U kn j):∀u∈U,K0 (s6 U kn) u=true\/Dn (s6 U kn) u=false:=by
 intro u hu;obtain⟨i,hi,rfl⟩:=A0y hu;have hh:K0 U U[i]=true:=V6.2 (A0P hu);have hix:=rA hU.srt hi (x:=U[i]) rfl;have hp:=RG (kn:=kn) hU.srt hh;rw[hix]at hp;rw[hp];by_cases hk:kn.getD i false=true
 .exact .inl hk
 .refine .inr ?_;obtain⟨c1,-⟩:=h i hi _ (A0O hi);rcases c1 with c1|c1
  .exact absurd c1 hk
  unfold Dn;rw[ZZ hU hu,c1,A0f,A01];intro ho;obtain⟨t,ht,ho⟩:=A0o.1 ho;obtain⟨j,hj,hjk⟩:=SX.1 ht;have htm:=A0S hj;have BF:=hU.ok t htm;obtain⟨-,c2⟩:=h j (H5 hj) t hj;refine hk (c2 hjk i ?_);have mem:∀{y:Tm},y∈t.kids->JQ y U[i]=true->i=Sh U y:=λhy e=>(rA hU.srt hi (xR e)).symm;have one:∀{a b:Tm},t.kids=[a,b]->JQ (J0 t 0) U[i]=true->i∈(MR U t).take 1:=by
   intro a b BE e;have k0:J0 t 0=a:=by simp[J0,BE]
   rw[k0]at e;unfold MR;rw[BE];simp only[A0g,A0p,A0h,A06,A0k];exact mem (by rw[BE];simp) e
  unfold Qh at ho;unfold ZC;by_cases h1:p8 t (bs [112,97,105,114])=true
  .rw[if_pos h1]at ho ⊢;obtain⟨a,b,BE⟩:=R7 BF h1 (.inl rfl);have k0:J0 t 0=a:=by simp[J0,BE]
   have k1:J0 t 1=b:=by simp[J0,BE]
   rw[k0,k1,A0r]at ho;unfold MR;rcases ho with ho|ho
   .rw[mem (by rw[BE];simp) ho];exact A0P (by rw[BE];simp)
   .rw[mem (by rw[BE];simp) ho];exact A0P (by rw[BE];simp)
  .rw[if_neg h1]at ho ⊢;by_cases h2:p8 t (bs [115,105,103,110])=true
   .rw[if_pos h2]at ho;rw[if_pos (by rw[h2];rfl)];obtain⟨a,b,BE⟩:=R7 BF h2 (.inr (.inr (.inr (.inl rfl))));exact one BE ho
   .rw[if_neg h2]at ho;have h2':p8 t (bs [115,105,103,110])=false:=by simpa using h2
    rw[h2',A0f];unfold SK;cases hk:JI t with
    |none=>rw[hk]at ho;cases ho
    |some k =>
     rw[hk]at ho;simp only[A0d]at ho;have hh:=RG (kn:=kn) hU.srt (hU.key t htm k hk).2;rw[A0u];simp only;rw[if_pos (by rw[←hh];exact ho.2)];obtain⟨a,b,BE⟩:∃a b,t.kids=[a,b]:=by
      unfold JI at hk;by_cases q1:p8 t (bs [101,110,99])=true
      .exact R7 BF q1 (.inr (.inl rfl))
      .rw[if_neg q1]at hk;by_cases q2:(p8 t (bs [97,101,110,99])&&p8 (J0 t 1) (bs [112,107]))=true
       .rw[A0d]at q2;exact R7 BF q2.1 (.inr (.inr (.inl rfl)))
       .rw[if_neg q2]at hk;cases hk
     exact one BE ho.1
structure PasS (S U:List Tm) (kn0 kn:List Bool) (c:Bool) (i:Nat):Prop where
 kns:uK S U kn
 mono:∀j,kn0.getD j false=true->kn.getD j false=true
 chg:c=true->kF kn<kF kn0
 stay:c=false->kn=kn0/\∀j,j<i->ClA U kn j
end Go.Abs.Q
namespace Go.Abs.Q
open Go.Proofs
attribute [local simp] E6 E7 fin K1 H4 P2 L5 R0 Q9
structure MkS (kn:List Bool) (ps:List Nat) (kn':List Bool) (c0 c:Bool) (i:Nat):Prop where
 len:kn'.length=kn.length
 mono:∀j,kn.getD j false=true->kn'.getD j false=true
 only:∀j,kn'.getD j false=true->kn.getD j false=true\/j∈ps
 le:kF kn'<=kF kn
 chg:c=true->c0=true\/kF kn' < kF kn
 stay:c=false->c0=false/\kn'=kn/\∀p∈ps.take i,kn.getD p false=true
theorem QA (m:I6) (ps:List Nat) (N:Nat) (kn:List Bool) (c0:Bool) (k:Nat) (B0:List (List AV)) (F:List Fam) (hN:kn.length=N) (hps:∀p∈ps,p<N) (B9:ps.length<=1048576) (hNl:N<=1048576) (hk:k<F.length) (fr:Fr) (h:AH) (hh:h=⟨B0,F.set k ⟨kn.map AV.bool,1,true⟩⟩) (h10:A0 fr 10=.bool c0) (hl:fr.length=137) (h8:A0 fr 8=.sl k N 0 N) (h12:A0 fr 12=Vk m ps) (h13:A0 fr 13=.int .i64 0) :
  B7 (lp (A2 (K8 Q) (D6 i7) ER) (fr,h)) λe C3 h'=>Kp ER.wr fr C3/\e=.exit 8/\∃(kn':List Bool) (c:Bool),A0 C3 10=.bool c/\h'=⟨B0,F.set k ⟨kn'.map AV.bool,1,true⟩⟩/\MkS kn ps kn' c0 c ps.length:=by
 refine B4 rfl fr (λn fr h'=>∃(i:Nat),i+n=ps.length/\A0 fr 13=.int .i64 (i:Nat)/\(∃(kn':List Bool) (c:Bool),A0 fr 10=.bool c/\h'=⟨B0,F.set k ⟨kn'.map AV.bool,1,true⟩⟩/\MkS kn ps kn' c0 c i)) ?_ ps.length h ⟨0,by omega,h13,kn,c0,h10,hh,rfl,λ_ h=>h,λ_ h=>.inl h,A0Z _,λh=>.inl h,λh=>⟨h,rfl,λp hp=>(nomatch hp)⟩⟩;rintro J Φ hJ hΦ n D5 H1 K ⟨i,hi,k13,hr⟩;have A6:=K.1.trans hl;have k8:=A8 K 8 h8;have k12:=A8 K 12 h12;clear K;by_cases A7:i<ps.length
 .have L4:=C6 i (by omega);obtain⟨kn',c,k10,rfl,hM⟩:=hr;have hx:=G1 (f:=λ(j:Nat)=>AV.int .i64 (j:Int)) (A0O A7);have hj:=hps _ (A0U A7);have htk:∀p∈ps.take (i+1),p∈ps.take i\/p=ps[i]:=λp hp=>by
   rw[A0T A7]at hp;rcases A05.1 hp with h|h
   .exact .inl h
   .exact .inr (A0k.1 h)
  have hjm:=A0U A7;unfold Vk at k12;clear hh h10;generalize ps[i]=j at *
  have hXl:(kn'.map AV.bool).length=N:=by rw[A0Q,hM.len,hN]
  have hjk:j<kn'.length:=by rw[hM.len];omega
  have hgd:kn'.getD j false=kn'[j]:=by rw[A0R,A0O hjk];rfl
  have hy:(kn'.map AV.bool)[j]'(by rw[hXl];exact hj)=.bool kn'[j]:=A03 ..;have e2:(kn'.map AV.bool).set j (.bool true)=(kn'.set j true).map AV.bool:=by rw[A0z]
  rw[←hgd]at hy;by_cases hb:kn'.getD j false=true
  .have hM2:MkS kn ps kn' c0 c (i+1):=by
    refine⟨hM.len,hM.mono,hM.only,hM.le,hM.chg,λhc=>?_⟩;obtain⟨q1,q2,q3⟩:=hM.stay hc;refine⟨q1,q2,λp hp=>?_⟩;rcases htk p hp with hp|rfl
    .exact q3 p hp
    .rw[←q2];exact hb
   rw[hb]at hy;clear e2 htk;generalize hX:kn'.map AV.bool=X at *
   simp[ER,A6,k8,k12,k13,A7,L4,hx,hk,hXl,hj,hy];exact G0 hJ ⟨i+1,by omega,by simp[A6],kn',c,by simp[k10],by rw[hX],hM2⟩
  .have hb':kn'.getD j false=false:=by simpa using hb
   have hu:=dI hjk hb';have hM2:MkS kn ps (kn'.set j true) c0 true (i+1):=by
    refine⟨by rw[A0j];exact hM.len,λq hq=>by rw[PU hjk,hM.mono q hq,A0n],λq hq=>?_,by have:=hM.le;omega,λ_=>.inr (by have:=hM.le;omega),λh=>(nomatch h)⟩;rw[PU hjk,A0r,decide_eq_true_iff]at hq;rcases hq with rfl|hq
    .exact .inr hjm
    .exact hM.only q hq
   rw[hb']at hy;clear htk;generalize hX:kn'.map AV.bool=X at *
   generalize hY:(kn'.set j true).map AV.bool=Y at *
   simp[ER,A6,k8,k12,k13,A7,L4,hx,hk,hXl,hj,hy,e2];exact G0 hJ ⟨i+1,by omega,by simp[A6],kn'.set j true,true,by simp[A6],by rw[hY],hM2⟩
 .obtain⟨kn',c,k10,rfl,hM⟩:=hr;have e:i=ps.length:=by omega
  subst e;unfold Vk at k12;simp[ER,A6,k12,k13];exact hΦ _ _ _ ⟨rfl,kn',c,by simp[k10],rfl,hM⟩
end Go.Abs.Q
namespace Go.Abs.Q
open Go.Proofs
theorem jT {S U:G6} {kn0 kn:List Bool} {c:Bool} {i:Nat} (h:PasS S U kn0 kn c i):kF kn<=kF kn0:=by
 cases c with
 |true=>exact Nat.le_of_lt (h.chg rfl)
 |false=>rw[(h.stay rfl).1];exact A0Z _
theorem sE {S U:G6} (hU:UOk U) {kn0 kn kn2:List Bool} {c c2:Bool} {i:Nat} {t:Tm} (h:PasS S U kn0 kn c i) (ht:U[i]?=some t) (hk:kn.getD i false=true)
  (hM:MkS kn (ZC t (MR U t) (SK U t) kn) kn2 c c2 (ZC t (MR U t) (SK U t) kn).length):PasS S U kn0 kn2 c2 (i+1) where
 kns:=by
  refine⟨by rw[hM.len];exact h.kns.1,λj u hu hj=>?_⟩;rcases hM.only j hj with q|q
  .exact h.kns.2 j u hu q
  .obtain⟨x,hx,hs⟩:=aF hU ht hk q;rw[hu]at hx;cases hx;refine .step (s6 U kn) (λe he=>?_) u (A0S hu) hs;obtain⟨j,x,h1,h2,rfl⟩:=SY.1 he;exact h.kns.2 j x h1 h2
 mono:=λj hj=>hM.mono j (h.mono j hj)
 chg:=λhc=>by
  have:=jT h;have:=hM.le;rcases hM.chg hc with q|q
  .have:=h.chg q;omega
  .omega
 stay:=λhc=>by
  obtain⟨q1,q2,q3⟩:=hM.stay hc;obtain⟨p1,p2⟩:=h.stay q1;subst q2;refine⟨p1,λj hj=>?_⟩;by_cases hji:j<i
  .exact p2 j hji
  .have e:j=i:=by omega
   subst e;intro u hu;rw[ht]at hu;cases hu;rw[List.take_length]at q3;exact⟨.inl hk,λ_=>q3⟩
theorem lL {S U:G6} (hU:UOk U) {kn0 kn kn2:List Bool} {c c2:Bool} {i:Nat} {t:Tm} (h:PasS S U kn0 kn c i) (ht:U[i]?=some t) (hk:kn.getD i false=false)
  (hd:(OK t||(EH t ac&&(MR U t).all λj=>kn.getD j false))=true)
  (hM:MkS (kn.set i true) (ZC t (MR U t) (SK U t) (kn.set i true)) kn2 true c2 (ZC t (MR U t) (SK U t) (kn.set i true)).length):PasS S U kn0 kn2 c2 (i+1):=by
 have hi:i<kn.length:=by rw[h.kns.1];exact H5 ht
 have hu:=dI hi hk;have OI:=jT h;have Hi:Dn (s6 U kn) t=true:=by
  unfold Dn;rw[ZZ hU (A0S ht),hd,A08]
 have hK1:=vH h.kns ht Hi;have hk1:(kn.set i true).getD i false=true:=by rw[PU hi];simp
 have hc2:c2=true:=by
  cases c2 with
  |true=>rfl
  |false=>exact absurd (hM.stay rfl).1 (by simp)
 refine⟨⟨by rw[hM.len];exact hK1.1,λj u hu hj=>?_⟩,λj hj=>hM.mono j (by rw[PU hi,h.mono j hj,A0n]),λ_=>by have:=hM.le;omega,λhc=>by rw[hc2]at hc;cases hc⟩;rcases hM.only j hj with q|q
 .exact hK1.2 j u hu q
 .obtain⟨x,hx,hs⟩:=aF hU ht hk1 q;rw[hu]at hx;cases hx;refine .step (s6 U (kn.set i true)) (λe he=>?_) u (A0S hu) hs;obtain⟨j,x,h1,h2,rfl⟩:=SY.1 he;exact hK1.2 j x h1 h2
theorem sD {S U:G6} {kn0 kn kn2:List Bool} {c c2:Bool} {i:Nat} {t:Tm} (h:PasS S U kn0 kn c i) (ht:U[i]?=some t) (hk:kn.getD i false=false)
  (hd:(OK t||(EH t ac&&(MR U t).all λj=>kn.getD j false))=false) (hM:MkS kn [] kn2 c c2 0):PasS S U kn0 kn2 c2 (i+1) where
 kns:=by
  refine⟨by rw[hM.len];exact h.kns.1,λj u hu hj=>?_⟩;rcases hM.only j hj with q|q
  .exact h.kns.2 j u hu q
  .cases q
 mono:=λj hj=>hM.mono j (h.mono j hj)
 chg:=λhc=>by
  have:=jT h;have:=hM.le;rcases hM.chg hc with q|q
  .have:=h.chg q;omega
  .omega
 stay:=λhc=>by
  obtain⟨q1,q2,q3⟩:=hM.stay hc;obtain⟨p1,p2⟩:=h.stay q1;subst q2;refine⟨p1,λj hj=>?_⟩;by_cases hji:j<i
  .exact p2 j hji
  .have e:j=i:=by omega
   subst e;intro u hu;rw[ht]at hu;cases hu;exact⟨.inr hd,λh=>by rw[hk]at h;cases h⟩
theorem cB (t:Tm) (ks:List Nat) (key:Option Nat) (kn:List Bool):(ZC t ks key kn).length<=ks.length:=by
 have two:∀c:Bool,(if c=true then ks.take 1 else []).length<=ks.length:=λc=>by
  cases c with
  |true=>rw[if_pos rfl,A0e];omega
  |false=>exact Nat.zero_le _
 unfold ZC;by_cases h1:p8 t (bs [112,97,105,114])=true
 .rw[if_pos h1];exact A0Z _
 .rw[if_neg h1];exact two _
theorem nh {S U:G6} {kn:List Bool} (h:uK S U kn):PasS S U kn kn false 0:=⟨h,λ_ h=>h,λh=>(nomatch h),λ_=>⟨rfl,λj hj=>absurd hj (A0t _)⟩⟩
theorem rK {U:G6} (hU:UOk U) {t:Tm} (hm:t∈U):(MR U t).length<=1048576/\(∀j∈MR U t,j<U.length)/\(∀j,SK U t=some j->j<U.length)/\(p8 t (bs [112,97,105,114])=false->p8 t (bs [115,105,103,110])=true\/SK U t≠none->1<=(MR U t).length):=by
 have ho:=hU.ok t hm;refine⟨?_,λj hj=>?_,λj hj=>?_,λ_ h=>?_⟩
 .unfold MR;rw[A0Q];have h1:=ho.size;have h2:=t.kids_size;have h3:=Tm.length_le t.kids;omega
 .unfold MR at hj;obtain⟨y,hy,rfl⟩:=A0V.1 hj;exact RH (hU.kid t hm y hy)
 .unfold SK at hj;cases hk:JI t with
  |none=>rw[hk]at hj;cases hj
  |some k =>
   rw[hk,A0u]at hj;cases hj;exact RH (hU.key t hm k hk).2
 .unfold MR;rw[A0Q];have two:∃a b,t.kids=[a,b]:=by
   rcases h with h|h
   .exact R7 ho h (.inr (.inr (.inr (.inl rfl))))
   .unfold SK JI at h;by_cases q1:p8 t (bs [101,110,99])=true
    .exact R7 ho q1 (.inr (.inl rfl))
    .rw[if_neg q1]at h;by_cases q2:(p8 t (bs [97,101,110,99])&&p8 (J0 t 1) (bs [112,107]))=true
     .rw[A0d]at q2;exact R7 ho q2.1 (.inr (.inr (.inl rfl)))
     .rw[if_neg q2]at h;exact absurd rfl h
  obtain⟨a,b,e⟩:=two;rw[e];simp
end Go.Abs.Q
namespace Go.Abs.Q
open Go.Proofs
attribute [local simp] E6 E7 fin K1 H4 P2 L5 R0 Q9
theorem iu (m:I6) (S U:G6) (hU:UOk U) (hUl:U.length<=1048576) (kn0:List Bool) (hk0:uK S U kn0) (k kp:Nat) (acc:G4) (F:List Fam) (hk:k<F.length) (hkp:F[kp]?=some ⟨acc,2,false⟩) (P6:k≠kp) (hpl:Vb U U acc) (fr:Fr) (h:AH) (h10:A0 fr 10=.bool false) (hH:∃B,h=⟨B,F.set k ⟨kn0.map AV.bool,1,true⟩⟩) (hl:fr.length=137) (h1:A0 fr 1=sl m 4 (A4 U)) (h7:A0 fr 7=.sl kp U.length 0 U.length) (h8:A0 fr 8=.sl k U.length 0 U.length) (h11:A0 fr 11=.int .i64 0) :
  B7 (lp (A2 (K8 Q) (D6 i7) Ac) (fr,h)) λe C3 h'=>Kp Ac.wr fr C3/\e=.exit 6/\∃(kn':List Bool) (c:Bool) (B:List (List AV)),A0 C3 10=.bool c/\h'=⟨B,F.set k ⟨kn'.map AV.bool,1,true⟩⟩/\PasS S U kn0 kn' c U.length:=by
 refine B4 rfl fr (λn fr h'=>∃(i:Nat),i+n=U.length/\A0 fr 11=.int .i64 (i:Nat)/\(∃(kn':List Bool) (c:Bool) (B:List (List AV)),A0 fr 10=.bool c/\h'=⟨B,F.set k ⟨kn'.map AV.bool,1,true⟩⟩/\PasS S U kn0 kn' c i)) ?_ U.length h ⟨0,by omega,h11,kn0,false,hH.choose,h10,hH.choose_spec,nh hk0⟩;rintro J Φ hJ hΦ n D5 H1 K ⟨i,hi,k11,hr⟩;have A6:=K.1.trans hl;have k1:=A8 K 1 h1;have k7:=A8 K 7 h7;have k8:=A8 K 8 h8;clear K;by_cases A7:i<U.length
 .have L4:=C6 i (by omega);obtain⟨kn',c,B,k10,rfl,hP⟩:=hr;have hx:=I0 A7;have hat:U[i]?=some U[i]:=A0O A7;have hm:=A0U A7;have ho:=hU.ok _ hm;obtain⟨f1,f2,f3,f4⟩:=rK hU hm;obtain⟨mm,ha⟩:=hpl.2 i A7;have hal:acc.length=U.length:=hpl.1;have hPub:=cg U[i] ho.nm ho.ow;have CI:=hP.kns.1;have hoL:=xo hU hm;clear h10 hH hpl;generalize U[i]=t at *
  have hlk:i<kn'.length:=by omega
  have hgd:kn'[i]?=some (kn'.getD i false):=by rw[A0R,A0O hlk];rfl
  have ha':acc[i]'(by omega)=Vw mm (MR U t) (UF (SK U t)):=by
   rw[A0O (by omega)]at ha;exact Option.some.inj ha
  have hkp':∀X,(F.set k X)[kp]?=some ⟨acc,2,false⟩:=λX=>by rw[List.getElem?_set_ne P6];exact hkp
  have hBu:=sP mm (false,true) t (MR U t) kn' (UF (SK U t)) f1 (λj hj=>by rw[CI];exact f2 j hj) (by omega);unfold Vw at ha' hBu;obtain⟨X,hX⟩:∃X,kn'.map AV.bool=X:=⟨_,rfl⟩;have hXl:X.length=U.length:=by rw[←hX,A0Q,CI]
  have hy:X[i]'(by omega)=.bool (kn'.getD i false):=by
   have h1:X[i]?=some (.bool (kn'.getD i false)):=by rw[←hX,A0c,hgd];rfl
   rw[A0O (by omega)]at h1;exact Option.some.inj h1
  have uD:∀B,Em ⟨B,F.set k ⟨X,1,true⟩⟩ true (.sl k U.length 0 U.length)=some (sl (false,true) 1 X):=λB=>JR (h:=⟨B,F.set k ⟨X,1,true⟩⟩) (xs:=X) (b:=true) (by simp[hk]) hXl;rw[hX]at hBu ⊢;clear hgd ha;by_cases q:kn'.getD i false=true
  .rw[q]at hy;obtain⟨mo,B',hO⟩:=YP mm t (MR U t) (SK U t) kn' k B (F.set k ⟨kn'.map AV.bool,1,true⟩) (by simp[hk]) (λj hj=>by rw[CI];exact f3 j hj) f1 f4;have hl0:=QA mo (ZC t (MR U t) (SK U t) kn') U.length kn' c k (B++B') F CI (λp hp=>hoL kn' hp) (A00 (cB _ _ _ _) f1) hUl hk;have hfin:=λkn2 c2=>sE (kn2:=kn2) (c2:=c2) (c:=c) hU hP hat q;rw[CI,hX]at hO;rw[hX]at hl0;unfold Vw at hO;clear hBu hPub;generalize ZC t (MR U t) (SK U t) kn'=ps at *
   generalize (MR U t).map (λ(j:Nat)=>AV.int .i64 (j:Int))=Z at *
   generalize UF (SK U t)=ky at *
   simp[Ac,A6,k1,k7,k8,k11,A7,hx,hk,hXl,hy,hO,hkp',hal,ha'];refine B7.mono (hl0 _ _ rfl ?_ ?_ ?_ ?_ ?_) ?_<;>first|(simp[A6,k8,k10];done)|skip
   rintro e R3 h2 ⟨K,rfl,kn2,c2,k10',rfl,hM⟩;have CK:R3.length=137:=K.1.trans (by simp[A6]);have k11':A0 R3 11=.int .i64 (i:Nat):=A8 K 11 (by simp[k11]);clear K;simp[CK,k11',L4];exact G0 hJ ⟨i+1,by omega,by simp[CK],kn2,c2,_,by simp[k10'],rfl,hfin kn2 c2 hM⟩
  have q':kn'.getD i false=false:=by simpa using q
  rw[q']at hy;have q8:(kn'.set i true).length=U.length:=by rw[A0j,CI]
  have e2:X.set i (.bool true)=(kn'.set i true).map AV.bool:=by rw[←hX,A0z]
  have hq1:(kn'.set i true)[i]?=some true:=by rw[List.getElem?_set_self hlk]
  obtain⟨Y,hY⟩:∃Y,(kn'.set i true).map AV.bool=Y:=⟨_,rfl⟩;have hYl:Y.length=U.length:=by rw[←hY,A0Q,q8]
  have hyY:Y[i]'(by omega)=.bool true:=by
   have h1:Y[i]?=some (.bool true):=by rw[←hY,A0c,hq1];rfl
   rw[A0O (by omega)]at h1;exact Option.some.inj h1
  rw[hY]at e2;by_cases hp:OK t=true
  .rw[hp]at hPub;obtain⟨mo,B',hO⟩:=YP mm t (MR U t) (SK U t) (kn'.set i true) k B (F.set k ⟨(kn'.set i true).map AV.bool,1,true⟩) (by simp[hk]) (λj hj=>by rw[q8];exact f3 j hj) f1 f4;have hl0:=QA mo (ZC t (MR U t) (SK U t) (kn'.set i true)) U.length (kn'.set i true) true k (B++B') F q8 (λp hp=>hoL _ hp) (A00 (cB _ _ _ _) f1) hUl hk;have hfin:=λkn2 c2=>lL (kn2:=kn2) (c2:=c2) (c:=c) hU hP hat q' (by rw[hp];rfl);rw[q8,hY]at hO;rw[hY]at hl0;unfold Vw at hO;clear hBu;generalize ZC t (MR U t) (SK U t) (kn'.set i true)=ps at *
   generalize (MR U t).map (λ(j:Nat)=>AV.int .i64 (j:Int))=Z at *
   generalize UF (SK U t)=ky at *
   simp[Ac,A6,k1,k7,k8,k11,A7,hx,hk,hXl,hYl,hy,hyY,e2,hO,hkp',hal,ha',hPub];refine B7.mono (hl0 _ _ rfl ?_ ?_ ?_ ?_ ?_) ?_<;>first|(simp[A6,k8];done)|skip
   rintro e R3 h2 ⟨K,rfl,kn2,c2,k10',rfl,hM⟩;have CK:R3.length=137:=K.1.trans (by simp[A6]);have k11':A0 R3 11=.int .i64 (i:Nat):=A8 K 11 (by simp[k11]);clear K;simp[CK,k11',L4];exact G0 hJ ⟨i+1,by omega,by simp[CK],kn2,c2,_,by simp[k10'],rfl,hfin kn2 c2 hM⟩
  have hp':OK t=false:=by simpa using hp
  rw[hp']at hPub;by_cases hb:(EH t ac&&(MR U t).all λj=>kn'.getD j false)=true
  .rw[hb]at hBu;obtain⟨mo,B',hO⟩:=YP mm t (MR U t) (SK U t) (kn'.set i true) k B (F.set k ⟨(kn'.set i true).map AV.bool,1,true⟩) (by simp[hk]) (λj hj=>by rw[q8];exact f3 j hj) f1 f4;have hl0:=QA mo (ZC t (MR U t) (SK U t) (kn'.set i true)) U.length (kn'.set i true) true k (B++B') F q8 (λp hp=>hoL _ hp) (A00 (cB _ _ _ _) f1) hUl hk;have hfin:=λkn2 c2=>lL (kn2:=kn2) (c2:=c2) (c:=c) hU hP hat q' (by rw[hp',hb];rfl);rw[q8,hY]at hO;rw[hY]at hl0;unfold Vw at hO
   skip
   generalize ZC t (MR U t) (SK U t) (kn'.set i true)=ps at *
   generalize (MR U t).map (λ(j:Nat)=>AV.int .i64 (j:Int))=Z at *
   generalize UF (SK U t)=ky at *
   simp[Ac,A6,k1,k7,k8,k11,A7,hx,hk,hXl,hYl,hy,hyY,e2,hO,hkp',hal,ha',hPub,uD,hBu];refine B7.mono (hl0 _ _ rfl ?_ ?_ ?_ ?_ ?_) ?_<;>first|(simp[A6,k8];done)|skip
   rintro e R3 h2 ⟨K,rfl,kn2,c2,k10',rfl,hM⟩;have CK:R3.length=137:=K.1.trans (by simp[A6]);have k11':A0 R3 11=.int .i64 (i:Nat):=A8 K 11 (by simp[k11]);clear K;simp[CK,k11',L4];exact G0 hJ ⟨i+1,by omega,by simp[CK],kn2,c2,_,by simp[k10'],rfl,hfin kn2 c2 hM⟩
  .have hb':(EH t ac&&(MR U t).all λj=>kn'.getD j false)=false:=by simpa using hb
   rw[hb']at hBu;have hl0:=QA (true,false) [] U.length kn' c k B F CI (λp hp=>(nomatch hp)) (by simp) hUl hk;have hfin:=λkn2 c2=>sD (kn2:=kn2) (c2:=c2) (c:=c) hP hat q' (by rw[hp',hb'];rfl);rw[hX]at hl0;have hnil:AV.vs true 0 []=Vk (true,false) []:=rfl;generalize (MR U t).map (λ(j:Nat)=>AV.int .i64 (j:Int))=Z at *
   generalize UF (SK U t)=ky at *
   simp[Ac,A6,k1,k7,k8,k11,A7,hx,hk,hXl,hy,hkp',hal,ha',hPub,uD,hBu];refine B7.mono (hl0 _ _ rfl ?_ ?_ ?_ ?_ ?_) ?_<;>first|(simp[A6,k8,k10];done)|(simp[A6];exact hnil;done)|(simp;rfl;done)|skip
   rintro e R3 h2 ⟨K,rfl,kn2,c2,k10',rfl,hM⟩;have CK:R3.length=137:=K.1.trans (by simp[A6]);have k11':A0 R3 11=.int .i64 (i:Nat):=A8 K 11 (by simp[k11]);clear K;simp[CK,k11',L4];exact G0 hJ ⟨i+1,by omega,by simp[CK],kn2,c2,_,by simp[k10'],rfl,hfin kn2 c2 hM⟩
 .obtain⟨kn',c,B,k10,rfl,hP⟩:=hr;have e:i=U.length:=by omega
  subst e;simp[Ac,A6,k1,k11];exact hΦ _ _ _ ⟨rfl,kn',c,B,by simp[k10],rfl,hP⟩
theorem qF {F0:List Fam} {sz:Nat} {acc:G4} {v:AV} {h:AH} (hg:lr F0 sz acc v h):∃m,∀(B:List (List AV)) (am:Bool),Em ⟨B,h.fams⟩ am v=some (sl m sz acc):=PI (Tq hg)
theorem br (m:I6) (U:G6) (hU:∀x∈U,OkT x) (hUl:U.length<=1048576) (hkd:∀u∈U,∀x∈u.kids,K0 U x=true) (hky:∀u∈U,∀x,JI u=some x->OkT x/\K0 U x=true) (fr:Fr) (h:AH) (hh:h.boxes=[[.mbox (U.map GG) (JS U.length)]]) (h5:A0 fr 5=.vs true 0 []) (hl:fr.length=64) (h0:A0 fr 0=sl m 4 (A4 U)) (h1:A0 fr 1=.mp 0) (h6:A0 fr 6=.int .i64 0) :
  B7 (lp (A2 (K8 Q) (D6 Q6) ET) (fr,h)) λe C3 h'=>Kp ET.wr fr C3/\e=.exit 0/\∃(B':List (List AV)) (v:AV) (acc:List AV),h'.boxes=[.mbox (U.map GG) (JS U.length)]::B'/\A0 C3 5=v/\Du 2 acc v h'/\Vb U U acc:=by
 refine B4 rfl fr (λn fr h'=>∃(i:Nat),i+n=U.length/\A0 fr 6=.int .i64 (i:Nat)/\(∃(B':List (List AV)) (v:AV) (acc:List AV),h'.boxes=[.mbox (U.map GG) (JS U.length)]::B'/\A0 fr 5=v/\Du 2 acc v h'/\Vb U (U.take i) acc)) ?_ U.length h ⟨0,by omega,h6,[],_,[],hh,h5,Cu _ _,rfl,λj hj=>by simp at hj⟩;rintro J Φ hJ hΦ n D5 H1 K ⟨i,hi,k6,hr⟩;have A6:=K.1.trans hl;have k0:=A8 K 0 h0;have k1:=A8 K 1 h1;clear K;by_cases A7:i<U.length
 .have L4:=C6 i (by omega);obtain⟨B',v,acc,hB,k5,hg,hpl⟩:=hr;obtain⟨bx,F⟩:=H1;simp only at hB;subst hB;have hx:=I0 A7;have Ii:=A0U A7;have ho:=hU _ Ii;have Tn:=hkd _ Ii;have hkey:=hky _ Ii;have J5:=ho.size;have hks:=(U[i]).kids_size;have CI:=Tm.length_le (U[i]).kids;simp[ET,A6,k0,k6,A7,D2,E4,M5];refine B7.mono (bq m U U[i].kids i U[i] (A0O A7) rfl (B'.length+1) ([.mbox (U.map GG) (JS U.length)]::B') (by omega) (λx hx=>⟨ho.kid hx,Tn x hx⟩) hU hUl rfl (by simp) F _ _ ?_ ?_ ?_ ?_ ?_ ?_ ?_ ?_) ?_<;>first|(simp[A6,k0,k1,k6];done)|skip
  rintro e R3 ⟨bx2,F2⟩ ⟨K,rfl,v2,hB2,hg2⟩;simp only at hB2;subst hB2;have CK:R3.length=64:=K.1.trans (by simp[A6]);have k0':A0 R3 0=sl m 4 (A4 U):=A8 K 0 (by simp[k0]);have k1':A0 R3 1=.mp 0:=A8 K 1 (by simp[k1]);have k5':A0 R3 5=v:=A8 K 5 (by simp[k5]);have k6':A0 R3 6=.int .i64 (i:Nat):=A8 K 6 (by simp[k6]);have k7':A0 R3 7=.ptr (B'.length+1) 0:=A8 K 7 (by simp[A6]);clear K;have g2:∀X,Du 2 acc v ⟨X,F2⟩:=λX=>ax hg (λj hj=>by
   rcases hg2 with ⟨-,-,e⟩|⟨-,-,e⟩
   .simp only at e;rw[e]
   .simp only at e hj;rw[e];exact A0a hj)
  obtain⟨c1,c2,c3⟩:=L6 (Tq hg2);obtain⟨mz,uD⟩:=qF hg2;simp only at uD;have hal:acc.length=i:=by rw[hpl.1,A0e];omega
  have htk:U.take (i+1)=U.take i++[U[i]]:=A0T A7;have hsn:=λmm=>iA hpl U[i] mm;rw[←htk]at hsn;have happ:∀(X:List (List AV)) (key:Int),∃v' F',K3 (D6 Q6) ⟨X,F2⟩ 2 32 v (sl (true,true) 2 [.agg [sl mz 1 (gp U U[i].kids),.int .i64 key]])=some (v',⟨X,F'⟩)/\Du 2 (acc++[.agg [sl mz 1 (gp U U[i].kids),.int .i64 key]]) v' ⟨X,F'⟩:=λX key=>by
   obtain⟨v',⟨b',F'⟩,e1,e2,e3⟩:=Ag (c:=D6 Q6) (bytes:=32) (x:=.agg [sl mz 1 (gp U U[i].kids),.int .i64 key]) (g2 X) rfl (true,true) (by omega) (by omega);simp only at e3;subst e3;exact⟨v',F',e1,e2⟩
  rcases og U[i] ho with ⟨kx,hkT,hK⟩|⟨hkT,e,he,hK⟩
  .obtain⟨kok,khas⟩:=hkey kx hkT;have hP:=cZ _ kx (A0Z _) (by have:=kok.size;omega) (X5 (u9 kok.valid).1).1;have hM:∀X,Gb true false (.int .i64 0) ⟨[.mbox (U.map GG) (JS U.length)]::X,F2⟩ (.mp 0) (.str (Sv (Kf kx)))=some (.int .i64 (Sh U kx:Nat),⟨[.mbox (U.map GG) (JS U.length)]::X,F2⟩):=λX=>Xg U kx hU kok khas ⟨_,F2⟩ 0 rfl (.int .i64 0);obtain⟨v',F',ha,Z9⟩:=happ ([.mbox (U.map GG) (JS U.length)]::(B'++[[v2,.int .i64 (Sh U kx:Nat)],(B8 kx).cells])) (Sh U kx:Nat);have tc:=I3 kx;rw[tc]at ha;clear hh hg2 hg htk happ;generalize hix:gp U U[i].kids=Z at *
   generalize U[i]=t at *
   have hpv:Vw mz (MR U t) (UF (SK U t))=.agg [sl mz 1 Z,.int .i64 (Sh U kx:Nat)]:=by
    unfold Vw SK;rw[hkT,←hix,qy];rfl
   have hsn:=hsn mz;rw[hpv]at hsn;simp[CK,k0',k1',k5',k6',k7',hx,hK,hP,hM,uD,ha,M5,A5,L4,tc];exact G0 hJ ⟨i+1,by omega,by simp[CK],_,v',_,rfl,by simp[CK],Bi Z9 rfl,hsn⟩
  .obtain⟨v',F',ha,Z9⟩:=happ ([.mbox (U.map GG) (JS U.length)]::(B'++[[v2,.int .i64 (-1)],(B8 gt).cells])) (-1);have tc:=I3 gt;rw[tc]at ha;clear hh hg2 hg htk happ;generalize hix:gp U U[i].kids=Z at *
   generalize U[i]=t at *
   have hpv:Vw mz (MR U t) (UF (SK U t))=.agg [sl mz 1 Z,.int .i64 (-1)]:=by
    unfold Vw SK;rw[hkT,←hix,qy];rfl
   have hsn:=hsn mz;rw[hpv]at hsn;simp[CK,k0',k5',k6',k7',hx,hK,he,uD,ha,M5,A5,L4,tc];exact G0 hJ ⟨i+1,by omega,by simp[CK],_,v',_,rfl,by simp[CK],Bi Z9 rfl,hsn⟩
 .obtain⟨B',v,acc,hB,k5,hg,hpl⟩:=hr;rw[A0b (by omega)]at hpl;simp[ET,A6,k0,k6,A7];exact hΦ _ _ _ ⟨rfl,B',v,acc,hB,by simp[k5],hg,hpl⟩
theorem iv (m:I6) (S U:G6) (hU:UOk U) (hUl:U.length<=1048576) (kn0:List Bool) (hk0:uK S U kn0) (k kp:Nat) (acc:G4) (F:List Fam) (hk:k<F.length) (hkp:F[kp]?=some ⟨acc,2,false⟩) (P6:k≠kp) (hpl:Vb U U acc)
  (fr:Fr) (h:AH) (hH:∃B,h=⟨B,F.set k ⟨kn0.map AV.bool,1,true⟩⟩) (hl:fr.length=137) (h10:A0 fr 10=.bool true) (h1:A0 fr 1=sl m 4 (A4 U)) (h7:A0 fr 7=.sl kp U.length 0 U.length) (h8:A0 fr 8=.sl k U.length 0 U.length) :
  B7 (lp (A2 (K8 Q) (D6 i7) Gv) (fr,h)) λe C3 h'=>Kp Gv.wr fr C3/\(e=.exit 4/\∃(kn:List Bool) (B:List (List AV)),h'=⟨B,F.set k ⟨kn.map AV.bool,1,true⟩⟩/\uK S U kn/\(∀j,kn0.getD j false=true->kn.getD j false=true)/\∀j,j<U.length->ClA U kn j):=by
 refine B4 rfl fr (λn C3 h'=>∃(kn:List Bool) (c:Bool) (B:List (List AV)),A0 C3 10=.bool c/\h'=⟨B,F.set k ⟨kn.map AV.bool,1,true⟩⟩/\uK S U kn/\(∀j,kn0.getD j false=true->kn.getD j false=true)/\(c=true/\n=kF kn+1\/c=false/\∀j,j<U.length->ClA U kn j)) ?_ (kF kn0+1) h ⟨kn0,true,hH.choose,h10,hH.choose_spec,hk0,λ_ h=>h,.inl ⟨rfl,rfl⟩⟩;rintro J Φ hJ hΦ n D5 H1 K ⟨kn,c,B,k10,rfl,hK,hmo,hc⟩;have A6:=K.1.trans hl;have k1:=A8 K 1 h1;have k7:=A8 K 7 h7;have k8:=A8 K 8 h8;clear K;rcases hc with ⟨rfl,rfl⟩|⟨rfl,GK⟩
 .simp[Gv,A6,k10];refine B7.mono (iu m S U hU hUl kn hK k kp acc F hk hkp P6 hpl _ _ ?_ ⟨B,rfl⟩ ?_ ?_ ?_ ?_ ?_) ?_<;>first|(simp[A6,k1,k7,k8];done)|skip
  rintro e R3 h2 ⟨K,rfl,kn',c,B',k10',rfl,hP⟩;simp;cases c with
  |true=>exact⟨kF kn'+1,by have:=hP.chg rfl;omega,hJ _ _ _ ⟨kn',true,B',k10',rfl,hP.kns,λj hj=>hP.mono j (hmo j hj),.inl ⟨rfl,rfl⟩⟩⟩
  |false =>
   obtain⟨e1,e2⟩:=hP.stay rfl;subst e1;exact⟨0,by omega,hJ _ _ _ ⟨kn',false,B',k10',rfl,hK,hmo,.inr ⟨rfl,e2⟩⟩⟩
 .simp[Gv,A6,k10];exact hΦ _ _ _ ⟨rfl,kn,B,rfl,hK,hmo,GK⟩
theorem ir (m:I6) (U:G6) (kn:List Bool) (k:Nat) (hUl:U.length<=1048576) (hkn:kn.length=U.length) (fr:Fr) (h:AH) (h14:A0 fr 14=.vs true 0 []) (hF:h.fams[k]?=some ⟨kn.map AV.bool,1,true⟩) (hl:fr.length=137) (h1:A0 fr 1=sl m 4 (A4 U)) (h8:A0 fr 8=.sl k U.length 0 U.length) (h15:A0 fr 15=.int .i64 0) :
  B7 (lp (A2 (K8 Q) (D6 i7) EQ) (fr,h)) λe C3 h'=>Kp EQ.wr fr C3/\e=.exit 10/\KF false 4 (A4 (s6 U kn)) (A0 C3 14) h':=by
 refine B4 rfl fr (λn fr h'=>∃(i:Nat),i+n=U.length/\A0 fr 15=.int .i64 (i:Nat)/\(∃v,A0 fr 14=v/\h'.fams[k]?=some ⟨kn.map AV.bool,1,true⟩/\KF false 4 (A4 (s6 (U.take i) kn)) v h')) ?_ U.length h ⟨0,by omega,h15,_,h14,hF,WR _ _ _⟩;rintro J Φ hJ hΦ n D5 H1 K ⟨i,hi,k15,hr⟩;have A6:=K.1.trans hl;have k1:=A8 K 1 h1;have k8:=A8 K 8 h8;clear K;by_cases A7:i<U.length
 .have L4:=C6 i (by omega);obtain⟨v,k14,hF1,hg⟩:=hr;obtain⟨bx,F⟩:=H1;simp only at hF1;have hx:=I0 A7;have htk:=aU (kn:=kn) A7 hkn;have hpl:=YM (U.take i) kn;rw[A0e]at hpl;clear hF;have hgd:kn[i]?=some (kn.getD i false):=by rw[A0R,A0O (by omega)];rfl
  obtain⟨X,hX⟩:∃X,kn.map AV.bool=X:=⟨_,rfl⟩;have hXl:X.length=U.length:=by rw[←hX,A0Q,hkn]
  have hy:X[i]'(by omega)=.bool (kn.getD i false):=by
   have h1:X[i]?=some (.bool (kn.getD i false)):=by rw[←hX,A0c,hgd];rfl
   rw[A0O (by omega)]at h1;exact Option.some.inj h1
  rw[hX]at hF1;by_cases hb:kn.getD i false=true
  .rw[hb]at hy htk;rw[if_pos rfl]at htk;obtain⟨v',F',ha,Z9,hlow⟩:=OB (c:=D6 i7) (bytes:=56) (x:=sl (true,true) 4 [B8 U[i]]) (ys:=[B8 U[i]]) hg (N0 _ _ _ _) (by simp only[H3,maxLen,List.length_singleton,C9,A0Q];omega);rw[show A4 (s6 (U.take i) kn)++[B8 U[i]]=A4 (s6 (U.take (i+1)) kn) from by rw[htk];simp[C9]]at Z9;have hF2:F'[k]?=some ⟨X,1,true⟩:=by
    rw[hlow k (H5 hF1) (λn o l e=>?_)]
    .exact hF1
    .rcases hg with ⟨b,rfl⟩|⟨_,k',rfl,Dv⟩
     .cases e
     .cases e;simp only at Dv;rw[hF1]at Dv;cases Dv
   clear hlow hg htk;generalize U[i]=t at *
   simp[EQ,A6,k1,k8,k15,A7,L4,k14,hx,hF1,hXl,hy,A5,ha];exact G0 hJ ⟨i+1,by omega,by simp[A6],v',by simp[A6],by rw[hX];exact hF2,Z9⟩
  .have hb':kn.getD i false=false:=by simpa using hb
   rw[hb']at hy htk;rw[if_neg (by simp),List.append_nil]at htk;rw[←htk]at hg;simp[EQ,A6,k1,k8,k15,A7,L4,hF1,hXl,hy];exact G0 hJ ⟨i+1,by omega,by simp[A6],v,by simp[k14],by rw[hX];exact hF1,hg⟩
 .obtain⟨v,k14,hF1,hg⟩:=hr;rw[A0b (by omega)]at hg;simp[EQ,A6,k1,k15,A7];exact hΦ _ _ _ ⟨rfl,by simp[k14];exact hg⟩
theorem pT (m:I6) (U:G6) (hU:UOk U) (hUl:U.length<=1048576):∃v F acc,WI true ⟨[[.mbox (U.map GG) (JS U.length)]],[]⟩ (rc Q Q6 [sl m 4 (A4 U),.mp 0] ⟨[[.mbox (U.map GG) (JS U.length)]],[]⟩)=some (v,⟨[[.mbox (U.map GG) (JS U.length)]],F⟩)/\Du 2 acc v ⟨[[.mbox (U.map GG) (JS U.length)]],F⟩/\Vb U U acc:=by
 suffices hq:∃v h',rc Q Q6 [sl m 4 (A4 U),.mp 0] ⟨[[.mbox (U.map GG) (JS U.length)]],[]⟩=some (v,h')/\∃B acc,h'.boxes=[[.mbox (U.map GG) (JS U.length)]]++B/\Du 2 acc v h'/\Vb U U acc by
  obtain⟨v,h',h1,B,acc,h2,h3,h4⟩:=hq;have hn:PZ v=true:=by rcases h3 with ⟨_,rfl⟩|⟨_,k,rfl,_⟩<;>rfl
  exact⟨v,h'.fams,acc,Mv h1 hn ⟨B,h2⟩,Bi h3 rfl,h4⟩
 refine Df Nd λfr hl h0 h1=>?_;simp[Nd]at hl h0 h1;simp[Nd];refine B7.mono (br m U hU.ok hUl hU.kid hU.key _ _ ?_ ?_ ?_ ?_ ?_ ?_) ?_<;>first|(simp[hl,h0,h1];done)|skip
 rintro e D5 ⟨bx,F⟩ ⟨K,rfl,B',v,acc,hB,k5,hg,hpl⟩;have A6:D5.length=64:=K.1.trans (by simp[hl]);obtain⟨c1,c2,c3⟩:=L6 hg;simp only at hB;simp[A6,k5];exact⟨⟨B',hB⟩,acc,hg,hpl⟩
theorem fC {U:G6}:∀{S:G6} {kn:List Bool} (_:∀s∈S,Sh U s<kn.length) (j:Nat),(OL U S kn).getD j false=true↔kn.getD j false=true\/∃s∈S,Sh U s=j
 | [],kn,_,j=>by simp[OL]
 |s::S,kn,h,j=>by
  have hs:=h s A0W;have ih:=fC (U:=U) (S:=S) (kn:=kn.set (Sh U s) true) (λx hx=>by rw[A0j];exact h x (A0X _ hx)) j;show (OL U S (kn.set (Sh U s) true)).getD j false=true↔_;rw[ih,PU hs,A0r,decide_eq_true_iff];constructor
  .rintro((h1|h1)|⟨x,hx,h1⟩)
   .exact .inr ⟨s,A0W,h1⟩
   .exact .inl h1
   .exact .inr ⟨x,A0X _ hx,h1⟩
  .rintro(h1|⟨x,hx,h1⟩)
   .exact .inl (.inr h1)
   .rcases A0x.1 hx with rfl|hx
    .exact .inl (.inl h1)
    .exact .inr ⟨x,hx,h1⟩
theorem vZ (ms mu:I6) (S U:G6) (hU:UOk U) (hU0:0<U.length) (hUl:U.length<=1048576) (hS:∀x∈S,OkT x/\K0 U x=true) (hSl:S.length<=1048576) :
  ∃(R:List Tm) (m':Bool×Bool),pc Q i7 [sl ms 4 (A4 S),sl mu 4 (A4 U)]=some (sl m' 4 (A4 R))/\R.length<=U.length/\(∀x∈R,x∈U)/\∀e,e∈R.map E3↔Kn S U e:=by
 suffices h:∃v,pc Q i7 [sl ms 4 (A4 S),sl mu 4 (A4 U)]=some v/\∃q:List Tm×(Bool×Bool),v=sl q.2 4 (A4 q.1)/\q.1.length<=U.length/\(∀x∈q.1,x∈U)/\∀e,e∈q.1.map E3↔Kn S U e by
  obtain⟨v,h1,q,rfl,h2⟩:=h;exact⟨q.1,q.2,h1,h2⟩
 obtain⟨v,F,acc,hPl,hg,hpl⟩:=pT mu U hU hUl;obtain⟨kp,rfl,hkp⟩:∃kp,v=.sl kp U.length 0 U.length/\F[kp]?=some ⟨acc,2,false⟩:=by
  have hal:acc.length=U.length:=hpl.1;rcases hg with ⟨rfl,_⟩|⟨_,kp,rfl,hk⟩
  .simp at hal;omega
  .exact⟨kp,by rw[hal],hk⟩
 have hkpl:=H5 hkp;have hkn0:(A0Y U.length false).map AV.bool=A0Y U.length (.bool false):=List.map_replicate;have hix:∀s∈S,Sh U s<(A0Y U.length false).length:=λs hs=>by rw[A0v];exact RH (hS s hs).2
 have hmk:=fC hix;have hK0:uK S U (OL U S (A0Y U.length false)):=by
  refine⟨by rw[Zx,A0v],λj t ht hj=>?_⟩;rcases (hmk j).1 hj with h|⟨s,hs,rfl⟩
  .rw[A0R,List.getElem?_replicate]at h;split at h<;>cases h
  .obtain⟨x,hx,e⟩:=kS (hS s hs).2;rw[ht]at hx;cases hx;exact .base _ (by rw[e];exact A0P hs)
 refine Sk QV λΨ hΨ fr hl h0 h1=>?_;simp[QV]at hl h0 h1;simp[QV,hl];refine B7.mono (iz mu U hUl hU.srt hU.ok _ _ ?_ ?_ ?_ ?_ ?_) ?_<;>first|(simp[hl,h1];done)|skip
 rintro e D5 Cw ⟨K,rfl,rfl⟩;have A6:D5.length=137:=K.1.trans (by simp[hl]);have k0a:A0 D5 0=sl ms 4 (A4 S):=A8 K 0 (by simp[h0]);have k1a:A0 D5 1=sl mu 4 (A4 U):=A8 K 1 (by simp[h1]);have k5a:A0 D5 5=.mp 0:=A8 K 5 (by simp[hl]);clear K;have r1:U.length<=H3:=by simp only[H3];omega
 have r2:U.length<=maxLen:=by simp only[maxLen];omega
 obtain⟨G,hG⟩:∃G,F++[(⟨(A0Y U.length false).map AV.bool,1,true⟩:Fam)]=G:=⟨_,rfl⟩;have hGk:G[F.length]?=some ⟨(A0Y U.length false).map AV.bool,1,true⟩:=by rw[←hG];simp
 have hGp:G[kp]?=some ⟨acc,2,false⟩:=by rw[←hG,A0a hkpl];exact hkp
 have hGl:=H5 hGk;rw[hkn0]at hG;simp[A6,k1a,k5a,hPl,r1,r2,hG];refine B7.mono (iw ms S U (A0Y U.length false) F.length [[.mbox (U.map GG) (JS U.length)]] G hSl hS hU.ok (by simp) hUl rfl hGk _ _ rfl ?_ ?_ ?_ ?_ ?_) ?_<;>first|(simp[A6,k0a,k5a];done)|skip
 rintro e R3 h2' ⟨K,rfl,rfl⟩;have CK:R3.length=137:=K.1.trans (by simp[A6]);have k1b:A0 R3 1=sl mu 4 (A4 U):=A8 K 1 (by simp[k1a]);have k7b:A0 R3 7=.sl kp U.length 0 U.length:=A8 K 7 (by simp[A6]);have k8b:A0 R3 8=.sl F.length U.length 0 U.length:=A8 K 8 (by simp[A6]);clear K;generalize OL U S (A0Y U.length false)=kn0 at *
 simp;refine B7.mono (iv mu S U hU hUl kn0 hK0 F.length kp acc G hGl hGp (by omega) hpl _ _ ⟨_,rfl⟩ ?_ ?_ ?_ ?_ ?_) ?_<;>first|(simp[CK,k1b,k7b,k8b];done)|skip
 rintro e fr3 h3' ⟨K,rfl,kn,B3,rfl,hK1,hmo,GK⟩;have hl3:fr3.length=137:=K.1.trans (by simp[CK]);have k1c:A0 fr3 1=sl mu 4 (A4 U):=A8 K 1 (by simp[k1b]);have k8c:A0 fr3 8=.sl F.length U.length 0 U.length:=A8 K 8 (by simp[k8b]);clear K;simp;refine B7.mono (ir mu U kn F.length hUl hK1.1 _ _ ?_ ?_ ?_ ?_ ?_ ?_) ?_<;>first|(simp[hl3,k1c,k8c,hGl];done)|skip
 rintro e fr4 ⟨b4,F4⟩ ⟨K,rfl,hg4⟩;have hl4:fr4.length=137:=K.1.trans (by simp[hl3]);obtain⟨mm,hf⟩:=Pl hg4;simp only at hf;simp[hl4,hf];refine hΨ _ ⟨(s6 U kn,mm),rfl,YM _ _,λx hx=>?_,λe=>?_⟩
 .obtain⟨j,h1,-⟩:=SX.1 hx;exact A0S h1
 .constructor
  .intro he;obtain⟨j,t,h1,h2,rfl⟩:=SY.1 he;exact hK1.2 j t h1 h2
  .intro he;refine xg (T:=s6 U kn) (λe he=>?_) (dn hU GK) he;obtain⟨s,hs,rfl⟩:=A0V.1 he;obtain⟨x,hx,e⟩:=kS (hS s hs).2;exact SY.2 ⟨_,x,hx,hmo _ ((hmk _).2 (.inr ⟨s,hs,rfl⟩)),e⟩
theorem ip (mu:I6) (U:G6) (hU:UOk U) (hUl:U.length<=1048576) (fr:Fr) (h:AH) (h5:A0 fr 5=.bool true) (hl:fr.length=57) (h1:A0 fr 1=sl mu 4 (A4 U)) (h6:A0 fr 6=.int .i64 0) :
  B7 (lp (A2 (K8 Q) (D6 FW) DO) (fr,h)) λe C3 h'=>Kp DO.wr fr C3/\e=.exit 0/\A0 C3 5=.bool true:=by
 refine B4 rfl fr (λn fr h'=>∃(i:Nat),i+n=U.length/\A0 fr 6=.int .i64 (i:Nat)/\A0 fr 5=.bool true) ?_ U.length h ⟨0,by omega,h6,h5⟩;rintro J Φ hJ hΦ n D5 H1 K ⟨i,hi,k6,hr⟩;have A6:=K.1.trans hl;have k1:=A8 K 1 h1;clear K;by_cases A7:i<U.length
 .have L4:=C6 i (by omega);have hx:=I0 A7;have ho:=hU.ok _ (A0U A7);have hA:=cP U[i] ho.nm;generalize U[i]=t at *
  simp[DO,A6,k1,k6,A7,L4,hr,hx,hA];exact G0 hJ ⟨i+1,by omega,by simp[A6],by simp[A6]⟩
 .simp[DO,A6,k1,k6,A7];exact hΦ _ _ _ ⟨rfl,by simp[hr]⟩
theorem ZH (ms mu:I6) (S U:G6) (hU:UOk U) (hU0:0<U.length) (hUl:U.length<=1048576) (hS:∀x∈S,OkT x/\K0 U x=true) (hSl:S.length<=1048576) :
  ∃(R:List Tm) (m':Bool×Bool),pc Q FW [sl ms 4 (A4 S),sl mu 4 (A4 U)]=some (sl m' 4 (A4 R))/\R.length<=U.length/\(∀x∈R,x∈U)/\∀e,e∈R.map E3↔Kn S U e:=by
 obtain⟨R,m',hF,h1,h2,h3⟩:=vZ ms mu S U hU hU0 hUl hS hSl;refine⟨R,m',?_,h1,h2,h3⟩;refine M9 MA λfr hl h0 h1=>?_;simp[MA]at hl h0 h1;simp[MA];refine B7.mono (ip mu U hU hUl _ _ ?_ ?_ ?_ ?_) ?_<;>first|(simp[hl,h1];done)|skip
 rintro e D5 Cw ⟨K,rfl,k5⟩;have A6:D5.length=57:=K.1.trans (by simp[hl]);have k0':A0 D5 0=sl ms 4 (A4 S):=A8 K 0 (by simp[h0]);have k1':A0 D5 1=sl mu 4 (A4 U):=A8 K 1 (by simp[h1]);simp[A6,k5,k0',k1',hF]
theorem Wd {l U:G6} (h:L0 U (alls l)) {y x:Tm} (hy:K0 U y=true) (hx:x∈y.kids):K0 U x=true:=by
 rw[V6,h.2]at hy ⊢;obtain⟨w,hw,e⟩:=A0V.1 hy;obtain⟨-,-,-,q4⟩:=MN e;rw[E1,E1]at q4;have h1:E3 x∈w.kids.map E3:=by rw[q4];exact A0P hx
 obtain⟨z,hz,e2⟩:=A0V.1 h1;rw[←e2];refine A0P ?_;rw[G2]at hw ⊢;obtain⟨v,hv,hw⟩:=A0l.1 hw;refine A0l.2 ⟨v,hv,ZV _ v (A0Z _) w hw z ?_⟩;rw[AF w];refine A0X _ ?_;rw[G2];exact A0l.2 ⟨z,hz,by rw[AF];exact A0W⟩
theorem yd {l U:G6} (hg:∀x∈l,OkT x) (h:L0 U (alls l)):UOk U:=by
 have ok:=OkT.set h (OkT.alls hg);have self:∀u∈U,K0 U u=true:=λu hu=>V6.2 (A0P hu);refine⟨h.1,ok,λu hu x hx=>Wd h (self u hu) hx,λu hu x hx=>?_⟩;have ho:=ok u hu;unfold JI at hx;by_cases q1:p8 u (bs [101,110,99])=true
 .rw[if_pos q1]at hx;obtain⟨a,b,BE⟩:=R7 ho q1 (.inr (.inl rfl));have k1:J0 u 1=b:=by simp[J0,BE]
  have bm:b∈u.kids:=by rw[BE];simp
  rw[k1,Option.some.injEq]at hx;subst hx;exact⟨ho.kid bm,Wd h (self u hu) bm⟩
 .rw[if_neg q1]at hx;by_cases q2:(p8 u (bs [97,101,110,99])&&p8 (J0 u 1) (bs [112,107]))=true
  .rw[if_pos q2]at hx;rw[A0d]at q2;obtain⟨a,b,BE⟩:=R7 ho q2.1 (.inr (.inr (.inl rfl)));have k1:J0 u 1=b:=by simp[J0,BE]
   have bm:b∈u.kids:=by rw[BE];simp
   rw[k1]at hx q2;obtain⟨p1,p2⟩:=IY.1 q2.2;have hb:=ho.kid bm;obtain⟨c,hc⟩:=hb.one p1 (by rw[p2];exact .inl rfl);have k0:J0 b 0=c:=by simp[J0,hc]
   have cm:c∈b.kids:=by rw[hc];simp
   rw[k0,Option.some.injEq]at hx;subst hx;exact⟨hb.kid cm,Wd h (Wd h (self u hu) bm) cm⟩
  .rw[if_neg q2]at hx;cases hx
theorem ZW {l:G6} {x:Tm} (hx:x∈l):x∈alls l:=by
 rw[G2];exact A0l.2 ⟨x,hx,by rw[AF];exact A0W⟩
theorem fk (m mu:I6) (k l U:G6) (hk:∀x∈k,GoodT x) (hl:∀x∈l,GoodT x) (P6:k++l≠[]) (CI:k.length<=1048576) (hUl:U.length<=24400) (q8:L0 U (alls (k++l))) :
  ∃S ms R mr,pc Q DC [sl m 4 (A4 k)]=some (sl ms 4 (A4 S))/\pc Q FW [sl ms 4 (A4 S),sl mu 4 (A4 U)]=some (sl mr 4 (A4 R))/\R.length<=24400/\(∀x∈R,OkT x)/\∀e,e∈R.map E3↔Kn k (alls (k++l)) e:=by
 obtain⟨S,ms,hS,hSset,hSsub,hSl⟩:=cL m k CI (λx hx=>by have:=(hk x hx).size;omega);have BF:∀x∈k++l,OkT x:=λx hx=>by
  rcases A05.1 hx with h|h
  .exact(hk x h).ok
  .exact(hl x h).ok
 have hU:=yd BF q8;have hU0:0<U.length:=by
  obtain⟨x,hx⟩:=List.exists_mem_of_ne_nil _ P6;have:=(q8.2 _).2 (A0P (f:=E3) (ZW hx));obtain⟨y,hy,-⟩:=A0V.1 this;exact List.length_pos_of_mem hy
 obtain⟨R,mr,hR,hRl,hRs,hRk⟩:=ZH ms mu S U hU hU0 (by omega) (λx hx=>⟨(hk x (hSsub x hx)).ok,V6.2 ((q8.2 _).2 (A0P (ZW (List.mem_append_left _ (hSsub x hx)))))⟩) (by omega);exact⟨S,ms,R,mr,hS,hR,by omega,λx hx=>hU.ok x (hRs x hx),λe=>(hRk e).trans ⟨PJ (λe=>(hSset.2 e).1) (λe=>(q8.2 e).1),PJ (λe=>(hSset.2 e).2) (λe=>(q8.2 e).2)⟩⟩
open Classical in
theorem vh (m:I6) (k:G6) (t:Tm) (hk:∀x∈k,GoodT x) (ht:GoodT t) (CI:k.length<=1048576) :
  pc Q Jb [sl m 4 (A4 k),B8 t]=some (.tup [.bool (T1 k t).2,.int .i64 (T1 k t).1]):=by
 obtain⟨U,mu,hU,hU2⟩:=YH m k t hk ht CI;unfold WP at hU;by_cases h60:k.length<=60
 .obtain⟨q8,hUl,-⟩:=hU2 h60;have hc:=WV q8;unfold T1;rw[hc];by_cases hc2:60<k.length\/200<U.length
  .rw[if_pos hc2]at hU ⊢;refine M9 S1 λfr hl h0 h1=>?_;simp[S1]at hl h0 h1;simp[S1,hl,h0,h1,hU]
  .rw[if_neg hc2]at hU ⊢;obtain⟨S,ms,R,mr,hS,hR,hRl,hRo,hRk⟩:=fk m mu k [t] U hk (λx hx=>by rw[A0k.1 hx];exact ht) (by simp) CI hUl q8;have hH:=ol mr R t (by omega) (λx hx=>by have:=(hRo x hx).size;omega) (by have:=ht.size;omega);have he:K0 R t=decide (Tp k t):=by
    rw[A0i,V6,hRk,decide_eq_true_iff];exact Iff.rfl
   rw[he]at hH;generalize decide (Tp k t)=b at *
   refine M9 S1 λfr hl h0 h1=>?_;simp[S1]at hl h0 h1;simp[S1,hl,h0,h1,hU,hS,hR,hH]
 .have hc2:60<k.length\/200<U.length:=.inl (by omega);rw[if_pos hc2]at hU;unfold T1;rw[if_pos (.inl (by omega))];refine M9 S1 λfr hl h0 h1=>?_;simp[S1]at hl h0 h1;simp[S1,hl,h0,h1,hU]
theorem uH {y:Tm} (h:Hg y):Hg (E3 y):=by
 intro z hz;rw[Ux]at hz;obtain⟨w,hw,rfl⟩:=A0V.1 hz;have:=h w hw;obtain⟨k,nm,s,m,l⟩:=w;simp only[NG,E3,Tm.kind,Tm.sort,Tm.kids,Tm.name]at this ⊢;rw[kQ,E1,A0Q];rcases this with ⟨q1,q2,q3,q4,q5,q6⟩|h
 .exact .inl ⟨q1,q2,q3,by simp[q4],q5,q6⟩
 .exact .inr h
theorem rE {r n:Nar} (hR:Right n) (he:Ql r=CN (L3 (B5 n) (G8 n)) n) {me:J3} {role q:Nat} (hme:n.roles[role]?=some me) {x:Tm} (h:x∈pw (false,true) r me role q):Hg x/\x.size<=40:=by
 have h1:E3 x∈(pw (false,true) r me role q).map E3:=A0P h;rw[iY he,←RJ (m:=(true,true)) hR.dec he hme]at h1;obtain⟨y,hy,e⟩:=A0V.1 h1;obtain⟨g1,g2⟩:=UG hR he (A0S hme) hy;refine⟨Pg (by rw[←e];exact uH g1),?_⟩;rw[←HI _ x (A0Z _),←e,HI _ y (A0Z _)];exact g2
theorem vG {r n:Nar} (hR:Right n) (he:Ql r=CN (L3 (B5 n) (G8 n)) n) {me:J3} {role:Nat} (hme:n.roles[role]?=some me) (q:Nat):(pw (false,true) r me role q).length<=10000:=by
 have h1:=congrArg List.length ((iY (m:=(false,true)) (me:=me) (role:=role) he q).trans (RJ (m:=(true,true)) hR.dec he hme q).symm);rw[A0Q,A0Q]at h1;rw[h1];exact We (Mc hR.nar he).1
end Go.Abs.Q
