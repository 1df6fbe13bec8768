/- A part of the proof. -/
import Derived.Test.YtohjdamplbhdpaaGreatDoorSE21
set_option linter.all false
open List renaming getElem?_eq_getElem->A0Z,mem_map_of_mem->A0a,length_map->A0b,getD_eq_getElem?_getD->A0c,getElem_mem->A0d,mem_of_getElem?->A0e,take_succ_eq_append_getElem->A0f,mem_map->A0g,mem_cons_self->A0h,mem_cons_of_mem->A0i,replicate->A0j,getElem?_append_left->A0l,take_of_length_le->A0m,getElem?_map->A0n,length_take->A0p,map_cons->A0r,take_succ_cons->A0s,length_set->A0u,mem_singleton->A0v,drop_eq_nil_of_le->A0w,mem_flatMap->A0x,drop_eq_getElem_cons->A0y,getElem?_eq_some_iff->A0z,any_eq_true->A01,map_nil->A02,map_append->A05,length_replicate->A08,mem_of_mem_take->A09,mem_cons->A1A,getElem_of_mem->A1B,map_set->A1C,all_eq_true->A1F,getElem_map->A1G,length_cons->A1H,mem_append->A1I,take_zero->A1J,map_take->A1K
open Nat renaming le_refl->A0k,not_lt_zero->A06,le_trans->A1D
open Bool renaming and_eq_true->A0o,false_or->A0q,eq_iff_iff->A0t,or_true->A00,or_eq_true->A04,eq_false_iff->A1E,true_or->A1L
open Option renaming bind_some->A03,map_some->A07
namespace Go.Abs.Q
open Go.Proofs
attribute [local simp] E6 E8 fin K1 H2 P7 M6 R4 R3
def Vx (m:Bool×Bool) (ks:List Nat):AV:=sl m 1 (ks.map λ(j:Nat)=>AV.int .i64 (j:Int))
def ZJ (t:Tm) (ks:List Nat) (key:Option Nat) (kn:List Bool):List Nat :=
 if q8 t (bs [112,97,105,114])then ks else if q8 t (bs [115,105,103,110])||(match key with|some j=>kn.getD j false|none=>false)then ks.take 1 else []
def zu (ks:List Nat) (v:AV):Prop:=∃mm,v=Vx mm ks
def UQ:Option Nat->Int|some j=>j|none=>-1
theorem YV (m:I6) (t:Tm) (ks:List Nat) (key:Option Nat) (kn:List Bool) (k:Nat) (B:List (List AV)) (F:List Fam) (hk:F[k]?=some ⟨kn.map AV.bool,1,true⟩)
  (hkey:∀j,key=some j->j<kn.length) (hks:ks.length<=1048576) (h1:q8 t (bs [112,97,105,114])=false->q8 t (bs [115,105,103,110])=true\/key≠none->1<=ks.length) :
  ∃(mm:Bool×Bool) (B':List (List AV)),rc Q GA [B9 t,WK m ks (UQ key),.sl k kn.length 0 kn.length] ⟨B,F⟩=some (Vx mm (ZJ t ks key kn),⟨B++B',F⟩):=by
 have hP:=GG t (bs [112,97,105,114]);have hS:=GG t (bs [115,105,103,110])
 suffices hq:∃v h',rc Q GA [B9 t,WK m ks (UQ key),.sl k kn.length 0 kn.length] ⟨B,F⟩=some (v,h')/\zu (ZJ t ks key kn) v/\∃B',h'=⟨B++B',F⟩ by
  obtain⟨v,h',h1,⟨mm,rfl⟩,B',rfl⟩:=hq;exact⟨mm,B',h1⟩
 unfold ZJ;have hm:(kn.map AV.bool).length=kn.length:=A0b _;by_cases hp:q8 t (bs [112,97,105,114])=true
 .rw[hp]at hP;rw[if_pos hp];clear h1;refine cz O1 λfr hl h0 h1 h2=>?_;simp[O1,WK]at hl h0 h1 h2;simp[O1,hl,h0,h1,hP];exact⟨m,rfl⟩
 .have hp':q8 t (bs [112,97,105,114])=false:=by simpa using hp
  rw[hp']at hP;rw[if_neg hp];have hks1:=h1 hp';clear h1;have Wn:1<=ks.length->∀h:AH,Yh h 1 (sl m 1 (ks.map λ(j:Nat)=>AV.int .i64 (j:Int))) (some none) (some (some 1)) (some none)=some (sl (m.1&&decide ((1:Int)=ks.length),m.2||!(ks.map λ(j:Nat)=>AV.int .i64 (j:Int)).isEmpty) 1 ((ks.take 1).map λ(j:Nat)=>AV.int .i64 (j:Int)),h):=λhk h=>by
   rw[dJ _ _ _ (by decide)];simp only[Option.getD_none,Option.getD_some,A0b];rw[if_pos (by omega)];simp
  by_cases hg:q8 t (bs [115,105,103,110])=true
  .rw[hg]at hS;have Wn:=Wn (hks1 (.inl hg));rw[if_pos (by rw[hg];rfl)];refine cz O1 λfr hl h0 h1 h2=>?_;simp[O1,WK]at hl h0 h1 h2;simp[O1,hl,h0,h1,hP,hS,Wn];exact⟨_,by unfold Vx;rw[A1K]⟩
  .have d7:q8 t (bs [115,105,103,110])=false:=by simpa using hg
   rw[d7]at hS ⊢;cases key with
   |none =>
    rw[if_neg (by simp)];simp only[UQ];refine cz O1 λfr hl h0 h1 h2=>?_;simp[O1,WK]at hl h0 h1 h2;simp[O1,hl,h0,h1,hP,hS];exact⟨(true,false),rfl⟩
   |some j =>
    have hj:=hkey j rfl;have Wn:=Wn (hks1 (.inr (by simp)));have hgd:kn.getD j false=kn[j]:=by rw[A0c,A0Z hj];rfl
    have hx:(kn.map AV.bool)[j]?=some (.bool kn[j]):=by rw[A0n,A0Z hj];rfl
    simp only[UQ,hgd,A0q];generalize kn[j]=b at *
    generalize kn.map AV.bool=X at *
    have hj0:(0:Int)<=(j:Int):=by omega
    obtain⟨hjx,hx⟩:=A0z.1 hx;cases b with
    |true =>
     rw[if_pos rfl];refine cz O1 λfr hl h0 h1 h2=>?_;simp[O1,WK]at hl h0 h1 h2;simp[O1,hl,h0,h1,h2,hP,hS,hj0,hj,hk,hm,hx,Wn];exact⟨_,by unfold Vx;rw[A1K]⟩
    |false =>
     rw[if_neg (by simp)];refine cz O1 λfr hl h0 h1 h2=>?_;simp[O1,WK]at hl h0 h1 h2;simp[O1,hl,h0,h1,h2,hP,hS,hj0,hj,hk,hm,hx];exact⟨(true,false),rfl⟩
def GR (u:Tm):AV:=.str (TJ (Kq u))
theorem uf (a b:List UInt8):(TJ a == TJ b)=decide (a=b):=by
 have e:(TJ a == TJ b)=((⟨a⟩:Array UInt8) == ⟨b⟩):=rfl;rw[e,A0t,decide_eq_true_iff,beq_iff_eq];exact⟨λh=>congrArg Array.toList h,λh=>by rw[h]⟩
theorem lA {a b:Tm} (ha:OkT a) (hb:OkT b):XU true (GR a) (GR b)=some (KU b a):=by
 simp only[GR,XU,if_true,uf];congr 1;unfold KU;rw[A0t,decide_eq_true_iff,decide_eq_true_iff,V7,yU ha hb];exact⟨Eq.symm,Eq.symm⟩
theorem eR:∀(U:G7) (t:Tm) (i:Nat),(∀x∈U,OkT x)->OkT t->K4 U t=true->NA true (GR t) (U.map GR) i=some (some (i+Su U t))
 | [],t,i,_,_,h=>by simp[K4]at h
 |x::U,t,i,hU,ht,h=>by
  have hx:=hU x A0h;rw[A0r,NA,lA ht hx];rw[VO]at h;unfold Su;rw[List.findIdx_cons];cases hc:KU x t with
  |true=>rfl
  |false =>
   rw[hc,A0q]at h;have:=eR U t (i+1) (λy hy=>hU y (A0i _ hy)) ht h;simp only[cond_false];rw[this];unfold Su;congr 2;omega
theorem Zl:∀(U:G7) (t:Tm) (i:Nat),(∀x∈U,OkT x)->OkT t->K4 U t=false->NA true (GR t) (U.map GR) i=some none
 | [],t,i,_,_,h=>rfl
 |x::U,t,i,hU,ht,h=>by
  have hx:=hU x A0h;rw[A0r,NA,lA ht hx];rw[VO,Bool.or_eq_false_iff]at h;rw[h.1];exact Zl U t (i+1) (λy hy=>hU y (A0i _ hy)) ht h.2
def Jc (n:Nat):List AV:=(List.range n).map λ(j:Nat)=>AV.int .i64 (j:Int)
theorem mv (n:Nat):Jc (n+1)=Jc n++[.int .i64 (n:Int)]:=by
 unfold Jc;rw[List.range_succ,A05,A0r,A02]
theorem sK (ks vs:G6) (F:List Fam) (s:J1) (i:Int) (h:NA true (.str s) ks 0=some none):ZH true ⟨[[.mbox ks vs]],F⟩ (.mp 0) (.str s) (.int .i64 i)=some (C5,⟨[[.mbox (ks++[.str s]) (vs++[.int .i64 i])]],F⟩):=by
 simp only[ZH,List.getElem?_cons_zero];rw[show KR ⟨[[.mbox ks vs]],F⟩ false (.int .i64 i)=some (.int .i64 i) from rfl];simp only;rw[if_pos ⟨rfl,rfl⟩,h];rfl
theorem jJ (m:I6) (U:G7) (B8:U.length<=1048576) (hS:Y5 U) (hU:∀x∈U,OkT x) (fr:Fr) (h:AH) (hh:h=⟨[[.mbox [] []]],[]⟩) (hl:fr.length=137) (h1:A0 fr 1=sl m 4 (A4 U)) (h5:A0 fr 5=.mp 0) (h6:A0 fr 6=.int .i64 0) :
  B6 (lp (A2 (K8 Q) (D6 j7) HK) (fr,h)) λe C3 h'=>Kp HK.wr fr C3/\e=.exit 0/\h'=⟨[[.mbox (U.map GR) (Jc U.length)]],[]⟩:=by
 refine A9 rfl fr (λn fr h'=>∃(i:Nat),i+n=U.length/\A0 fr 6=.int .i64 (i:Nat)/\h'=⟨[[.mbox ((U.take i).map GR) (Jc i)]],[]⟩) ?_ U.length h ⟨0,by omega,h6,hh⟩;rintro J Φ hJ hΦ n D4 H1 K ⟨i,hi,k6,hr⟩;have A6:=K.1.trans hl;have k1:=A8 K 1 h1;have k5:=A8 K 5 h5;clear K;by_cases A7:i<U.length
 .have L3:=C6 i (by omega);subst hr;have hx:=I0 A7;have ho:=hU _ (A0d A7);have J4:=ho.size;have hP:=cj _ U[i] (A0k _) (by omega) (X8 (w7 ho.valid).1).1;have Yz:K4 (U.take i) U[i]=false:=by
   rw[A1E];intro h;obtain⟨x,hx,he⟩:=A01.1 h;obtain⟨j,hj,rfl⟩:=A1B hx;rw[A0p]at hj;rw[List.getElem_take]at he;have:=aq hS (i:=j) (j:=i) (by omega) A7 (V7.1 (of_decide_eq_true he));omega
  have hF:=Zl (U.take i) U[i] 0 (λx hx=>hU x (A09 hx)) ho Yz;have e1:(U.take (i+1)).map GR=(U.take i).map GR++[GR U[i]]:=by
   rw[A0f A7,A05,A0r,A02]
  have hM:ZH true ⟨[[.mbox ((U.take i).map GR) (Jc i)]],[]⟩ (.mp 0) (.str (TJ (Kq U[i]))) (.int .i64 (i:Int))=some (C5,⟨[[.mbox ((U.take (i+1)).map GR) (Jc (i+1))]],[]⟩):=by
   rw[e1,mv];exact sK _ _ [] _ (i:Int) hF
  clear Yz hF e1 hh;generalize (U.take i).map GR=ks0 at *
  generalize hks:(U.take (i+1)).map GR=ks1 at *
  generalize U[i]=s at *
  simp[HK,A6,k1,k5,k6,A7,L3,hx,hP,hM];exact G0 hJ ⟨i+1,by omega,by simp[A6],by rw[hks]⟩
 .subst hr;have e:i=U.length:=by omega
  subst e;simp[HK,A6,k1,k6];exact hΦ _ _ _ ⟨rfl,rfl⟩
end Go.Abs.Q
namespace Go.Abs.Q
open Go.Proofs
theorem Xn (U:G7) (s:Tm) (hU:∀x∈U,OkT x) (hs:OkT s) (hh:K4 U s=true) (h:AH) (b:Nat) (hb:h.boxes[b]?=some [.mbox (U.map GR) (Jc U.length)]) (z:AV) :
  Gq true false z h (.mp b) (.str (TJ (Kq s)))=some (.int .i64 (Su U s:Nat),h):=by
 have hF:=eR U s 0 hU hs hh;rw[Nat.zero_add]at hF;have hl:=RT hh;have hv:(Jc U.length)[Su U s]?=some (.int .i64 (Su U s:Nat)):=by
  unfold Jc;rw[A0n,List.getElem?_range hl];rfl
 have he:GZ h (.mp b)=some (U.map GR,Jc U.length):=by simp only[GZ,hb]
 simp only[Gq,he];rw[if_pos (show TG true (AV.str (TJ (Kq s)))=true from rfl)];rw[show AV.str (TJ (Kq s))=GR s from rfl];simp only[hF,hv];rfl
end Go.Abs.Q
namespace Go.Abs.Q
open Go.Proofs
attribute [local simp] E6 E8 fin K1 H2 P7 M6 R4 R3
def OR (U:List Tm) (S:List Tm) (kn:List Bool):List Bool:=S.foldl (λkn s=>kn.set (Su U s) true) kn
theorem aD (U S:G7) (kn:List Bool):(OR U S kn).length=kn.length:=by
 unfold OR
 induction S generalizing kn with
 |nil=>rfl
 |cons s S ih=>rw[List.foldl_cons,ih,A0u]
theorem jI (m:I6) (S U:G7) (kn:List Bool) (k:Nat) (B0:List (List AV)) (F:List Fam) (B8:S.length<=1048576) (hS:∀x∈S,OkT x/\K4 U x=true) (hU:∀x∈U,OkT x) (hkn:kn.length=U.length) (hUl:U.length<=1048576) (hm:B0[0]?=some [.mbox (U.map GR) (Jc U.length)]) (hk:F[k]?=some ⟨kn.map AV.bool,1,true⟩) (fr:Fr) (h:AH) (hh:h=⟨B0,F⟩) (hl:fr.length=137) (h0:A0 fr 0=sl m 4 (A4 S)) (h5:A0 fr 5=.mp 0) (h8:A0 fr 8=.sl k U.length 0 U.length) (h9:A0 fr 9=.int .i64 0) :
  B6 (lp (A2 (K8 Q) (D6 j7) HJ) (fr,h)) λe C3 h'=>Kp HJ.wr fr C3/\e=.exit 2/\h'=⟨B0,F.set k ⟨(OR U S kn).map AV.bool,1,true⟩⟩:=by
 refine A9 rfl fr (λn fr h'=>∃(i:Nat),i+n=S.length/\A0 fr 9=.int .i64 (i:Nat)/\(∃X:List AV,X=(OR U (S.take i) kn).map AV.bool/\h'=⟨B0,F.set k ⟨X,1,true⟩⟩)) ?_ S.length h ⟨0,by omega,h9,⟨kn.map AV.bool,rfl,hh.trans (by rw[DR hk])⟩⟩;rintro J Φ hJ hΦ n D4 H1 K ⟨i,hi,k9,hr⟩;have A6:=K.1.trans hl;have k0:=A8 K 0 h0;have k5:=A8 K 5 h5;have k8:=A8 K 8 h8;clear K;by_cases A7:i<S.length
 .have L3:=C6 i (by omega);obtain⟨X,hXd,rfl⟩:=hr;have hx:=I0 A7;obtain⟨ho,hh2⟩:=hS _ (A0d A7);have J4:=ho.size;have hP:=cj _ S[i] (A0k _) (by omega) (X8 (w7 ho.valid).1).1;have hM:=Xn U S[i] hU ho hh2 ⟨B0,F.set k ⟨X,1,true⟩⟩ 0 hm (.int .i64 0);have hix:=RT hh2;have e1:OR U (S.take (i+1)) kn=(OR U (S.take i) kn).set (Su U S[i]) true:=by
   unfold OR;rw[A0f A7,List.foldl_append];rfl
  have hX:X.length=U.length:=by rw[hXd,A0b,aD,hkn]
  have e2:X.set (Su U S[i]) (.bool true)=(OR U (S.take (i+1)) kn).map AV.bool:=by rw[hXd,e1,A1C]
  have Bs:=H4 hk;obtain⟨y,hy⟩:∃y:Bool,X[Su U S[i]]'(by omega)=.bool y:=by subst hXd;exact⟨_,by rw[A1G]⟩
  clear hh e1 hXd;generalize hYd:(OR U (S.take (i+1)) kn).map AV.bool=Y at *
  simp[HJ,A6,k0,k5,k8,k9,A7,L3,hx,hP,hM,Bs,hX,hix,hy,e2];exact G0 hJ ⟨i+1,by omega,by simp[A6],Y,hYd.symm,rfl⟩
 .obtain⟨X,hXd,rfl⟩:=hr;rw[A0m (by omega)]at hXd;simp[HJ,A6,k0,k9,A7];exact hΦ _ _ _ ⟨rfl,by rw[hXd]⟩
def mG (F0:List Fam) (sz:Nat) (acc:List AV) (v:AV) (h:AH):Prop:=(acc=[]/\v=.vs true 0 []/\h.fams=F0)\/(acc≠[]/\v=.sl F0.length acc.length 0 acc.length/\h.fams=F0++[⟨acc,sz,false⟩])
theorem UD {F0:List Fam} {sz:Nat} {acc:G6} {v:AV} {h:AH} (hg:mG F0 sz acc v h):EB sz acc v h:=by
 rcases hg with ⟨h1,h2,-⟩|⟨h1,h2,h3⟩
 .exact .inl ⟨h1,h2⟩
 .exact .inr ⟨h1,_,h2,by rw[h3];simp⟩
theorem qV {c:Ctx} {F0:List Fam} {sz bytes:Nat} {acc:G6} {v x:AV} {h:AH} (hg:mG F0 sz acc v h) (hm:c.mutApp=false) (m:I6)
  (hb:(acc.length+1)*bytes<=140737488355328) (hb':acc.length<=1099511627776):∃v' h',K6 c h sz bytes v (sl m sz [x])=some (v',h')/\mG F0 sz (acc++[x]) v' h'/\h'.boxes=h.boxes:=by
 have hr:(acc.length+1)*bytes<=H3/\acc.length+1<=maxLen:=by simp only[H3,maxLen];omega
 rcases hg with ⟨rfl,rfl,hf⟩|⟨P4,rfl,hf⟩
 .rw[Pu,N0,A03,if_neg (by simp),if_pos (by simpa using hr),hm];exact⟨_,_,rfl,.inr ⟨by simp,by rw[hf];rfl,by simp[hf]⟩,rfl⟩
 .have hk:h.fams[F0.length]?=some ⟨acc,sz,false⟩:=by rw[hf];simp
  rw[Lf,N0,A03,hk,A03,if_pos ⟨rfl,rfl,by omega,by simpa using hr⟩];exact⟨_,_,rfl,.inr ⟨by simp,by simp,by simp[hf]⟩,rfl⟩
def iC (U:List Tm) (l:List Tm):List AV:=l.map λx=>AV.int .i64 (Su U x:Nat)
theorem vM (U a b:G7):iC U (a++b)=iC U a++iC U b:=A05
theorem cB (m:I6) (U l:G7) (q:Nat) (t:Tm) (hql:U[q]?=some t) (htk:t.kids=l) (L:Nat) (B0:List (List AV)) (B8:l.length<=1048576) (Bb:∀x∈l,OkT x/\K4 U x=true) (hU:∀x∈U,OkT x) (hUl:U.length<=1048576) (hm:B0[0]?=some [.mbox (U.map GR) (Jc U.length)]) (hL:L=B0.length) (F0:List Fam) (fr:Fr) (h:AH) (hh:h.boxes=B0++[[.vs true 0 [],.int .i64 (-1)]]) (hF0:h.fams=F0) (hl:fr.length=64) (h0:A0 fr 0=sl m 4 (A4 U)) (h1:A0 fr 1=.mp 0) (h6:A0 fr 6=.int .i64 (q:Nat)) (h7:A0 fr 7=.ptr L 0) (h8:A0 fr 8=.int .i64 0) :
  B6 (lp (A2 (K8 Q) (D6 Q9) Eb) (fr,h)) λe C3 h'=>Kp Eb.wr fr C3/\e=.exit 2/\∃v:AV,h'.boxes=B0++[[v,.int .i64 (-1)]]/\mG F0 1 (iC U l) v h':=by
 refine A9 rfl fr (λn fr h'=>∃(i:Nat),i+n=l.length/\A0 fr 8=.int .i64 (i:Nat)/\(∃v:AV,h'.boxes=B0++[[v,.int .i64 (-1)]]/\mG F0 1 (iC U (l.take i)) v h')) ?_ l.length h ⟨0,by omega,h8,_,hh,.inl ⟨rfl,rfl,hF0⟩⟩;rintro J Φ hJ hΦ n D4 H1 K ⟨i,hi,k8,hr⟩;have A6:=K.1.trans hl;have k0:=A8 K 0 h0;have k1:=A8 K 1 h1;have k6:=A8 K 6 h6;have k7:=A8 K 7 h7;clear K;by_cases A7:i<l.length
 .have L3:=C6 i (by omega);obtain⟨v,hB,hg⟩:=hr;obtain⟨bx,F⟩:=H1;simp only at hB;subst hB;have hq:q<U.length:=H4 hql;have hqx:IZ (A4 U) q=some (B9 t):=by
   have:=I0 hq;rw[A0Z hq]at hql;rw[this,Option.some.inj hql]
  have hx:=I0 A7;obtain⟨ho,hh2⟩:=Bb _ (A0d A7);have hP:=cj _ l[i] (A0k _) (by have:=ho.size;omega) (X8 (w7 ho.valid).1).1;have hm':(B0++[[v,.int .i64 (-1)]])[0]?=some [.mbox (U.map GR) (Jc U.length)]:=by rw[A0l (H4 hm)];exact hm
  have hM:=Xn U l[i] hU ho hh2 ⟨B0++[[v,.int .i64 (-1)]],F⟩ 0 hm' (.int .i64 0);have hal:(iC U (l.take i)).length<=1048576:=by unfold iC;rw[A0b,A0p];omega
  obtain⟨v',⟨bx',F'⟩,ha,d7,Qw⟩:=qV (c:=D6 Q9) (bytes:=8) (x:=.int .i64 (Su U l[i]:Nat)) hg rfl (true,true) (by omega) (by omega);simp only at Qw;subst Qw;have e1:iC U (l.take (i+1))=iC U (l.take i)++[.int .i64 (Su U l[i]:Nat)]:=by
   rw[A0f A7,vM];rfl
  rw[←e1]at d7;obtain⟨c1,c2,c3⟩:=L6 (UD hg);obtain⟨c4,c5,c6⟩:=L6 (UD d7);subst hL;clear hh e1;subst htk;generalize t.kids[i]=s at *
  simp[Eb,A6,k0,k1,k6,k7,k8,A7,L3,hqx,hx,hP,hM,A5,ha,c4,c5];exact G0 hJ ⟨i+1,by omega,by simp[A6],v',rfl,d7⟩
 .obtain⟨v,hB,hg⟩:=hr;rw[A0m (by omega)]at hg;have hq:q<U.length:=H4 hql;have hqx:IZ (A4 U) q=some (B9 t):=by
   have:=I0 hq;rw[A0Z hq]at hql;rw[this,Option.some.inj hql]
  subst htk;simp[Eb,A6,k0,k6,k8,A7,hqx];exact hΦ _ _ _ ⟨rfl,v,hB,hg⟩
def Ma (U:List Tm) (t:Tm):List Nat:=t.kids.map (Su U)
def Sa (U:List Tm) (t:Tm):Option Nat:=(JT t).map (Su U)
theorem rM (U:G7) (t:Tm):iC U t.kids=(Ma U t).map λ(j:Nat)=>AV.int .i64 (j:Int):=by
 unfold iC Ma;rw[List.map_map];rfl
def Vo (U l:List Tm) (acc:List AV):Prop:=acc.length=l.length/\∀(j:Nat) (hj:j<l.length),∃mm,acc[j]?=some (WK mm (Ma U l[j]) (UQ (Sa U l[j])))
theorem iL {U l:G7} {acc:G6} (h:Vo U l acc) (t:Tm) (mm:I6):Vo U (l++[t]) (acc++[WK mm (Ma U t) (UQ (Sa U t))]):=by
 obtain⟨h1,h2⟩:=h;refine⟨by simp[h1],λj hj=>?_⟩;by_cases hjl:j<l.length
 .obtain⟨m2,hm⟩:=h2 j hjl;refine⟨m2,?_⟩;rw[A0l (by omega),List.getElem_append_left hjl];exact hm
 .have e:j=l.length:=by simp at hj;omega
  subst e;refine⟨mm,?_⟩;rw[List.getElem?_append_right (by omega),List.getElem_append_right (by omega)];simp[h1]
end Go.Abs.Q
namespace Go.Abs.Q
open Go.Proofs
def kP (kn:List Bool):Nat:=(kn.filter (!·)).length
theorem dP:∀{kn:List Bool} {i:Nat},i<kn.length->kn.getD i false=false->kP (kn.set i true)+1=kP kn
 | [],i,h,_=>absurd h (A06 _)
 |b::kn,0,_,h=>by
  have:b=false:=h;subst this;simp[kP]
 |b::kn,i+1,h,h'=>by
  have ih:=dP (kn:=kn) (i:=i) (by simpa using h) (by simpa using h');unfold kP at ih ⊢;cases b with
  |true=>simpa using ih
  |false =>
   simp only[List.set_cons_succ,List.filter_cons,Bool.not_false,if_true,A1H];omega
theorem Pc {kn:List Bool} {i:Nat} (hi:i<kn.length) (j:Nat):(kn.set i true).getD j false=(decide (i=j)||kn.getD j false):=by
 rw[A0c,A0c,List.getElem?_set];by_cases h:i=j
 .subst h;rw[if_pos rfl,if_pos hi];simp
 .rw[if_neg h];simp[h]
def s8:List Tm->List Bool->List Tm
 |u::U,b::kn=>if b then u::s8 U kn else s8 U kn
 |_,_=>[]
theorem Sl:∀{U:G7} {kn:List Bool} {t:Tm},t∈s8 U kn↔∃j:Nat,U[j]?=some t/\kn.getD j false=true
 | [],kn,t=>by simp[s8]
 |u::U,[],t=>by simp[s8]
 |u::U,b::kn,t=>by
  have ih:=Sl (U:=U) (kn:=kn) (t:=t);constructor
  .intro h;cases b with
   |true =>
    rw[s8,if_pos rfl]at h;rcases A1A.1 h with rfl|h
    .exact⟨0,rfl,rfl⟩
    .obtain⟨j,h1,h2⟩:=ih.1 h;exact⟨j+1,by simpa using h1,by simpa using h2⟩
   |false =>
    rw[s8,if_neg (by simp)]at h;obtain⟨j,h1,h2⟩:=ih.1 h;exact⟨j+1,by simpa using h1,by simpa using h2⟩
  .rintro⟨j,h1,h2⟩;cases j with
   |zero =>
    have e1:u=t:=by simpa using h1
    have e2:b=true:=by simpa using h2
    subst e1 e2;rw[s8,if_pos rfl];exact A0h
   |succ j =>
    have:=ih.2 ⟨j,by simpa using h1,by simpa using h2⟩;rw[s8];split
    .exact A0i _ this
    .exact this
theorem ac:∀{U:G7} {kn:List Bool} {i:Nat} (hi:i<U.length),kn.length=U.length->s8 (U.take (i+1)) kn=s8 (U.take i) kn++(if kn.getD i false then [U[i]]else [])
 | [],_,i,hi,_=>absurd hi (A06 _)
 |u::U,[],i,hi,h=>by simp at h
 |u::U,b::kn,0,hi,h=>by
  cases b<;>simp[s8]
 |u::U,b::kn,i+1,hi,h=>by
  have ih:=ac (U:=U) (kn:=kn) (i:=i) (by simpa using hi) (by simpa using h);rw[A0s,A0s,s8,s8,ih];cases b<;>simp
theorem Sm {U:G7} {kn:List Bool} {e:Tm}:e∈(s8 U kn).map E3↔∃(j:Nat) (t:Tm),U[j]?=some t/\kn.getD j false=true/\E3 t=e:=by
 rw[A0g];constructor
 .rintro⟨t,h,e⟩;obtain⟨j,h1,h2⟩:=Sl.1 h;exact⟨j,t,h1,h2,e⟩
 .rintro⟨j,t,h1,h2,e⟩;exact⟨t,Sl.2 ⟨j,h1,h2⟩,e⟩
theorem YS:∀(U:G7) (kn:List Bool),(s8 U kn).length<=U.length
 | [],_=>by simp[s8]
 |_::_,[]=>by simp[s8]
 |u::U,b::kn=>by
  have:=YS U kn;rw[s8];split<;>simp only[A1H]<;>omega
structure UOk (U:List Tm):Prop where
 srt:Y5 U
 ok:∀x∈U,OkT x
 kid:∀u∈U,∀x∈u.kids,K4 U x=true
 key:∀u∈U,∀x,JT u=some x->OkT x/\K4 U x=true
theorem rO {U:G7} (hS:Y5 U) {i:Nat} (hi:i<U.length) {x:Tm} (e:E3 x=E3 U[i]):Su U x=i:=by
 have h:K4 U x=true:=V8.2 (by rw[e];exact A0a (A0d hi));exact aq hS (RT h) hi ((rN h).trans e)
theorem RS {U:G7} {kn:List Bool} (hS:Y5 U) {x:Tm} (hx:K4 U x=true):K4 (s8 U kn) x=kn.getD (Su U x) false:=by
 rw[A0t,V8,Sm];constructor
 .rintro⟨j,t,hj,hk,e⟩;obtain⟨hjl,rfl⟩:=A0z.1 hj;rw[rO hS hjl e.symm];exact hk
 .intro h;exact⟨Su U x,_,A0Z (RT hx),h,rN hx⟩
theorem Zg {U:G7} {kn:List Bool} (hU:UOk U) {u:Tm} (hu:u∈U):Fw (s8 U kn) u=(EQ u al&&(Ma U u).all λj=>kn.getD j false):=by
 unfold Fw Ma;congr 1;rw[A0t,A1F,A1F];constructor
 .intro h j hj;obtain⟨x,hx,rfl⟩:=A0g.1 hj;rw[←RS hU.srt (hU.kid u hu x hx)];exact h x hx
 .intro h x hx;rw[RS hU.srt (hU.kid u hu x hx)];exact h _ (A0a hx)
def uU (S U:List Tm) (kn:List Bool):Prop:=kn.length=U.length/\∀(j:Nat) (t:Tm),U[j]?=some t->kn.getD j false=true->Kn S U (E3 t)
theorem vS {S U:G7} {kn:List Bool} (hK:uU S U kn) {i:Nat} {t:Tm} (ht:U[i]?=some t) (hs:Du (s8 U kn) t=true):uU S U (kn.set i true):=by
 have hi:=H4 ht;refine⟨by rw[A0u];exact hK.1,λj u hu hj=>?_⟩;rw[Pc (by rw[hK.1];exact hi)]at hj;by_cases h:i=j
 .subst h;rw[ht]at hu;cases hu;refine .step (s8 U kn) (λe he=>?_) t (A0e ht) hs;obtain⟨j,x,h1,h2,rfl⟩:=Sm.1 he;exact hK.2 j x h1 h2
 .simp only[h,decide_false,A0q]at hj;exact hK.2 j u hu hj
theorem bZ {a b:Tm} (h:E3 a=E3 b):KU a b=true:=decide_eq_true (V7.2 h)
theorem xe {a b:Tm} (h:KU a b=true):E3 a=E3 b:=V7.1 (of_decide_eq_true h)
theorem kh {U:G7} {y:Tm} (h:K4 U y=true):∃x,U[Su U y]?=some x/\E3 x=E3 y:=⟨_,A0Z (RT h),rN h⟩
theorem aM {U:G7} {kn:List Bool} (hU:UOk U) {i:Nat} {t:Tm} (ht:U[i]?=some t) (hk:kn.getD i false=true) {p:Nat} (hp:p∈ZJ t (Ma U t) (Sa U t) kn) :
  ∃x,U[p]?=some x/\Du (s8 U kn) x=true:=by
 have hm:=A0e ht;have BJ:=hU.ok t hm;have Xa:t∈s8 U kn:=Sl.2 ⟨i,ht,hk⟩
 suffices h:∃x,U[p]?=some x/\Qr (s8 U kn) x t=true by
  obtain⟨x,h1,h2⟩:=h;refine⟨x,h1,?_⟩;unfold Du;rw[show Mk (s8 U kn) x=true from A01.2 ⟨t,Xa,h2⟩,A00]
 unfold ZJ at hp;unfold Qr;by_cases h1:q8 t (bs [112,97,105,114])=true
 .rw[if_pos h1]at hp;obtain⟨a,b,BI⟩:=S0 BJ h1 (.inl rfl);have k0:J0 t 0=a:=by simp[J0,BI]
  have k1:J0 t 1=b:=by simp[J0,BI]
  unfold Ma at hp;obtain⟨y,hy,rfl⟩:=A0g.1 hp;obtain⟨x,hx,e⟩:=kh (hU.kid t hm y hy);refine⟨x,hx,?_⟩;rw[if_pos h1,k0,k1];rw[BI]at hy;simp only[A1A,List.not_mem_nil,or_false]at hy;rcases hy with rfl|rfl
  .rw[bZ e.symm,A1L]
  .rw[bZ (a:=y) e.symm,A00]
 .rw[if_neg h1]at hp;have one:∀{a b:Tm},t.kids=[a,b]->p∈(Ma U t).take 1->∃x,U[p]?=some x/\KU (J0 t 0) x=true:=by
   intro a b BI hp;have k0:J0 t 0=a:=by simp[J0,BI]
   unfold Ma at hp;rw[BI]at hp;simp only[A0r,A02,A0s,A1J,A0v]at hp;obtain⟨x,hx,e⟩:=kh (hU.kid t hm a (by rw[BI];simp));exact⟨x,by rw[hp];exact hx,by rw[k0];exact bZ e.symm⟩
  by_cases h2:q8 t (bs [115,105,103,110])=true
  .rw[if_pos (by rw[h2];rfl)]at hp;obtain⟨a,b,BI⟩:=S0 BJ h2 (.inr (.inr (.inr (.inl rfl))));obtain⟨x,hx,e⟩:=one BI hp;exact⟨x,hx,by rw[if_neg h1,if_pos h2];exact e⟩
  .have h2':q8 t (bs [115,105,103,110])=false:=by simpa using h2
   rw[h2',A0q]at hp;unfold Sa at hp;cases hk:JT t with
   |none =>
    rw[hk]at hp;simp at hp
   |some k =>
    rw[hk,A07]at hp;simp only at hp;have hh:=RS (kn:=kn) hU.srt (hU.key t hm k hk).2;by_cases h3:kn.getD (Su U k) false=true
    .rw[if_pos h3]at hp;obtain⟨a,b,BI⟩:∃a b,t.kids=[a,b]:=by
      unfold JT at hk;by_cases q1:q8 t (bs [101,110,99])=true
      .exact S0 BJ q1 (.inr (.inl rfl))
      .rw[if_neg q1]at hk;by_cases q2:(q8 t (bs [97,101,110,99])&&q8 (J0 t 1) (bs [112,107]))=true
       .rw[A0o]at q2;exact S0 BJ q2.1 (.inr (.inr (.inl rfl)))
       .rw[if_neg q2]at hk;cases hk
     obtain⟨x,hx,e⟩:=one BI hp;refine⟨x,hx,?_⟩;rw[if_neg h1,if_neg h2];simp only;rw[e,hh,h3];rfl
    .rw[if_neg h3]at hp;cases hp
theorem yC {U:G7} (hU:UOk U) {t:Tm} (hm:t∈U) (kn:List Bool) {p:Nat} (hp:p∈ZJ t (Ma U t) (Sa U t) kn):p<U.length:=by
 have h:p∈Ma U t:=by
  have two:∀(c:Bool) (l:List Nat),p∈(if c=true then l.take 1 else [])->p∈l:=λc l h=>by
   cases c with
   |true=>exact A09 h
   |false=>cases h
  unfold ZJ at hp;by_cases h1:q8 t (bs [112,97,105,114])=true
  .rw[if_pos h1]at hp;exact hp
  .rw[if_neg h1]at hp;exact two _ _ hp
 unfold Ma at h;obtain⟨y,hy,rfl⟩:=A0g.1 h;exact RT (hU.kid t hm y hy)
def ClA (U:List Tm) (kn:List Bool) (j:Nat):Prop:=∀t,U[j]?=some t->(kn.getD j false=true\/(OQ t||(EQ t al&&(Ma U t).all λj=>kn.getD j false))=false)/\(kn.getD j false=true->∀p∈ZJ t (Ma U t) (Sa U t) kn,kn.getD p false=true)
theorem eD {U:G7} {kn:List Bool} (hU:UOk U) (h:∀j,j<U.length->ClA U kn j):∀u∈U,K4 (s8 U kn) u=true\/Du (s8 U kn) u=false:=by
 intro u hu;obtain⟨i,hi,rfl⟩:=A1B hu;have hh:K4 U U[i]=true:=V8.2 (A0a hu);have hix:=rO hU.srt hi (x:=U[i]) rfl;have hp:=RS (kn:=kn) hU.srt hh;rw[hix]at hp;rw[hp];by_cases hk:kn.getD i false=true
 .exact .inl hk
 .refine .inr ?_;obtain⟨c1,-⟩:=h i hi _ (A0Z hi);rcases c1 with c1|c1
  .exact absurd c1 hk
  unfold Du;rw[Zg hU hu,c1,A0q,A1E];intro ho;obtain⟨t,ht,ho⟩:=A01.1 ho;obtain⟨j,hj,hjk⟩:=Sl.1 ht;have htm:=A0e hj;have BJ:=hU.ok t htm;obtain⟨-,c2⟩:=h j (H4 hj) t hj;refine hk (c2 hjk i ?_);have mem:∀{y:Tm},y∈t.kids->KU y U[i]=true->i=Su U y:=λhy e=>(rO hU.srt hi (xe e)).symm;have one:∀{a b:Tm},t.kids=[a,b]->KU (J0 t 0) U[i]=true->i∈(Ma U t).take 1:=by
   intro a b BI e;have k0:J0 t 0=a:=by simp[J0,BI]
   rw[k0]at e;unfold Ma;rw[BI];simp only[A0r,A02,A0s,A1J,A0v];exact mem (by rw[BI];simp) e
  unfold Qr at ho;unfold ZJ;by_cases h1:q8 t (bs [112,97,105,114])=true
  .rw[if_pos h1]at ho ⊢;obtain⟨a,b,BI⟩:=S0 BJ h1 (.inl rfl);have k0:J0 t 0=a:=by simp[J0,BI]
   have k1:J0 t 1=b:=by simp[J0,BI]
   rw[k0,k1,A04]at ho;unfold Ma;rcases ho with ho|ho
   .rw[mem (by rw[BI];simp) ho];exact A0a (by rw[BI];simp)
   .rw[mem (by rw[BI];simp) ho];exact A0a (by rw[BI];simp)
  .rw[if_neg h1]at ho ⊢;by_cases h2:q8 t (bs [115,105,103,110])=true
   .rw[if_pos h2]at ho;rw[if_pos (by rw[h2];rfl)];obtain⟨a,b,BI⟩:=S0 BJ h2 (.inr (.inr (.inr (.inl rfl))));exact one BI ho
   .rw[if_neg h2]at ho;have h2':q8 t (bs [115,105,103,110])=false:=by simpa using h2
    rw[h2',A0q];unfold Sa;cases hk:JT t with
    |none=>rw[hk]at ho;cases ho
    |some k =>
     rw[hk]at ho;simp only[A0o]at ho;have hh:=RS (kn:=kn) hU.srt (hU.key t htm k hk).2;rw[A07];simp only;rw[if_pos (by rw[←hh];exact ho.2)];obtain⟨a,b,BI⟩:∃a b,t.kids=[a,b]:=by
      unfold JT at hk;by_cases q1:q8 t (bs [101,110,99])=true
      .exact S0 BJ q1 (.inr (.inl rfl))
      .rw[if_neg q1]at hk;by_cases q2:(q8 t (bs [97,101,110,99])&&q8 (J0 t 1) (bs [112,107]))=true
       .rw[A0o]at q2;exact S0 BJ q2.1 (.inr (.inr (.inl rfl)))
       .rw[if_neg q2]at hk;cases hk
     exact one BI ho.1
structure PasS (S U:List Tm) (kn0 kn:List Bool) (c:Bool) (i:Nat):Prop where
 kns:uU S U kn
 mono:∀j,kn0.getD j false=true->kn.getD j false=true
 chg:c=true->kP kn<kP kn0
 stay:c=false->kn=kn0/\∀j,j<i->ClA U kn j
end Go.Abs.Q
namespace Go.Abs.Q
open Go.Proofs
attribute [local simp] E6 E8 fin K1 H2 P7 M6 R4 R3
structure MkS (kn:List Bool) (ps:List Nat) (kn':List Bool) (c0 c:Bool) (i:Nat):Prop where
 len:kn'.length=kn.length
 mono:∀j,kn.getD j false=true->kn'.getD j false=true
 only:∀j,kn'.getD j false=true->kn.getD j false=true\/j∈ps
 le:kP kn'<=kP kn
 chg:c=true->c0=true\/kP kn' < kP kn
 stay:c=false->c0=false/\kn'=kn/\∀p∈ps.take i,kn.getD p false=true
theorem QH (m:I6) (ps:List Nat) (N:Nat) (kn:List Bool) (c0:Bool) (k:Nat) (B0:List (List AV)) (F:List Fam) (hN:kn.length=N) (hps:∀p∈ps,p<N) (B8:ps.length<=1048576) (hNl:N<=1048576) (hk:k<F.length) (fr:Fr) (h:AH) (hh:h=⟨B0,F.set k ⟨kn.map AV.bool,1,true⟩⟩) (h10:A0 fr 10=.bool c0) (hl:fr.length=137) (h8:A0 fr 8=.sl k N 0 N) (h12:A0 fr 12=Vx m ps) (h13:A0 fr 13=.int .i64 0) :
  B6 (lp (A2 (K8 Q) (D6 j7) Ea) (fr,h)) λe C3 h'=>Kp Ea.wr fr C3/\e=.exit 8/\∃(kn':List Bool) (c:Bool),A0 C3 10=.bool c/\h'=⟨B0,F.set k ⟨kn'.map AV.bool,1,true⟩⟩/\MkS kn ps kn' c0 c ps.length:=by
 refine A9 rfl fr (λn fr h'=>∃(i:Nat),i+n=ps.length/\A0 fr 13=.int .i64 (i:Nat)/\(∃(kn':List Bool) (c:Bool),A0 fr 10=.bool c/\h'=⟨B0,F.set k ⟨kn'.map AV.bool,1,true⟩⟩/\MkS kn ps kn' c0 c i)) ?_ ps.length h ⟨0,by omega,h13,kn,c0,h10,hh,rfl,λ_ h=>h,λ_ h=>.inl h,A0k _,λh=>.inl h,λh=>⟨h,rfl,λp hp=>(nomatch hp)⟩⟩;rintro J Φ hJ hΦ n D4 H1 K ⟨i,hi,k13,hr⟩;have A6:=K.1.trans hl;have k8:=A8 K 8 h8;have k12:=A8 K 12 h12;clear K;by_cases A7:i<ps.length
 .have L3:=C6 i (by omega);obtain⟨kn',c,k10,rfl,hM⟩:=hr;have hx:=G1 (f:=λ(j:Nat)=>AV.int .i64 (j:Int)) (A0Z A7);have hj:=hps _ (A0d A7);have htk:∀p∈ps.take (i+1),p∈ps.take i\/p=ps[i]:=λp hp=>by
   rw[A0f A7]at hp;rcases A1I.1 hp with h|h
   .exact .inl h
   .exact .inr (A0v.1 h)
  have hjm:=A0d A7;unfold Vx at k12;clear hh h10;generalize ps[i]=j at *
  have hXl:(kn'.map AV.bool).length=N:=by rw[A0b,hM.len,hN]
  have hjk:j<kn'.length:=by rw[hM.len];omega
  have hgd:kn'.getD j false=kn'[j]:=by rw[A0c,A0Z hjk];rfl
  have hy:(kn'.map AV.bool)[j]'(by rw[hXl];exact hj)=.bool kn'[j]:=A1G ..;have e2:(kn'.map AV.bool).set j (.bool true)=(kn'.set j true).map AV.bool:=by rw[A1C]
  rw[←hgd]at hy;by_cases hb:kn'.getD j false=true
  .have hM2:MkS kn ps kn' c0 c (i+1):=by
    refine⟨hM.len,hM.mono,hM.only,hM.le,hM.chg,λhc=>?_⟩;obtain⟨q1,q2,q3⟩:=hM.stay hc;refine⟨q1,q2,λp hp=>?_⟩;rcases htk p hp with hp|rfl
    .exact q3 p hp
    .rw[←q2];exact hb
   rw[hb]at hy;clear e2 htk;generalize hX:kn'.map AV.bool=X at *
   simp[Ea,A6,k8,k12,k13,A7,L3,hx,hk,hXl,hj,hy];exact G0 hJ ⟨i+1,by omega,by simp[A6],kn',c,by simp[k10],by rw[hX],hM2⟩
  .have hb':kn'.getD j false=false:=by simpa using hb
   have hu:=dP hjk hb';have hM2:MkS kn ps (kn'.set j true) c0 true (i+1):=by
    refine⟨by rw[A0u];exact hM.len,λq hq=>by rw[Pc hjk,hM.mono q hq,A00],λq hq=>?_,by have:=hM.le;omega,λ_=>.inr (by have:=hM.le;omega),λh=>(nomatch h)⟩;rw[Pc hjk,A04,decide_eq_true_iff]at hq;rcases hq with rfl|hq
    .exact .inr hjm
    .exact hM.only q hq
   rw[hb']at hy;clear htk;generalize hX:kn'.map AV.bool=X at *
   generalize hY:(kn'.set j true).map AV.bool=Y at *
   simp[Ea,A6,k8,k12,k13,A7,L3,hx,hk,hXl,hj,hy,e2];exact G0 hJ ⟨i+1,by omega,by simp[A6],kn'.set j true,true,by simp[A6],by rw[hY],hM2⟩
 .obtain⟨kn',c,k10,rfl,hM⟩:=hr;have e:i=ps.length:=by omega
  subst e;unfold Vx at k12;simp[Ea,A6,k12,k13];exact hΦ _ _ _ ⟨rfl,kn',c,by simp[k10],rfl,hM⟩
end Go.Abs.Q
namespace Go.Abs.Q
open Go.Proofs
theorem jd {S U:G7} {kn0 kn:List Bool} {c:Bool} {i:Nat} (h:PasS S U kn0 kn c i):kP kn<=kP kn0:=by
 cases c with
 |true=>exact Nat.le_of_lt (h.chg rfl)
 |false=>rw[(h.stay rfl).1];exact A0k _
theorem sS {S U:G7} (hU:UOk U) {kn0 kn kn2:List Bool} {c c2:Bool} {i:Nat} {t:Tm} (h:PasS S U kn0 kn c i) (ht:U[i]?=some t) (hk:kn.getD i false=true)
  (hM:MkS kn (ZJ t (Ma U t) (Sa U t) kn) kn2 c c2 (ZJ t (Ma U t) (Sa U t) kn).length):PasS S U kn0 kn2 c2 (i+1) where
 kns:=by
  refine⟨by rw[hM.len];exact h.kns.1,λj u hu hj=>?_⟩;rcases hM.only j hj with q|q
  .exact h.kns.2 j u hu q
  .obtain⟨x,hx,hs⟩:=aM hU ht hk q;rw[hu]at hx;cases hx;refine .step (s8 U kn) (λe he=>?_) u (A0e hu) hs;obtain⟨j,x,h1,h2,rfl⟩:=Sm.1 he;exact h.kns.2 j x h1 h2
 mono:=λj hj=>hM.mono j (h.mono j hj)
 chg:=λhc=>by
  have:=jd h;have:=hM.le;rcases hM.chg hc with q|q
  .have:=h.chg q;omega
  .omega
 stay:=λhc=>by
  obtain⟨q1,q2,q3⟩:=hM.stay hc;obtain⟨p1,p2⟩:=h.stay q1;subst q2;refine⟨p1,λj hj=>?_⟩;by_cases hji:j<i
  .exact p2 j hji
  .have e:j=i:=by omega
   subst e;intro u hu;rw[ht]at hu;cases hu;rw[List.take_length]at q3;exact⟨.inl hk,λ_=>q3⟩
theorem lY {S U:G7} (hU:UOk U) {kn0 kn kn2:List Bool} {c c2:Bool} {i:Nat} {t:Tm} (h:PasS S U kn0 kn c i) (ht:U[i]?=some t) (hk:kn.getD i false=false)
  (hd:(OQ t||(EQ t al&&(Ma U t).all λj=>kn.getD j false))=true)
  (hM:MkS (kn.set i true) (ZJ t (Ma U t) (Sa U t) (kn.set i true)) kn2 true c2 (ZJ t (Ma U t) (Sa U t) (kn.set i true)).length):PasS S U kn0 kn2 c2 (i+1):=by
 have hi:i<kn.length:=by rw[h.kns.1];exact H4 ht
 have hu:=dP hi hk;have Pa:=jd h;have Hx:Du (s8 U kn) t=true:=by
  unfold Du;rw[Zg hU (A0e ht),hd,A1L]
 have hK1:=vS h.kns ht Hx;have hk1:(kn.set i true).getD i false=true:=by rw[Pc hi];simp
 have hc2:c2=true:=by
  cases c2 with
  |true=>rfl
  |false=>exact absurd (hM.stay rfl).1 (by simp)
 refine⟨⟨by rw[hM.len];exact hK1.1,λj u hu hj=>?_⟩,λj hj=>hM.mono j (by rw[Pc hi,h.mono j hj,A00]),λ_=>by have:=hM.le;omega,λhc=>by rw[hc2]at hc;cases hc⟩;rcases hM.only j hj with q|q
 .exact hK1.2 j u hu q
 .obtain⟨x,hx,hs⟩:=aM hU ht hk1 q;rw[hu]at hx;cases hx;refine .step (s8 U (kn.set i true)) (λe he=>?_) u (A0e hu) hs;obtain⟨j,x,h1,h2,rfl⟩:=Sm.1 he;exact hK1.2 j x h1 h2
theorem sP {S U:G7} {kn0 kn kn2:List Bool} {c c2:Bool} {i:Nat} {t:Tm} (h:PasS S U kn0 kn c i) (ht:U[i]?=some t) (hk:kn.getD i false=false)
  (hd:(OQ t||(EQ t al&&(Ma U t).all λj=>kn.getD j false))=false) (hM:MkS kn [] kn2 c c2 0):PasS S U kn0 kn2 c2 (i+1) where
 kns:=by
  refine⟨by rw[hM.len];exact h.kns.1,λj u hu hj=>?_⟩;rcases hM.only j hj with q|q
  .exact h.kns.2 j u hu q
  .cases q
 mono:=λj hj=>hM.mono j (h.mono j hj)
 chg:=λhc=>by
  have:=jd h;have:=hM.le;rcases hM.chg hc with q|q
  .have:=h.chg q;omega
  .omega
 stay:=λhc=>by
  obtain⟨q1,q2,q3⟩:=hM.stay hc;obtain⟨p1,p2⟩:=h.stay q1;subst q2;refine⟨p1,λj hj=>?_⟩;by_cases hji:j<i
  .exact p2 j hji
  .have e:j=i:=by omega
   subst e;intro u hu;rw[ht]at hu;cases hu;exact⟨.inr hd,λh=>by rw[hk]at h;cases h⟩
theorem cM (t:Tm) (ks:List Nat) (key:Option Nat) (kn:List Bool):(ZJ t ks key kn).length<=ks.length:=by
 have two:∀c:Bool,(if c=true then ks.take 1 else []).length<=ks.length:=λc=>by
  cases c with
  |true=>rw[if_pos rfl,A0p];omega
  |false=>exact Nat.zero_le _
 unfold ZJ;by_cases h1:q8 t (bs [112,97,105,114])=true
 .rw[if_pos h1];exact A0k _
 .rw[if_neg h1];exact two _
theorem oa {S U:G7} {kn:List Bool} (h:uU S U kn):PasS S U kn kn false 0:=⟨h,λ_ h=>h,λh=>(nomatch h),λ_=>⟨rfl,λj hj=>absurd hj (A06 _)⟩⟩
theorem rV {U:G7} (hU:UOk U) {t:Tm} (hm:t∈U):(Ma U t).length<=1048576/\(∀j∈Ma U t,j<U.length)/\(∀j,Sa U t=some j->j<U.length)/\(q8 t (bs [112,97,105,114])=false->q8 t (bs [115,105,103,110])=true\/Sa U t≠none->1<=(Ma U t).length):=by
 have ho:=hU.ok t hm;refine⟨?_,λj hj=>?_,λj hj=>?_,λ_ h=>?_⟩
 .unfold Ma;rw[A0b];have h1:=ho.size;have h2:=t.kids_size;have h3:=Tm.length_le t.kids;omega
 .unfold Ma at hj;obtain⟨y,hy,rfl⟩:=A0g.1 hj;exact RT (hU.kid t hm y hy)
 .unfold Sa at hj;cases hk:JT t with
  |none=>rw[hk]at hj;cases hj
  |some k =>
   rw[hk,A07]at hj;cases hj;exact RT (hU.key t hm k hk).2
 .unfold Ma;rw[A0b];have two:∃a b,t.kids=[a,b]:=by
   rcases h with h|h
   .exact S0 ho h (.inr (.inr (.inr (.inl rfl))))
   .unfold Sa JT at h;by_cases q1:q8 t (bs [101,110,99])=true
    .exact S0 ho q1 (.inr (.inl rfl))
    .rw[if_neg q1]at h;by_cases q2:(q8 t (bs [97,101,110,99])&&q8 (J0 t 1) (bs [112,107]))=true
     .rw[A0o]at q2;exact S0 ho q2.1 (.inr (.inr (.inl rfl)))
     .rw[if_neg q2]at h;exact absurd rfl h
  obtain⟨a,b,e⟩:=two;rw[e];simp
end Go.Abs.Q
namespace Go.Abs.Q
open Go.Proofs
attribute [local simp] E6 E8 fin K1 H2 P7 M6 R4 R3
theorem jG (m:I6) (S U:G7) (hU:UOk U) (hUl:U.length<=1048576) (kn0:List Bool) (hk0:uU S U kn0) (k kp:Nat) (acc:G6) (F:List Fam) (hk:k<F.length) (hkp:F[kp]?=some ⟨acc,2,false⟩) (P4:k≠kp) (hpl:Vo U U acc) (fr:Fr) (h:AH) (h10:A0 fr 10=.bool false) (hH:∃B,h=⟨B,F.set k ⟨kn0.map AV.bool,1,true⟩⟩) (hl:fr.length=137) (h1:A0 fr 1=sl m 4 (A4 U)) (h7:A0 fr 7=.sl kp U.length 0 U.length) (h8:A0 fr 8=.sl k U.length 0 U.length) (h11:A0 fr 11=.int .i64 0) :
  B6 (lp (A2 (K8 Q) (D6 j7) Ah) (fr,h)) λe C3 h'=>Kp Ah.wr fr C3/\e=.exit 6/\∃(kn':List Bool) (c:Bool) (B:List (List AV)),A0 C3 10=.bool c/\h'=⟨B,F.set k ⟨kn'.map AV.bool,1,true⟩⟩/\PasS S U kn0 kn' c U.length:=by
 refine A9 rfl fr (λn fr h'=>∃(i:Nat),i+n=U.length/\A0 fr 11=.int .i64 (i:Nat)/\(∃(kn':List Bool) (c:Bool) (B:List (List AV)),A0 fr 10=.bool c/\h'=⟨B,F.set k ⟨kn'.map AV.bool,1,true⟩⟩/\PasS S U kn0 kn' c i)) ?_ U.length h ⟨0,by omega,h11,kn0,false,hH.choose,h10,hH.choose_spec,oa hk0⟩;rintro J Φ hJ hΦ n D4 H1 K ⟨i,hi,k11,hr⟩;have A6:=K.1.trans hl;have k1:=A8 K 1 h1;have k7:=A8 K 7 h7;have k8:=A8 K 8 h8;clear K;by_cases A7:i<U.length
 .have L3:=C6 i (by omega);obtain⟨kn',c,B,k10,rfl,hP⟩:=hr;have hx:=I0 A7;have hat:U[i]?=some U[i]:=A0Z A7;have hm:=A0d A7;have ho:=hU.ok _ hm;obtain⟨f1,f2,f3,f4⟩:=rV hU hm;obtain⟨mm,ha⟩:=hpl.2 i A7;have hal:acc.length=U.length:=hpl.1;have hPub:=cq U[i] ho.nm ho.ow;have Bs:=hP.kns.1;have hoL:=yC hU hm;clear h10 hH hpl;generalize U[i]=t at *
  have hlk:i<kn'.length:=by omega
  have hgd:kn'[i]?=some (kn'.getD i false):=by rw[A0c,A0Z hlk];rfl
  have ha':acc[i]'(by omega)=WK mm (Ma U t) (UQ (Sa U t)):=by
   rw[A0Z (by omega)]at ha;exact Option.some.inj ha
  have hkp':∀X,(F.set k X)[kp]?=some ⟨acc,2,false⟩:=λX=>by rw[List.getElem?_set_ne P4];exact hkp
  have hBu:=sg mm (false,true) t (Ma U t) kn' (UQ (Sa U t)) f1 (λj hj=>by rw[Bs];exact f2 j hj) (by omega);unfold WK at ha' hBu;obtain⟨X,hX⟩:∃X,kn'.map AV.bool=X:=⟨_,rfl⟩;have hXl:X.length=U.length:=by rw[←hX,A0b,Bs]
  have hy:X[i]'(by omega)=.bool (kn'.getD i false):=by
   have h1:X[i]?=some (.bool (kn'.getD i false)):=by rw[←hX,A0n,hgd];rfl
   rw[A0Z (by omega)]at h1;exact Option.some.inj h1
  have uN:∀B,Ev ⟨B,F.set k ⟨X,1,true⟩⟩ true (.sl k U.length 0 U.length)=some (sl (false,true) 1 X):=λB=>Jb (h:=⟨B,F.set k ⟨X,1,true⟩⟩) (xs:=X) (b:=true) (by simp[hk]) hXl;rw[hX]at hBu ⊢;clear hgd ha;by_cases q:kn'.getD i false=true
  .rw[q]at hy;obtain⟨mo,B',hO⟩:=YV mm t (Ma U t) (Sa U t) kn' k B (F.set k ⟨kn'.map AV.bool,1,true⟩) (by simp[hk]) (λj hj=>by rw[Bs];exact f3 j hj) f1 f4;have hl0:=QH mo (ZJ t (Ma U t) (Sa U t) kn') U.length kn' c k (B++B') F Bs (λp hp=>hoL kn' hp) (A1D (cM _ _ _ _) f1) hUl hk;have hfin:=λkn2 c2=>sS (kn2:=kn2) (c2:=c2) (c:=c) hU hP hat q;rw[Bs,hX]at hO;rw[hX]at hl0;unfold WK at hO;clear hBu hPub;generalize ZJ t (Ma U t) (Sa U t) kn'=ps at *
   generalize (Ma U t).map (λ(j:Nat)=>AV.int .i64 (j:Int))=Z at *
   generalize UQ (Sa U t)=ky at *
   simp[Ah,A6,k1,k7,k8,k11,A7,hx,hk,hXl,hy,hO,hkp',hal,ha'];refine B6.mono (hl0 _ _ rfl ?_ ?_ ?_ ?_ ?_) ?_<;>first|(simp[A6,k8,k10];done)|skip
   rintro e Q6 h2 ⟨K,rfl,kn2,c2,k10',rfl,hM⟩;have Bb:Q6.length=137:=K.1.trans (by simp[A6]);have k11':A0 Q6 11=.int .i64 (i:Nat):=A8 K 11 (by simp[k11]);clear K;simp[Bb,k11',L3];exact G0 hJ ⟨i+1,by omega,by simp[Bb],kn2,c2,_,by simp[k10'],rfl,hfin kn2 c2 hM⟩
  have q':kn'.getD i false=false:=by simpa using q
  rw[q']at hy;have x4:(kn'.set i true).length=U.length:=by rw[A0u,Bs]
  have e2:X.set i (.bool true)=(kn'.set i true).map AV.bool:=by rw[←hX,A1C]
  have hq1:(kn'.set i true)[i]?=some true:=by rw[List.getElem?_set_self hlk]
  obtain⟨Y,hY⟩:∃Y,(kn'.set i true).map AV.bool=Y:=⟨_,rfl⟩;have hYl:Y.length=U.length:=by rw[←hY,A0b,x4]
  have hyY:Y[i]'(by omega)=.bool true:=by
   have h1:Y[i]?=some (.bool true):=by rw[←hY,A0n,hq1];rfl
   rw[A0Z (by omega)]at h1;exact Option.some.inj h1
  rw[hY]at e2;by_cases hp:OQ t=true
  .rw[hp]at hPub;obtain⟨mo,B',hO⟩:=YV mm t (Ma U t) (Sa U t) (kn'.set i true) k B (F.set k ⟨(kn'.set i true).map AV.bool,1,true⟩) (by simp[hk]) (λj hj=>by rw[x4];exact f3 j hj) f1 f4;have hl0:=QH mo (ZJ t (Ma U t) (Sa U t) (kn'.set i true)) U.length (kn'.set i true) true k (B++B') F x4 (λp hp=>hoL _ hp) (A1D (cM _ _ _ _) f1) hUl hk;have hfin:=λkn2 c2=>lY (kn2:=kn2) (c2:=c2) (c:=c) hU hP hat q' (by rw[hp];rfl);rw[x4,hY]at hO;rw[hY]at hl0;unfold WK at hO;clear hBu;generalize ZJ t (Ma U t) (Sa U t) (kn'.set i true)=ps at *
   generalize (Ma U t).map (λ(j:Nat)=>AV.int .i64 (j:Int))=Z at *
   generalize UQ (Sa U t)=ky at *
   simp[Ah,A6,k1,k7,k8,k11,A7,hx,hk,hXl,hYl,hy,hyY,e2,hO,hkp',hal,ha',hPub];refine B6.mono (hl0 _ _ rfl ?_ ?_ ?_ ?_ ?_) ?_<;>first|(simp[A6,k8];done)|skip
   rintro e Q6 h2 ⟨K,rfl,kn2,c2,k10',rfl,hM⟩;have Bb:Q6.length=137:=K.1.trans (by simp[A6]);have k11':A0 Q6 11=.int .i64 (i:Nat):=A8 K 11 (by simp[k11]);clear K;simp[Bb,k11',L3];exact G0 hJ ⟨i+1,by omega,by simp[Bb],kn2,c2,_,by simp[k10'],rfl,hfin kn2 c2 hM⟩
  have hp':OQ t=false:=by simpa using hp
  rw[hp']at hPub;by_cases hb:(EQ t al&&(Ma U t).all λj=>kn'.getD j false)=true
  .rw[hb]at hBu;obtain⟨mo,B',hO⟩:=YV mm t (Ma U t) (Sa U t) (kn'.set i true) k B (F.set k ⟨(kn'.set i true).map AV.bool,1,true⟩) (by simp[hk]) (λj hj=>by rw[x4];exact f3 j hj) f1 f4;have hl0:=QH mo (ZJ t (Ma U t) (Sa U t) (kn'.set i true)) U.length (kn'.set i true) true k (B++B') F x4 (λp hp=>hoL _ hp) (A1D (cM _ _ _ _) f1) hUl hk;have hfin:=λkn2 c2=>lY (kn2:=kn2) (c2:=c2) (c:=c) hU hP hat q' (by rw[hp',hb];rfl);rw[x4,hY]at hO;rw[hY]at hl0;unfold WK at hO
   skip
   generalize ZJ t (Ma U t) (Sa U t) (kn'.set i true)=ps at *
   generalize (Ma U t).map (λ(j:Nat)=>AV.int .i64 (j:Int))=Z at *
   generalize UQ (Sa U t)=ky at *
   simp[Ah,A6,k1,k7,k8,k11,A7,hx,hk,hXl,hYl,hy,hyY,e2,hO,hkp',hal,ha',hPub,uN,hBu];refine B6.mono (hl0 _ _ rfl ?_ ?_ ?_ ?_ ?_) ?_<;>first|(simp[A6,k8];done)|skip
   rintro e Q6 h2 ⟨K,rfl,kn2,c2,k10',rfl,hM⟩;have Bb:Q6.length=137:=K.1.trans (by simp[A6]);have k11':A0 Q6 11=.int .i64 (i:Nat):=A8 K 11 (by simp[k11]);clear K;simp[Bb,k11',L3];exact G0 hJ ⟨i+1,by omega,by simp[Bb],kn2,c2,_,by simp[k10'],rfl,hfin kn2 c2 hM⟩
  .have hb':(EQ t al&&(Ma U t).all λj=>kn'.getD j false)=false:=by simpa using hb
   rw[hb']at hBu;have hl0:=QH (true,false) [] U.length kn' c k B F Bs (λp hp=>(nomatch hp)) (by simp) hUl hk;have hfin:=λkn2 c2=>sP (kn2:=kn2) (c2:=c2) (c:=c) hP hat q' (by rw[hp',hb'];rfl);rw[hX]at hl0;have hnil:AV.vs true 0 []=Vx (true,false) []:=rfl;generalize (Ma U t).map (λ(j:Nat)=>AV.int .i64 (j:Int))=Z at *
   generalize UQ (Sa U t)=ky at *
   simp[Ah,A6,k1,k7,k8,k11,A7,hx,hk,hXl,hy,hkp',hal,ha',hPub,uN,hBu];refine B6.mono (hl0 _ _ rfl ?_ ?_ ?_ ?_ ?_) ?_<;>first|(simp[A6,k8,k10];done)|(simp[A6];exact hnil;done)|(simp;rfl;done)|skip
   rintro e Q6 h2 ⟨K,rfl,kn2,c2,k10',rfl,hM⟩;have Bb:Q6.length=137:=K.1.trans (by simp[A6]);have k11':A0 Q6 11=.int .i64 (i:Nat):=A8 K 11 (by simp[k11]);clear K;simp[Bb,k11',L3];exact G0 hJ ⟨i+1,by omega,by simp[Bb],kn2,c2,_,by simp[k10'],rfl,hfin kn2 c2 hM⟩
 .obtain⟨kn',c,B,k10,rfl,hP⟩:=hr;have e:i=U.length:=by omega
  subst e;simp[Ah,A6,k1,k11];exact hΦ _ _ _ ⟨rfl,kn',c,B,by simp[k10],rfl,hP⟩
theorem qU {F0:List Fam} {sz:Nat} {acc:G6} {v:AV} {h:AH} (hg:mG F0 sz acc v h):∃m,∀(B:List (List AV)) (am:Bool),Ev ⟨B,h.fams⟩ am v=some (sl m sz acc):=PN (UD hg)
theorem cC (m:I6) (U:G7) (hU:∀x∈U,OkT x) (hUl:U.length<=1048576) (hkd:∀u∈U,∀x∈u.kids,K4 U x=true) (hky:∀u∈U,∀x,JT u=some x->OkT x/\K4 U x=true) (fr:Fr) (h:AH) (hh:h.boxes=[[.mbox (U.map GR) (Jc U.length)]]) (h5:A0 fr 5=.vs true 0 []) (hl:fr.length=64) (h0:A0 fr 0=sl m 4 (A4 U)) (h1:A0 fr 1=.mp 0) (h6:A0 fr 6=.int .i64 0) :
  B6 (lp (A2 (K8 Q) (D6 Q9) Ec) (fr,h)) λe C3 h'=>Kp Ec.wr fr C3/\e=.exit 0/\∃(B':List (List AV)) (v:AV) (acc:List AV),h'.boxes=[.mbox (U.map GR) (Jc U.length)]::B'/\A0 C3 5=v/\EB 2 acc v h'/\Vo U U acc:=by
 refine A9 rfl fr (λn fr h'=>∃(i:Nat),i+n=U.length/\A0 fr 6=.int .i64 (i:Nat)/\(∃(B':List (List AV)) (v:AV) (acc:List AV),h'.boxes=[.mbox (U.map GR) (Jc U.length)]::B'/\A0 fr 5=v/\EB 2 acc v h'/\Vo U (U.take i) acc)) ?_ U.length h ⟨0,by omega,h6,[],_,[],hh,h5,DB _ _,rfl,λj hj=>by simp at hj⟩;rintro J Φ hJ hΦ n D4 H1 K ⟨i,hi,k6,hr⟩;have A6:=K.1.trans hl;have k0:=A8 K 0 h0;have k1:=A8 K 1 h1;clear K;by_cases A7:i<U.length
 .have L3:=C6 i (by omega);obtain⟨B',v,acc,hB,k5,hg,hpl⟩:=hr;obtain⟨bx,F⟩:=H1;simp only at hB;subst hB;have hx:=I0 A7;have HW:=A0d A7;have ho:=hU _ HW;have TE:=hkd _ HW;have hkey:=hky _ HW;have J4:=ho.size;have hks:=(U[i]).kids_size;have Bs:=Tm.length_le (U[i]).kids;simp[Ec,A6,k0,k6,A7,C8,D8,K5];refine B6.mono (cB m U U[i].kids i U[i] (A0Z A7) rfl (B'.length+1) ([.mbox (U.map GR) (Jc U.length)]::B') (by omega) (λx hx=>⟨ho.kid hx,TE x hx⟩) hU hUl rfl (by simp) F _ _ ?_ ?_ ?_ ?_ ?_ ?_ ?_ ?_) ?_<;>first|(simp[A6,k0,k1,k6];done)|skip
  rintro e Q6 ⟨bx2,F2⟩ ⟨K,rfl,v2,hB2,hg2⟩;simp only at hB2;subst hB2;have Bb:Q6.length=64:=K.1.trans (by simp[A6]);have k0':A0 Q6 0=sl m 4 (A4 U):=A8 K 0 (by simp[k0]);have k1':A0 Q6 1=.mp 0:=A8 K 1 (by simp[k1]);have k5':A0 Q6 5=v:=A8 K 5 (by simp[k5]);have k6':A0 Q6 6=.int .i64 (i:Nat):=A8 K 6 (by simp[k6]);have k7':A0 Q6 7=.ptr (B'.length+1) 0:=A8 K 7 (by simp[A6]);clear K;have g2:∀X,EB 2 acc v ⟨X,F2⟩:=λX=>bE hg (λj hj=>by
   rcases hg2 with ⟨-,-,e⟩|⟨-,-,e⟩
   .simp only at e;rw[e]
   .simp only at e hj;rw[e];exact A0l hj)
  obtain⟨c1,c2,c3⟩:=L6 (UD hg2);obtain⟨mz,uN⟩:=qU hg2;simp only at uN;have hal:acc.length=i:=by rw[hpl.1,A0p];omega
  have htk:U.take (i+1)=U.take i++[U[i]]:=A0f A7;have hsn:=λmm=>iL hpl U[i] mm;rw[←htk]at hsn;have happ:∀(X:List (List AV)) (key:Int),∃v' F',K6 (D6 Q9) ⟨X,F2⟩ 2 32 v (sl (true,true) 2 [.agg [sl mz 1 (iC U U[i].kids),.int .i64 key]])=some (v',⟨X,F'⟩)/\EB 2 (acc++[.agg [sl mz 1 (iC U U[i].kids),.int .i64 key]]) v' ⟨X,F'⟩:=λX key=>by
   obtain⟨v',⟨b',F'⟩,e1,e2,e3⟩:=Al (c:=D6 Q9) (bytes:=32) (x:=.agg [sl mz 1 (iC U U[i].kids),.int .i64 key]) (g2 X) rfl (true,true) (by omega) (by omega);simp only at e3;subst e3;exact⟨v',F',e1,e2⟩
  rcases pT U[i] ho with ⟨kx,hkT,hK⟩|⟨hkT,e,he,hK⟩
  .obtain⟨kok,khas⟩:=hkey kx hkT;have hP:=cj _ kx (A0k _) (by have:=kok.size;omega) (X8 (w7 kok.valid).1).1;have hM:∀X,Gq true false (.int .i64 0) ⟨[.mbox (U.map GR) (Jc U.length)]::X,F2⟩ (.mp 0) (.str (TJ (Kq kx)))=some (.int .i64 (Su U kx:Nat),⟨[.mbox (U.map GR) (Jc U.length)]::X,F2⟩):=λX=>Xn U kx hU kok khas ⟨_,F2⟩ 0 rfl (.int .i64 0);obtain⟨v',F',ha,d7⟩:=happ ([.mbox (U.map GR) (Jc U.length)]::(B'++[[v2,.int .i64 (Su U kx:Nat)],(B9 kx).cells])) (Su U kx:Nat);have tc:=I3 kx;rw[tc]at ha;clear hh hg2 hg htk happ;generalize hix:iC U U[i].kids=Z at *
   generalize U[i]=t at *
   have hpv:WK mz (Ma U t) (UQ (Sa U t))=.agg [sl mz 1 Z,.int .i64 (Su U kx:Nat)]:=by
    unfold WK Sa;rw[hkT,←hix,rM];rfl
   have hsn:=hsn mz;rw[hpv]at hsn;simp[Bb,k0',k1',k5',k6',k7',hx,hK,hP,hM,uN,ha,K5,A5,L3,tc];exact G0 hJ ⟨i+1,by omega,by simp[Bb],_,v',_,rfl,by simp[Bb],Bn d7 rfl,hsn⟩
  .obtain⟨v',F',ha,d7⟩:=happ ([.mbox (U.map GR) (Jc U.length)]::(B'++[[v2,.int .i64 (-1)],(B9 iF).cells])) (-1);have tc:=I3 iF;rw[tc]at ha;clear hh hg2 hg htk happ;generalize hix:iC U U[i].kids=Z at *
   generalize U[i]=t at *
   have hpv:WK mz (Ma U t) (UQ (Sa U t))=.agg [sl mz 1 Z,.int .i64 (-1)]:=by
    unfold WK Sa;rw[hkT,←hix,rM];rfl
   have hsn:=hsn mz;rw[hpv]at hsn;simp[Bb,k0',k5',k6',k7',hx,hK,he,uN,ha,K5,A5,L3,tc];exact G0 hJ ⟨i+1,by omega,by simp[Bb],_,v',_,rfl,by simp[Bb],Bn d7 rfl,hsn⟩
 .obtain⟨B',v,acc,hB,k5,hg,hpl⟩:=hr;rw[A0m (by omega)]at hpl;simp[Ec,A6,k0,k6,A7];exact hΦ _ _ _ ⟨rfl,B',v,acc,hB,by simp[k5],hg,hpl⟩
theorem jH (m:I6) (S U:G7) (hU:UOk U) (hUl:U.length<=1048576) (kn0:List Bool) (hk0:uU S U kn0) (k kp:Nat) (acc:G6) (F:List Fam) (hk:k<F.length) (hkp:F[kp]?=some ⟨acc,2,false⟩) (P4:k≠kp) (hpl:Vo U U acc)
  (fr:Fr) (h:AH) (hH:∃B,h=⟨B,F.set k ⟨kn0.map AV.bool,1,true⟩⟩) (hl:fr.length=137) (h10:A0 fr 10=.bool true) (h1:A0 fr 1=sl m 4 (A4 U)) (h7:A0 fr 7=.sl kp U.length 0 U.length) (h8:A0 fr 8=.sl k U.length 0 U.length) :
  B6 (lp (A2 (K8 Q) (D6 j7) HI) (fr,h)) λe C3 h'=>Kp HI.wr fr C3/\(e=.exit 4/\∃(kn:List Bool) (B:List (List AV)),h'=⟨B,F.set k ⟨kn.map AV.bool,1,true⟩⟩/\uU S U kn/\(∀j,kn0.getD j false=true->kn.getD j false=true)/\∀j,j<U.length->ClA U kn j):=by
 refine A9 rfl fr (λn C3 h'=>∃(kn:List Bool) (c:Bool) (B:List (List AV)),A0 C3 10=.bool c/\h'=⟨B,F.set k ⟨kn.map AV.bool,1,true⟩⟩/\uU S U kn/\(∀j,kn0.getD j false=true->kn.getD j false=true)/\(c=true/\n=kP kn+1\/c=false/\∀j,j<U.length->ClA U kn j)) ?_ (kP kn0+1) h ⟨kn0,true,hH.choose,h10,hH.choose_spec,hk0,λ_ h=>h,.inl ⟨rfl,rfl⟩⟩;rintro J Φ hJ hΦ n D4 H1 K ⟨kn,c,B,k10,rfl,hK,hmo,hc⟩;have A6:=K.1.trans hl;have k1:=A8 K 1 h1;have k7:=A8 K 7 h7;have k8:=A8 K 8 h8;clear K;rcases hc with ⟨rfl,rfl⟩|⟨rfl,Gk⟩
 .simp[HI,A6,k10];refine B6.mono (jG m S U hU hUl kn hK k kp acc F hk hkp P4 hpl _ _ ?_ ⟨B,rfl⟩ ?_ ?_ ?_ ?_ ?_) ?_<;>first|(simp[A6,k1,k7,k8];done)|skip
  rintro e Q6 h2 ⟨K,rfl,kn',c,B',k10',rfl,hP⟩;simp;cases c with
  |true=>exact⟨kP kn'+1,by have:=hP.chg rfl;omega,hJ _ _ _ ⟨kn',true,B',k10',rfl,hP.kns,λj hj=>hP.mono j (hmo j hj),.inl ⟨rfl,rfl⟩⟩⟩
  |false =>
   obtain⟨e1,e2⟩:=hP.stay rfl;subst e1;exact⟨0,by omega,hJ _ _ _ ⟨kn',false,B',k10',rfl,hK,hmo,.inr ⟨rfl,e2⟩⟩⟩
 .simp[HI,A6,k10];exact hΦ _ _ _ ⟨rfl,kn,B,rfl,hK,hmo,Gk⟩
theorem jF (m:I6) (U:G7) (kn:List Bool) (k:Nat) (hUl:U.length<=1048576) (hkn:kn.length=U.length) (fr:Fr) (h:AH) (h14:A0 fr 14=.vs true 0 []) (hF:h.fams[k]?=some ⟨kn.map AV.bool,1,true⟩) (hl:fr.length=137) (h1:A0 fr 1=sl m 4 (A4 U)) (h8:A0 fr 8=.sl k U.length 0 U.length) (h15:A0 fr 15=.int .i64 0) :
  B6 (lp (A2 (K8 Q) (D6 j7) EZ) (fr,h)) λe C3 h'=>Kp EZ.wr fr C3/\e=.exit 10/\KM false 4 (A4 (s8 U kn)) (A0 C3 14) h':=by
 refine A9 rfl fr (λn fr h'=>∃(i:Nat),i+n=U.length/\A0 fr 15=.int .i64 (i:Nat)/\(∃v,A0 fr 14=v/\h'.fams[k]?=some ⟨kn.map AV.bool,1,true⟩/\KM false 4 (A4 (s8 (U.take i) kn)) v h')) ?_ U.length h ⟨0,by omega,h15,_,h14,hF,Wd _ _ _⟩;rintro J Φ hJ hΦ n D4 H1 K ⟨i,hi,k15,hr⟩;have A6:=K.1.trans hl;have k1:=A8 K 1 h1;have k8:=A8 K 8 h8;clear K;by_cases A7:i<U.length
 .have L3:=C6 i (by omega);obtain⟨v,k14,hF1,hg⟩:=hr;obtain⟨bx,F⟩:=H1;simp only at hF1;have hx:=I0 A7;have htk:=ac (kn:=kn) A7 hkn;have hpl:=YS (U.take i) kn;rw[A0p]at hpl;clear hF;have hgd:kn[i]?=some (kn.getD i false):=by rw[A0c,A0Z (by omega)];rfl
  obtain⟨X,hX⟩:∃X,kn.map AV.bool=X:=⟨_,rfl⟩;have hXl:X.length=U.length:=by rw[←hX,A0b,hkn]
  have hy:X[i]'(by omega)=.bool (kn.getD i false):=by
   have h1:X[i]?=some (.bool (kn.getD i false)):=by rw[←hX,A0n,hgd];rfl
   rw[A0Z (by omega)]at h1;exact Option.some.inj h1
  rw[hX]at hF1;by_cases hb:kn.getD i false=true
  .rw[hb]at hy htk;rw[if_pos rfl]at htk;obtain⟨v',F',ha,d7,hlow⟩:=OJ (c:=D6 j7) (bytes:=56) (x:=sl (true,true) 4 [B9 U[i]]) (ys:=[B9 U[i]]) hg (N0 _ _ _ _) (by simp only[H3,maxLen,List.length_singleton,C9,A0b];omega);rw[show A4 (s8 (U.take i) kn)++[B9 U[i]]=A4 (s8 (U.take (i+1)) kn) from by rw[htk];simp[C9]]at d7;have hF2:F'[k]?=some ⟨X,1,true⟩:=by
    rw[hlow k (H4 hF1) (λn o l e=>?_)]
    .exact hF1
    .rcases hg with ⟨b,rfl⟩|⟨_,k',rfl,EC⟩
     .cases e
     .cases e;simp only at EC;rw[hF1]at EC;cases EC
   clear hlow hg htk;generalize U[i]=t at *
   simp[EZ,A6,k1,k8,k15,A7,L3,k14,hx,hF1,hXl,hy,A5,ha];exact G0 hJ ⟨i+1,by omega,by simp[A6],v',by simp[A6],by rw[hX];exact hF2,d7⟩
  .have hb':kn.getD i false=false:=by simpa using hb
   rw[hb']at hy htk;rw[if_neg (by simp),List.append_nil]at htk;rw[←htk]at hg;simp[EZ,A6,k1,k8,k15,A7,L3,hF1,hXl,hy];exact G0 hJ ⟨i+1,by omega,by simp[A6],v,by simp[k14],by rw[hX];exact hF1,hg⟩
 .obtain⟨v,k14,hF1,hg⟩:=hr;rw[A0m (by omega)]at hg;simp[EZ,A6,k1,k15,A7];exact hΦ _ _ _ ⟨rfl,by simp[k14];exact hg⟩
theorem pu (m:I6) (U:G7) (hU:UOk U) (hUl:U.length<=1048576):∃v F acc,WW true ⟨[[.mbox (U.map GR) (Jc U.length)]],[]⟩ (rc Q Q9 [sl m 4 (A4 U),.mp 0] ⟨[[.mbox (U.map GR) (Jc U.length)]],[]⟩)=some (v,⟨[[.mbox (U.map GR) (Jc U.length)]],F⟩)/\EB 2 acc v ⟨[[.mbox (U.map GR) (Jc U.length)]],F⟩/\Vo U U acc:=by
 suffices hq:∃v h',rc Q Q9 [sl m 4 (A4 U),.mp 0] ⟨[[.mbox (U.map GR) (Jc U.length)]],[]⟩=some (v,h')/\∃B acc,h'.boxes=[[.mbox (U.map GR) (Jc U.length)]]++B/\EB 2 acc v h'/\Vo U U acc by
  obtain⟨v,h',h1,B,acc,h2,h3,h4⟩:=hq;have hn:Pg v=true:=by rcases h3 with ⟨_,rfl⟩|⟨_,k,rfl,_⟩<;>rfl
  exact⟨v,h'.fams,acc,NE h1 hn ⟨B,h2⟩,Bn h3 rfl,h4⟩
 refine Dm No λfr hl h0 h1=>?_;simp[No]at hl h0 h1;simp[No];refine B6.mono (cC m U hU.ok hUl hU.kid hU.key _ _ ?_ ?_ ?_ ?_ ?_ ?_) ?_<;>first|(simp[hl,h0,h1];done)|skip
 rintro e D4 ⟨bx,F⟩ ⟨K,rfl,B',v,acc,hB,k5,hg,hpl⟩;have A6:D4.length=64:=K.1.trans (by simp[hl]);obtain⟨c1,c2,c3⟩:=L6 hg;simp only at hB;simp[A6,k5];exact⟨⟨B',hB⟩,acc,hg,hpl⟩
theorem fP {U:G7}:∀{S:G7} {kn:List Bool} (_:∀s∈S,Su U s<kn.length) (j:Nat),(OR U S kn).getD j false=true↔kn.getD j false=true\/∃s∈S,Su U s=j
 | [],kn,_,j=>by simp[OR]
 |s::S,kn,h,j=>by
  have hs:=h s A0h;have ih:=fP (U:=U) (S:=S) (kn:=kn.set (Su U s) true) (λx hx=>by rw[A0u];exact h x (A0i _ hx)) j;show (OR U S (kn.set (Su U s) true)).getD j false=true↔_;rw[ih,Pc hs,A04,decide_eq_true_iff];constructor
  .rintro((h1|h1)|⟨x,hx,h1⟩)
   .exact .inr ⟨s,A0h,h1⟩
   .exact .inl h1
   .exact .inr ⟨x,A0i _ hx,h1⟩
  .rintro(h1|⟨x,hx,h1⟩)
   .exact .inl (.inr h1)
   .rcases A1A.1 hx with rfl|hx
    .exact .inl (.inl h1)
    .exact .inr ⟨x,hx,h1⟩
theorem vq (ms mu:I6) (S U:G7) (hU:UOk U) (hU0:0<U.length) (hUl:U.length<=1048576) (hS:∀x∈S,OkT x/\K4 U x=true) (hSl:S.length<=1048576) :
  ∃(R:List Tm) (m':Bool×Bool),pc Q j7 [sl ms 4 (A4 S),sl mu 4 (A4 U)]=some (sl m' 4 (A4 R))/\R.length<=U.length/\(∀x∈R,x∈U)/\∀e,e∈R.map E3↔Kn S U e:=by
 suffices h:∃v,pc Q j7 [sl ms 4 (A4 S),sl mu 4 (A4 U)]=some v/\∃q:List Tm×(Bool×Bool),v=sl q.2 4 (A4 q.1)/\q.1.length<=U.length/\(∀x∈q.1,x∈U)/\∀e,e∈q.1.map E3↔Kn S U e by
  obtain⟨v,h1,q,rfl,h2⟩:=h;exact⟨q.1,q.2,h1,h2⟩
 obtain⟨v,F,acc,hPl,hg,hpl⟩:=pu mu U hU hUl;obtain⟨kp,rfl,hkp⟩:∃kp,v=.sl kp U.length 0 U.length/\F[kp]?=some ⟨acc,2,false⟩:=by
  have hal:acc.length=U.length:=hpl.1;rcases hg with ⟨rfl,_⟩|⟨_,kp,rfl,hk⟩
  .simp at hal;omega
  .exact⟨kp,by rw[hal],hk⟩
 have hkpl:=H4 hkp;have hkn0:(A0j U.length false).map AV.bool=A0j U.length (.bool false):=List.map_replicate;have hix:∀s∈S,Su U s<(A0j U.length false).length:=λs hs=>by rw[A08];exact RT (hS s hs).2
 have hmk:=fP hix;have hK0:uU S U (OR U S (A0j U.length false)):=by
  refine⟨by rw[aD,A08],λj t ht hj=>?_⟩;rcases (hmk j).1 hj with h|⟨s,hs,rfl⟩
  .rw[A0c,List.getElem?_replicate]at h;split at h<;>cases h
  .obtain⟨x,hx,e⟩:=kh (hS s hs).2;rw[ht]at hx;cases hx;exact .base _ (by rw[e];exact A0a hs)
 refine Sz Qf λΨ hΨ fr hl h0 h1=>?_;simp[Qf]at hl h0 h1;simp[Qf,hl];refine B6.mono (jJ mu U hUl hU.srt hU.ok _ _ ?_ ?_ ?_ ?_ ?_) ?_<;>first|(simp[hl,h1];done)|skip
 rintro e D4 DD ⟨K,rfl,rfl⟩;have A6:D4.length=137:=K.1.trans (by simp[hl]);have k0a:A0 D4 0=sl ms 4 (A4 S):=A8 K 0 (by simp[h0]);have k1a:A0 D4 1=sl mu 4 (A4 U):=A8 K 1 (by simp[h1]);have k5a:A0 D4 5=.mp 0:=A8 K 5 (by simp[hl]);clear K;have r1:U.length<=H3:=by simp only[H3];omega
 have r2:U.length<=maxLen:=by simp only[maxLen];omega
 obtain⟨G,hG⟩:∃G,F++[(⟨(A0j U.length false).map AV.bool,1,true⟩:Fam)]=G:=⟨_,rfl⟩;have hGk:G[F.length]?=some ⟨(A0j U.length false).map AV.bool,1,true⟩:=by rw[←hG];simp
 have hGp:G[kp]?=some ⟨acc,2,false⟩:=by rw[←hG,A0l hkpl];exact hkp
 have hGl:=H4 hGk;rw[hkn0]at hG;simp[A6,k1a,k5a,hPl,r1,r2,hG];refine B6.mono (jI ms S U (A0j U.length false) F.length [[.mbox (U.map GR) (Jc U.length)]] G hSl hS hU.ok (by simp) hUl rfl hGk _ _ rfl ?_ ?_ ?_ ?_ ?_) ?_<;>first|(simp[A6,k0a,k5a];done)|skip
 rintro e Q6 h2' ⟨K,rfl,rfl⟩;have Bb:Q6.length=137:=K.1.trans (by simp[A6]);have k1b:A0 Q6 1=sl mu 4 (A4 U):=A8 K 1 (by simp[k1a]);have k7b:A0 Q6 7=.sl kp U.length 0 U.length:=A8 K 7 (by simp[A6]);have k8b:A0 Q6 8=.sl F.length U.length 0 U.length:=A8 K 8 (by simp[A6]);clear K;generalize OR U S (A0j U.length false)=kn0 at *
 simp;refine B6.mono (jH mu S U hU hUl kn0 hK0 F.length kp acc G hGl hGp (by omega) hpl _ _ ⟨_,rfl⟩ ?_ ?_ ?_ ?_ ?_) ?_<;>first|(simp[Bb,k1b,k7b,k8b];done)|skip
 rintro e fr3 h3' ⟨K,rfl,kn,B3,rfl,hK1,hmo,Gk⟩;have hl3:fr3.length=137:=K.1.trans (by simp[Bb]);have k1c:A0 fr3 1=sl mu 4 (A4 U):=A8 K 1 (by simp[k1b]);have k8c:A0 fr3 8=.sl F.length U.length 0 U.length:=A8 K 8 (by simp[k8b]);clear K;simp;refine B6.mono (jF mu U kn F.length hUl hK1.1 _ _ ?_ ?_ ?_ ?_ ?_ ?_) ?_<;>first|(simp[hl3,k1c,k8c,hGl];done)|skip
 rintro e fr4 ⟨b4,F4⟩ ⟨K,rfl,hg4⟩;have hl4:fr4.length=137:=K.1.trans (by simp[hl3]);obtain⟨mm,hf⟩:=Pr hg4;simp only at hf;simp[hl4,hf];refine hΨ _ ⟨(s8 U kn,mm),rfl,YS _ _,λx hx=>?_,λe=>?_⟩
 .obtain⟨j,h1,-⟩:=Sl.1 hx;exact A0e h1
 .constructor
  .intro he;obtain⟨j,t,h1,h2,rfl⟩:=Sm.1 he;exact hK1.2 j t h1 h2
  .intro he;refine xt (T:=s8 U kn) (λe he=>?_) (eD hU Gk) he;obtain⟨s,hs,rfl⟩:=A0g.1 he;obtain⟨x,hx,e⟩:=kh (hS s hs).2;exact Sm.2 ⟨_,x,hx,hmo _ ((hmk _).2 (.inr ⟨s,hs,rfl⟩)),e⟩
theorem jD (mu:I6) (U:G7) (hU:UOk U) (hUl:U.length<=1048576) (fr:Fr) (h:AH) (h5:A0 fr 5=.bool true) (hl:fr.length=57) (h1:A0 fr 1=sl mu 4 (A4 U)) (h6:A0 fr 6=.int .i64 0) :
  B6 (lp (A2 (K8 Q) (D6 Fg) DV) (fr,h)) λe C3 h'=>Kp DV.wr fr C3/\e=.exit 0/\A0 C3 5=.bool true:=by
 refine A9 rfl fr (λn fr h'=>∃(i:Nat),i+n=U.length/\A0 fr 6=.int .i64 (i:Nat)/\A0 fr 5=.bool true) ?_ U.length h ⟨0,by omega,h6,h5⟩;rintro J Φ hJ hΦ n D4 H1 K ⟨i,hi,k6,hr⟩;have A6:=K.1.trans hl;have k1:=A8 K 1 h1;clear K;by_cases A7:i<U.length
 .have L3:=C6 i (by omega);have hx:=I0 A7;have ho:=hU.ok _ (A0d A7);have hA:=cd U[i] ho.nm;generalize U[i]=t at *
  simp[DV,A6,k1,k6,A7,L3,hr,hx,hA];exact G0 hJ ⟨i+1,by omega,by simp[A6],by simp[A6]⟩
 .simp[DV,A6,k1,k6,A7];exact hΦ _ _ _ ⟨rfl,by simp[hr]⟩
theorem ZO (ms mu:I6) (S U:G7) (hU:UOk U) (hU0:0<U.length) (hUl:U.length<=1048576) (hS:∀x∈S,OkT x/\K4 U x=true) (hSl:S.length<=1048576) :
  ∃(R:List Tm) (m':Bool×Bool),pc Q Fg [sl ms 4 (A4 S),sl mu 4 (A4 U)]=some (sl m' 4 (A4 R))/\R.length<=U.length/\(∀x∈R,x∈U)/\∀e,e∈R.map E3↔Kn S U e:=by
 obtain⟨R,m',hF,h1,h2,h3⟩:=vq ms mu S U hU hU0 hUl hS hSl;refine⟨R,m',?_,h1,h2,h3⟩;refine N3 MJ λfr hl h0 h1=>?_;simp[MJ]at hl h0 h1;simp[MJ];refine B6.mono (jD mu U hU hUl _ _ ?_ ?_ ?_ ?_) ?_<;>first|(simp[hl,h1];done)|skip
 rintro e D4 DD ⟨K,rfl,k5⟩;have A6:D4.length=57:=K.1.trans (by simp[hl]);have k0':A0 D4 0=sl ms 4 (A4 S):=A8 K 0 (by simp[h0]);have k1':A0 D4 1=sl mu 4 (A4 U):=A8 K 1 (by simp[h1]);simp[A6,k5,k0',k1',hF]
theorem Wp {l U:G7} (h:L9 U (alls l)) {y x:Tm} (hy:K4 U y=true) (hx:x∈y.kids):K4 U x=true:=by
 rw[V8,h.2]at hy ⊢;obtain⟨w,hw,e⟩:=A0g.1 hy;obtain⟨-,-,-,q4⟩:=MW e;rw[E4,E4]at q4;have h1:E3 x∈w.kids.map E3:=by rw[q4];exact A0a hx
 obtain⟨z,hz,e2⟩:=A0g.1 h1;rw[←e2];refine A0a ?_;rw[G3]at hw ⊢;obtain⟨v,hv,hw⟩:=A0x.1 hw;refine A0x.2 ⟨v,hv,Zc _ v (A0k _) w hw z ?_⟩;rw[AL w];refine A0i _ ?_;rw[G3];exact A0x.2 ⟨z,hz,by rw[AL];exact A0h⟩
theorem yo {l U:G7} (hg:∀x∈l,OkT x) (h:L9 U (alls l)):UOk U:=by
 have ok:=OkT.set h (OkT.alls hg);have self:∀u∈U,K4 U u=true:=λu hu=>V8.2 (A0a hu);refine⟨h.1,ok,λu hu x hx=>Wp h (self u hu) hx,λu hu x hx=>?_⟩;have ho:=ok u hu;unfold JT at hx;by_cases q1:q8 u (bs [101,110,99])=true
 .rw[if_pos q1]at hx;obtain⟨a,b,BI⟩:=S0 ho q1 (.inr (.inl rfl));have k1:J0 u 1=b:=by simp[J0,BI]
  have bm:b∈u.kids:=by rw[BI];simp
  rw[k1,Option.some.injEq]at hx;subst hx;exact⟨ho.kid bm,Wp h (self u hu) bm⟩
 .rw[if_neg q1]at hx;by_cases q2:(q8 u (bs [97,101,110,99])&&q8 (J0 u 1) (bs [112,107]))=true
  .rw[if_pos q2]at hx;rw[A0o]at q2;obtain⟨a,b,BI⟩:=S0 ho q2.1 (.inr (.inr (.inl rfl)));have k1:J0 u 1=b:=by simp[J0,BI]
   have bm:b∈u.kids:=by rw[BI];simp
   rw[k1]at hx q2;obtain⟨p1,p2⟩:=Io.1 q2.2;have hb:=ho.kid bm;obtain⟨c,hc⟩:=hb.one p1 (by rw[p2];exact .inl rfl);have k0:J0 b 0=c:=by simp[J0,hc]
   have cm:c∈b.kids:=by rw[hc];simp
   rw[k0,Option.some.injEq]at hx;subst hx;exact⟨hb.kid cm,Wp h (Wp h (self u hu) bm) cm⟩
  .rw[if_neg q2]at hx;cases hx
theorem Zd {l:G7} {x:Tm} (hx:x∈l):x∈alls l:=by
 rw[G3];exact A0x.2 ⟨x,hx,by rw[AL];exact A0h⟩
theorem gB (m mu:I6) (k l U:G7) (hk:∀x∈k,GoodT x) (hl:∀x∈l,GoodT x) (P4:k++l≠[]) (Bs:k.length<=1048576) (hUl:U.length<=24400) (x4:L9 U (alls (k++l))) :
  ∃S ms R mr,pc Q Ez [sl m 4 (A4 k)]=some (sl ms 4 (A4 S))/\pc Q Fg [sl ms 4 (A4 S),sl mu 4 (A4 U)]=some (sl mr 4 (A4 R))/\R.length<=24400/\(∀x∈R,OkT x)/\∀e,e∈R.map E3↔Kn k (alls (k++l)) e:=by
 obtain⟨S,ms,hS,hSset,hSsub,hSl⟩:=ji m k Bs (λx hx=>by have:=(hk x hx).size;omega);have BJ:∀x∈k++l,OkT x:=λx hx=>by
  rcases A1I.1 hx with h|h
  .exact(hk x h).ok
  .exact(hl x h).ok
 have hU:=yo BJ x4;have hU0:0<U.length:=by
  obtain⟨x,hx⟩:=List.exists_mem_of_ne_nil _ P4;have:=(x4.2 _).2 (A0a (f:=E3) (Zd hx));obtain⟨y,hy,-⟩:=A0g.1 this;exact List.length_pos_of_mem hy
 obtain⟨R,mr,hR,hRl,hRs,hRk⟩:=ZO ms mu S U hU hU0 (by omega) (λx hx=>⟨(hk x (hSsub x hx)).ok,V8.2 ((x4.2 _).2 (A0a (Zd (List.mem_append_left _ (hSsub x hx)))))⟩) (by omega);exact⟨S,ms,R,mr,hS,hR,by omega,λx hx=>hU.ok x (hRs x hx),λe=>(hRk e).trans ⟨PO (λe=>(hSset.2 e).1) (λe=>(x4.2 e).1),PO (λe=>(hSset.2 e).2) (λe=>(x4.2 e).2)⟩⟩
open Classical in
theorem ck (m:I6) (k:G7) (t:Tm) (hk:∀x∈k,GoodT x) (ht:GoodT t) (Bs:k.length<=1048576) :
  pc Q DJ [sl m 4 (A4 k),B9 t]=some (.tup [.bool (S7 k t).2,.int .i64 (S7 k t).1]):=by
 obtain⟨U,mu,hU,hU2⟩:=YN m k t hk ht Bs;unfold Wc at hU;by_cases h60:k.length<=60
 .obtain⟨x4,hUl,-⟩:=hU2 h60;have hc:=Wh x4;unfold S7;rw[hc];by_cases hc2:60<k.length\/200<U.length
  .rw[if_pos hc2]at hU ⊢;refine N3 S4 λfr hl h0 h1=>?_;simp[S4]at hl h0 h1;simp[S4,hl,h0,h1,hU]
  .rw[if_neg hc2]at hU ⊢;obtain⟨S,ms,R,mr,hS,hR,hRl,hRo,hRk⟩:=gB m mu k [t] U hk (λx hx=>by rw[A0v.1 hx];exact ht) (by simp) Bs hUl x4;have hH:=pd mr R t (by omega) (λx hx=>by have:=(hRo x hx).size;omega) (by have:=ht.size;omega);have he:K4 R t=decide (UC k t):=by
    rw[A0t,V8,hRk,decide_eq_true_iff];exact Iff.rfl
   rw[he]at hH;generalize decide (UC k t)=b at *
   refine N3 S4 λfr hl h0 h1=>?_;simp[S4]at hl h0 h1;simp[S4,hl,h0,h1,hU,hS,hR,hH]
 .have hc2:60<k.length\/200<U.length:=.inl (by omega);rw[if_pos hc2]at hU;unfold S7;rw[if_pos (.inl (by omega))];refine N3 S4 λfr hl h0 h1=>?_;simp[S4]at hl h0 h1;simp[S4,hl,h0,h1,hU]
theorem uR {y:Tm} (h:Hv y):Hv (E3 y):=by
 intro z hz;rw[VK]at hz;obtain⟨w,hw,rfl⟩:=A0g.1 hz;have:=h w hw;obtain⟨k,nm,s,m,l⟩:=w;simp only[NG,E3,Tm.kind,Tm.sort,Tm.kids,Tm.name]at this ⊢;rw[kc,E4,A0b];rcases this with ⟨q1,q2,q3,q4,q5,q6⟩|h
 .exact .inl ⟨q1,q2,q3,by simp[q4],q5,q6⟩
 .exact .inr h
theorem eZ {r n:Nar} (hR:Right n) (he:Py r=CA (J9 (B5 n) (G2 n)) n) {me:J1} {role q:Nat} (hme:n.roles[role]?=some me) {x:Tm} (h:x∈bn (false,true) r me role q):Hv x/\x.size<=40:=by
 have h1:E3 x∈(bn (false,true) r me role q).map E3:=A0a h;rw[bo he,←RV (m:=(true,true)) hR.dec he hme]at h1;obtain⟨y,hy,e⟩:=A0g.1 h1;obtain⟨g1,g2⟩:=UR hR he (A0e hme) hy;refine⟨Pn (by rw[←e];exact uR g1),?_⟩;rw[←CK _ x (A0k _),←e,CK _ y (A0k _)];exact g2
theorem lN {r n:Nar} (hR:Right n) (he:Py r=CA (J9 (B5 n) (G2 n)) n) {me:J1} {role:Nat} (hme:n.roles[role]?=some me) (q:Nat):(bn (false,true) r me role q).length<=10000:=by
 have h1:=congrArg List.length ((bo (m:=(false,true)) (me:=me) (role:=role) he q).trans (RV (m:=(true,true)) hR.dec he hme q).symm);rw[A0b,A0b]at h1;rw[h1];exact Wq (Iu hR.nar he).1
theorem nY (r:Nar) (a:J1) (B8:r.roles.length<=1048576) (fr:Fr) (h:AH) (hh:h.boxes=[(G4 r).cells]) (hl:fr.length=21) (h1:A0 fr 1=.str a) (h2:A0 fr 2=.ptr 0 0) (h5:A0 fr 5=.int .i64 0) :
  B6 (lp (A2 (K8 Q) (D6 IU) Cr) (fr,h)) λe C3 h'=>Kp Cr.wr fr C3/\((e=.exit 0/\idx (U7 a) r.roles=-1)\/(e=.ret/\A0 C3 4=.int .i64 (idx (U7 a) r.roles))):=by
 refine A9 rfl fr (λn fr h'=>∃(i:Nat),i+n=r.roles.length/\A0 fr 5=.int .i64 (i:Nat)/\h'.boxes=[(G4 r).cells]/\Q2 (U7 a) i (r.roles.drop i)=idx (U7 a) r.roles) ?_ r.roles.length h ⟨0,by omega,h5,hh,rfl⟩;rintro J Φ hJ hΦ n D4 H1 K ⟨i,hi,k5,hr⟩;have A6:=K.1.trans hl;have k1:=A8 K 1 h1;have k2:=A8 K 2 h2;clear K;by_cases A7:i<r.roles.length
 .have L3:=C6 i (by omega);obtain⟨hB,hr⟩:=hr;obtain⟨bx,F⟩:=H1;simp only at hB;subst hB;have rb:=E5 r;have hx:=G1 (f:=AV.str) (A0Z A7);rw[A0y A7,Q2]at hr;generalize r.roles[i]=s at *
  by_cases hq:s=a
  .rw[if_pos ((GW a s).2 hq.symm)]at hr;simp[Cr,A6,k1,k2,k5,A7,rb,hx,hq];exact hΦ _ _ _ (.inr ⟨rfl,by simp[A6,hr]⟩)
  .rw[if_neg (λh=>hq ((GW a s).1 h).symm)]at hr;simp[Cr,A6,k1,k2,k5,A7,L3,rb,hx,hq];exact G0 hJ ⟨i+1,by omega,by simp[A6],by rw[rb],hr⟩
 .obtain⟨hB,hr⟩:=hr;obtain⟨bx,F⟩:=H1;simp only at hB;subst hB;have rb:=E5 r;rw[A0w (by omega),Q2]at hr;simp[Cr,A6,k2,k5,A7,rb];exact hΦ _ _ _ (.inl ⟨rfl,hr.symm⟩)
theorem aX (r:Nar) (a:J1) (B8:r.roles.length<=1048576):pc Q IU [G4 r,.str a]=some (.int .i64 (idx (U7 a) r.roles)):=by
 have rb:=E5 r;refine N3 PF λfr hl h0 h1=>?_;simp[PF]at hl h0 h1;simp[PF,h0,rb];refine B6.mono (nY r a B8 _ _ ?_ ?_ ?_ ?_ ?_) ?_<;>first|(simp[hl,h1,rb];done)|skip
 rintro e D4 ⟨bx,F1⟩ ⟨K,⟨rfl,he⟩|⟨rfl,k4⟩⟩
 .have A6:D4.length=21:=K.1.trans (by simp[hl]);simp[A6,he]
 .simp[k4]
theorem nZ (R kk:G7) (mr mk:I6) (B8:R.length<=1000) (hR:∀x∈R,GoodT x/\x.size<=1000) (hk:∀x∈kk,GoodT x) (Bs:kk.length<=10000) (q:Int) (C0 Z SC:G6) (hZ:Z.length=4) (hZm:ED Z=false) (fr:Fr) (h:AH) (B0:List (List AV)) (hB0:h.boxes=C0::Z::SC::B0) (hl:fr.length=96) (h3:A0 fr 3=.ptr 1 0) (h7:A0 fr 7=.int .i64 q) (h8:A0 fr 8=sl mk 4 (A4 kk)) (h9:A0 fr 9=.bool false) (h11:A0 fr 11=sl mr 4 (A4 R)) (h12:A0 fr 12=.int .i64 0) :
  B6 (lp (A2 (K8 Q) (D6 Y7) K3) (fr,h)) λe C3 h'=>Kp K3.wr fr C3/\((e=.exit 2/\Gj kk q R=none/\∃B,h'.boxes=C0::Z::SC::B)\/(e=.ret/\∃(a c:Int) (t:Tm),Gj kk q R=some (a,t,c)/\A0 C3 2=.int .i64 a/\A0 C3 4=.int .i64 c/\∃B,h'.boxes=C0::(B9 t).cells::SC::B)):=by
 refine A9 rfl fr (λn fr h'=>∃(i:Nat),i+n=R.length/\A0 fr 12=.int .i64 (i:Nat)/\(∃B,h'.boxes=C0::Z::SC::B)/\Gj kk q (R.drop i)=Gj kk q R) ?_ R.length h ⟨0,by omega,h12,⟨_,hB0⟩,rfl⟩;rintro J Φ hJ hΦ n D4 H1 K ⟨i,hi,k12,hr⟩;have A6:=K.1.trans hl;have k3:=A8 K 3 h3;have k7:=A8 K 7 h7;have k8:=A8 K 8 h8;have k9:=A8 K 9 h9;have k11:=A8 K 11 h11;clear K;by_cases A7:i<R.length
 .have L3:=C6 i (by omega);obtain⟨⟨B,hB⟩,hr⟩:=hr;obtain⟨bx,fams⟩:=H1;simp only at hB;subst hB;have hx:=I0 A7;have hZd:Z.drop 4=[]:=A0w (by omega);rw[A0y A7,Gj]at hr;obtain⟨hg,J4⟩:=hR _ (A0d A7);generalize R[i]=t at *
  have hD:=ck mk kk t hk hg (by omega);generalize hd:S7 kk t=d at *
  obtain⟨de,db⟩:=d;simp only at hD hr;by_cases hde:de=0
  .subst hde;rw[if_neg (by simp)]at hr;cases db with
   |true =>
    simp only[if_true]at hr;simp[K3,A6,k8,k9,k11,k12,A7,L3,hx,hD];exact G0 hJ ⟨i+1,by omega,by simp[A6],⟨_,rfl⟩,hr⟩
   |false =>
    simp only[Bool.false_eq_true,if_false]at hr;simp[K3,A6,k3,k7,k8,k9,k11,k12,A7,hx,hD,hZ,hZm,K5];exact hΦ _ _ _ (.inr ⟨rfl,q,13,t,hr.symm,by simp[A6],by simp[A6],B,by simp[hZd]⟩)
  .rw[if_pos hde]at hr;simp[K3,A6,k3,k8,k9,k11,k12,A7,hx,hD,hde,C8,D8,hZ,hZm,K5];refine hΦ _ _ _ (.inr ⟨rfl,0,de,Tz,hr.symm,by simp[A6],by simp[A6],B,?_⟩);simp[Tz,Tm.kind,Tm.name,Tm.sort,Tm.cm,Tm.kids,A4,hZd];exact GT 4
 .obtain⟨⟨B,hB⟩,hr⟩:=hr;rw[A0w (by omega),Gj]at hr;simp[K3,A6,k11,k12,A7];exact hΦ _ _ _ (.inl ⟨rfl,hr.symm,B,hB⟩)
end Go.Abs.Q
