/- A part of the proof. -/
import Derived.Test.YtohjdamplbhdpaaGreatDoorSE16
set_option linter.all false
open List renaming getElem_mem->A0Z,getElem?_append_left->A0a,map_cons->A0b,map_nil->A0c,mem_singleton->A0e,take_succ_eq_append_getElem->A0g,length_singleton->A0h,length_map->A0i,map_append->A0j,drop_eq_getElem_cons->A0l,nil_append->A0m,drop_eq_nil_of_le->A0n,take_of_length_le->A0o,replicate->A0p,perm_singleton->A0q,append_assoc->A0s,cons_append->A0u,take_length->A0v,append_nil->A0w,length_nil->A0x,any_cons->A0z,any_nil->A00
open Bool renaming eq_iff_iff->A0d,eq_false_iff->A0k,and_eq_true->A0t,or_false->A0y
open Nat renaming le_refl->A0f,lt_or_eq_of_le->A0r
namespace Go.Abs.Q
open Go.Proofs
attribute [local simp] E6 E8 fin K1 H2 P7 M6 R4 R3
@[simp] theorem frz_pv (h:AH) (am:Bool) (cs:G6):KR h am (.pv cs)=some (.pv cs):=rfl
@[simp] theorem frz_fnc (h:AH) (am:Bool) (g:FuncId) (caps:G6):KR h am (.fn g caps)=if caps.all AV.flat=true then some (.fn g caps)else none:=rfl
@[simp] theorem tame_fnc (h:AH) (g:FuncId) (caps:G6):CS h (.fn g caps)=true:=rfl
@[simp] theorem tame_pv (h:AH) (cs:G6):CS h (.pv cs)=true:=rfl
@[simp] theorem flat_int (k:IntKind) (i:Int):AV.flat (.int k i)=true:=rfl
@[simp] theorem flat_str (s:J1):AV.flat (.str s)=true:=rfl
@[simp] theorem flat_pv (cs:G6):AV.flat (.pv cs)=true:=rfl
theorem eu (m:I6) (l:G7) (g:FuncId) (caps:G6) (p:Tm->Bool) (hg:C2 g=false) (B8:l.length<=1048576) (hfl:∀(h:AH) (x:Tm),Bq h true (B9 x::caps)=some (B9 x::caps)) (htm:∀h:AH,caps.all (CS h)=true) (hp:∀x∈l,pc Q g (B9 x::caps)=some (.bool (p x))) (fr:Fr) (h:AH) (hl:fr.length=19) (h0:A0 fr 0=sl m 4 (A4 l)) (h1:A0 fr 1=.fn g caps) (h7:A0 fr 7=.int .i64 l.length) (h8:A0 fr 8=.int .i64 0) :
  B6 (lp (A2 (K8 Q) (D6 Z4) Q1) (fr,h)) λe C3 h'=>Kp Q1.wr fr C3/\(e=.exit 0/\idx p l=-1\/e=.ret/\A0 C3 4=.int .i64 (idx p l)):=by
 refine A9 rfl fr (λn fr h'=>∃(i:Nat),i+n=l.length/\A0 fr 8=.int .i64 (i:Nat)/\Q2 p i (l.drop i)=idx p l) ?_ l.length h ⟨0,by omega,h8,rfl⟩;rintro J Φ hJ hΦ n D4 H1 K ⟨i,hi,k8,hr⟩;have A6:=K.1.trans hl;have k0:=A8 K 0 h0;have k1:=A8 K 1 h1;have k7:=A8 K 7 h7;clear K;by_cases A7:i<l.length
 .have L3:=C6 i (by omega);have hx:=I0 A7;have hP:=hp l[i] (A0Z A7);have hF:=λh=>hfl h l[i];rw[A0l A7]at hr;simp only[Q2]at hr;generalize l[i]=s at *
  by_cases hc:p s=true
  .rw[if_pos hc]at hr;rw[hc]at hP;simp[Q1,A6,k0,k1,k7,k8,A7,hx,hP,hF,htm,hg];exact hΦ _ _ _ (.inr ⟨rfl,by simp[A6,hr]⟩)
  .have hc':p s=false:=by simpa using hc
   rw[if_neg hc]at hr;rw[hc']at hP;simp[Q1,A6,k0,k1,k7,k8,A7,L3,hx,hP,hF,htm,hg];exact G0 hJ ⟨i+1,by omega,by simp[A6],hr⟩
 .rw[A0n (by omega)]at hr;simp[Q1,A6,k7,k8,A7];exact hΦ _ _ _ (.inl ⟨rfl,hr.symm⟩)
theorem Uc (m:I6) (l:G7) (g:FuncId) (caps:G6) (p:Tm->Bool) (hg:C2 g=false) (B8:l.length<=1048576)
  (hfl:∀(h:AH) (x:Tm),Bq h true (B9 x::caps)=some (B9 x::caps)) (htm:∀h:AH,caps.all (CS h)=true) (hca:caps.all AV.flat=true) (hp:∀x∈l,pc Q g (B9 x::caps)=some (.bool (p x))) :
  pc Q j8 [sl m 4 (A4 l),.fn g caps]=some (.bool (l.any p)):=by
 have hI:pc Q Z4 [sl m 4 (A4 l),.fn g caps]=some (.int .i64 (idx p l)):=by
  refine N3 Ej λfr hl h0 h1=>?_;simp[Ej]at hl h0 h1;simp[Ej,hl,h0];refine B6.mono (eu m l g caps p hg B8 hfl htm hp _ _ ?_ ?_ ?_ ?_ ?_) ?_<;>first|(simp[hl,h0,h1];done)|skip
  rintro e D4 DD ⟨K,⟨rfl,he⟩|⟨rfl,k4⟩⟩
  .have A6:D4.length=19:=K.1.trans (by simp[hl]);simp[A6,he]
  .simp[k4]
 have he:decide (0<=idx p l)=l.any p:=by
  rw[A0d,decide_eq_true_iff,idx,Dh]
 refine N3 CI λfr hl h0 h1=>?_;simp[CI]at hl h0 h1;simp[CI,hl,h0,h1,hI,hca];exact he
theorem eo (m:I6) (l:G7) (g:FuncId) (caps:G6) (p:Tm->Bool) (hg:C2 g=false) (B8:l.length<=1048576) (hfl:∀(h:AH) (x:Tm),Bq h true (B9 x::caps)=some (B9 x::caps)) (htm:∀h:AH,caps.all (CS h)=true) (hp:∀x∈l,pc Q g (B9 x::caps)=some (.bool (p x))) (fr:Fr) (h:AH) (hl:fr.length=19) (h0:A0 fr 0=sl m 4 (A4 l)) (h1:A0 fr 1=.fn g caps) (h7:A0 fr 7=.int .i64 l.length) (h8:A0 fr 8=.int .i64 0) :
  B6 (lp (A2 (K8 Q) (D6 S1) M9) (fr,h)) λe C3 h'=>Kp M9.wr fr C3/\(e=.exit 0/\idx p l=-1\/e=.ret/\A0 C3 4=.int .i64 (idx p l)):=by
 refine A9 rfl fr (λn fr h'=>∃(i:Nat),i+n=l.length/\A0 fr 8=.int .i64 (i:Nat)/\Q2 p i (l.drop i)=idx p l) ?_ l.length h ⟨0,by omega,h8,rfl⟩;rintro J Φ hJ hΦ n D4 H1 K ⟨i,hi,k8,hr⟩;have A6:=K.1.trans hl;have k0:=A8 K 0 h0;have k1:=A8 K 1 h1;have k7:=A8 K 7 h7;clear K;by_cases A7:i<l.length
 .have L3:=C6 i (by omega);have hx:=I0 A7;have hP:=hp l[i] (A0Z A7);have hF:=λh=>hfl h l[i];rw[A0l A7]at hr;simp only[Q2]at hr;generalize l[i]=s at *
  by_cases hc:p s=true
  .rw[if_pos hc]at hr;rw[hc]at hP;simp[M9,A6,k0,k1,k7,k8,A7,hx,hP,hF,htm,hg];exact hΦ _ _ _ (.inr ⟨rfl,by simp[A6,hr]⟩)
  .have hc':p s=false:=by simpa using hc
   rw[if_neg hc]at hr;rw[hc']at hP;simp[M9,A6,k0,k1,k7,k8,A7,L3,hx,hP,hF,htm,hg];exact G0 hJ ⟨i+1,by omega,by simp[A6],hr⟩
 .rw[A0n (by omega)]at hr;simp[M9,A6,k7,k8,A7];exact hΦ _ _ _ (.inl ⟨rfl,hr.symm⟩)
theorem Ub (m:I6) (l:G7) (g:FuncId) (caps:G6) (p:Tm->Bool) (hg:C2 g=false) (B8:l.length<=1048576)
  (hfl:∀(h:AH) (x:Tm),Bq h true (B9 x::caps)=some (B9 x::caps)) (htm:∀h:AH,caps.all (CS h)=true) (hca:caps.all AV.flat=true) (hp:∀x∈l,pc Q g (B9 x::caps)=some (.bool (p x))) :
  pc Q V1 [sl m 4 (A4 l),.fn g caps]=some (.bool (l.any p)):=by
 have hI:pc Q S1 [sl m 4 (A4 l),.fn g caps]=some (.int .i64 (idx p l)):=by
  refine N3 BS λfr hl h0 h1=>?_;simp[BS]at hl h0 h1;simp[BS,hl,h0];refine B6.mono (eo m l g caps p hg B8 hfl htm hp _ _ ?_ ?_ ?_ ?_ ?_) ?_<;>first|(simp[hl,h0,h1];done)|skip
  rintro e D4 DD ⟨K,⟨rfl,he⟩|⟨rfl,k4⟩⟩
  .have A6:D4.length=19:=K.1.trans (by simp[hl]);simp[A6,he]
  .simp[k4]
 have he:decide (0<=idx p l)=l.any p:=by
  rw[A0d,decide_eq_true_iff,idx,Dh]
 refine N3 AJ λfr hl h0 h1=>?_;simp[AJ]at hl h0 h1;simp[AJ,hl,h0,h1,hI,hca];exact he
def al:List ByteArray:=[bs [112,97,105,114],bs [101,110,99],bs [97,101,110,99],bs [112,107],bs [115,105,103,110],bs [104,97,115,104]]
def Fw (S:List Tm) (u:Tm):Bool:=EQ u al&&u.kids.all (K4 S)
theorem cg (m:I6) (S:G7) (hS:Y5 S) (B8:S.length<=1048576) (hs:∀x∈S,x.size<=1099511627776) (x:Tm) (hx:x.size<=1099511627776) :
  pc Q i8 [B9 x,.pv [sl m 4 (A4 S)]]=some (.bool (!K4 S x)):=by
 have hH:=Ko m S x hS (by omega) hs hx;refine N3 CC λfr hl h0 h1=>?_;simp[CC]at hl h0 h1;simp[CC,hl,h0,h1,hH]
theorem fi (m:I6) (S:G7) (hS:Y5 S) (B8:S.length<=1048576) (hs:∀x∈S,x.size<=1099511627776) (u:Tm) (hu:u.size<=1048576) :
  pc Q X2 [sl m 4 (A4 S),B9 u]=some (.bool (Fw S u)):=by
 have J4:=u.kids_size;have Bs:=Tm.length_le u.kids;have hI:=VX u (true,true) al (by decide);simp only[DS,al,A0b,A0c]at hI;change pc Q J6 _=some (.bool (EQ u al))at hI;have hC:=Uc u.cm u.kids i8 [.pv [sl m 4 (A4 S)]] (λx=>!K4 S x) rfl (by omega) (λh x=>by simp) (λh=>rfl) rfl
  (λx hx=>cg m S hS B8 hs x (by have:=Tm.size_le hx;omega))
 have he:(!(u.kids.any λx=>!K4 S x))=u.kids.all (K4 S):=by simp[List.all_eq_not_any_not]
 unfold Fw;rw[←he];generalize u.kids.any (λx=>!K4 S x)=b at *
 generalize EQ u al=c at *
 cases c with
 |false =>
  refine N3 R6 λfr hl h0 h1=>?_;simp[R6]at hl h0 h1;simp[R6,hl,h0,h1,hI,A5]
 |true =>
  refine N3 R6 λfr hl h0 h1=>?_;simp[R6]at hl h0 h1;simp[R6,hl,h0,h1,hI,A5,hC,CR]
def Qr (S:List Tm) (u t:Tm):Bool :=
 if q8 t (bs [112,97,105,114])then KU (J0 t 0) u||KU (J0 t 1) u
 else if q8 t (bs [115,105,103,110])then KU (J0 t 0) u
 else match JT t with
  |some k=>KU (J0 t 0) u&&K4 S k
  |none=>false
def Mk (S:List Tm) (u:Tm):Bool:=S.any (Qr S u)
theorem io (t:Tm) (nm:J1):EQ t [nm]=q8 t nm:=by
 unfold EQ q8;simp only[A0z,A00,A0y];congr 1;rw[A0d,GW,decide_eq_true_iff]
theorem xr (t:Tm) (a b:J1):EQ t [a,b]=(q8 t a||q8 t b):=by
 rw[←io,←io];unfold EQ;simp only[A0z,A00,A0y];cases decide (t.kind=3)<;>simp
theorem Rg (t:Tm) (nm:J1):pc Q J6 [B9 t,sl (true,true) 1 [.str nm]]=some (.bool (q8 t nm)):=by
 have hI:=VX t (true,true) [nm] (by simp);change pc Q J6 _=some (.bool (EQ t [nm]))at hI;rw[io]at hI;simpa only[DS,A0b,A0c]using hI
theorem sr (t:Tm) (a b:J1):pc Q J6 [B9 t,sl (true,true) 1 [.str a,.str b]]=some (.bool (q8 t a||q8 t b)):=by
 have hI:=VX t (true,true) [a,b] (by simp);change pc Q J6 _=some (.bool (EQ t [a,b]))at hI;rw[xr]at hI;simpa only[DS,A0b,A0c]using hI
theorem jq (m:I6) (S:G7) (hS:Y5 S) (B8:S.length<=1048576) (hs:∀x∈S,x.size<=1099511627776) (u t:Tm) (hu:u.size<=1048576) (ht:OkT t) :
  pc Q AM [B9 t,.pv (B9 u).cells,.pv [sl m 4 (A4 S)]]=some (.bool (Qr S u t)):=by
 have hP:=Rg t (bs [112,97,105,114]);have hG:=Rg t (bs [115,105,103,110]);have hE:=sr t (bs [101,110,99]) (bs [97,101,110,99]);have hts:=ht.size;have J4:=t.kids_size;unfold Qr;by_cases hp:q8 t (bs [112,97,105,114])=true
 .obtain⟨a,b,hk⟩:=S0 ht hp (.inl rfl);rw[hk]at J4;simp only[Tm.sizes]at J4;have hx0:IZ (A4 t.kids) 0=some (B9 a):=by rw[hk];rfl
  have hx1:IZ (A4 t.kids) 1=some (B9 b):=by rw[hk];rfl
  have e0:J0 t 0=a:=by simp[J0,hk]
  have e1:J0 t 1=b:=by simp[J0,hk]
  have q0:=Rj a u (by omega) (by omega);have q1:=Rj b u (by omega) (by omega);rw[if_pos hp,e0,e1];rw[hp]at hP;generalize KU a u=c0 at *
  generalize KU b u=c1 at *
  cases c0 with
  |true =>
   refine HC D2 λfr hl h0 h1 h2=>?_;simp[D2]at hl h0 h1 h2;simp[D2,hl,h0,h1,hP,hx0,q0,A5]
  |false =>
   refine HC D2 λfr hl h0 h1 h2=>?_;simp[D2]at hl h0 h1 h2;simp[D2,hl,h0,h1,hP,hx0,hx1,q0,q1,A5]
 .have hp':q8 t (bs [112,97,105,114])=false:=by simpa using hp
  rw[if_neg hp];rw[hp']at hP;by_cases hg:q8 t (bs [115,105,103,110])=true
  .obtain⟨a,b,hk⟩:=S0 ht hg (.inr (.inr (.inr (.inl rfl))));rw[hk]at J4;simp only[Tm.sizes]at J4;have hx0:IZ (A4 t.kids) 0=some (B9 a):=by rw[hk];rfl
   have e0:J0 t 0=a:=by simp[J0,hk]
   have q0:=Rj a u (by omega) (by omega);rw[if_pos hg,e0];rw[hg]at hG;refine HC D2 λfr hl h0 h1 h2=>?_;simp[D2]at hl h0 h1 h2;simp[D2,hl,h0,h1,hP,hG,hx0,q0,A5]
  .have d7:q8 t (bs [115,105,103,110])=false:=by simpa using hg
   rw[if_neg hg];rw[d7]at hG;by_cases he:q8 t (bs [101,110,99])=true\/q8 t (bs [97,101,110,99])=true
   .obtain⟨a,b,hk⟩:∃a b,t.kids=[a,b]:=by
     rcases he with he|he
     .exact S0 ht he (.inr (.inl rfl))
     .exact S0 ht he (.inr (.inr (.inl rfl)))
    rw[hk]at J4;simp only[Tm.sizes]at J4;have hx0:IZ (A4 t.kids) 0=some (B9 a):=by rw[hk];rfl
    have e0:J0 t 0=a:=by simp[J0,hk]
    have q0:=Rj a u (by omega) (by omega);have heE:(q8 t (bs [101,110,99])||q8 t (bs [97,101,110,99]))=true:=by simpa using he
    rw[heE]at hE;rcases yN t ht he with ⟨k,k',hk1,hk2,hK⟩|⟨hk1,hK⟩
    .have hkz:k'.size<=1099511627776:=by
      rw[Rq hk2];have:k.size<=t.size:=by
       unfold JT at hk1;have hb1:J0 t 1=b:=by simp[J0,hk]
       by_cases q1:q8 t (bs [101,110,99])=true
       .rw[if_pos q1,hb1]at hk1;cases hk1;omega
       .rw[if_neg q1,hb1]at hk1;by_cases q2:(q8 t (bs [97,101,110,99])&&q8 b (bs [112,107]))=true
        .rw[if_pos q2]at hk1;cases hk1;have hb:OkT b:=ht.kid (by rw[hk];simp);rw[A0t]at q2;obtain⟨p1,p2⟩:=Io.1 q2.2;obtain⟨c,hc⟩:=hb.one p1 (by rw[p2];exact .inl rfl);have hsz2:=b.kids_size;rw[hc]at hsz2;simp only[Tm.sizes]at hsz2;have:J0 b 0=c:=by simp[J0,hc]
         rw[this];omega
        .rw[if_neg q2]at hk1;cases hk1
      omega
     have hH:=Ko m S k' hS (by omega) hs hkz;rw[Wl hk2]at hH;rw[hk1,e0];generalize KU a u=c0 at *
     cases c0 with
     |true =>
      refine HC D2 λfr hl h0 h1 h2=>?_;simp[D2]at hl h0 h1 h2;simp[D2,hl,h0,h1,h2,hP,hG,hE,hx0,q0,hK,hH,A5]
     |false =>
      refine HC D2 λfr hl h0 h1 h2=>?_;simp[D2]at hl h0 h1 h2;simp[D2,hl,h0,h1,hP,hG,hE,hx0,q0,hK,A5]
    .rw[hk1];refine HC D2 λfr hl h0 h1 h2=>?_;simp[D2]at hl h0 h1 h2;simp[D2,hl,h0,hP,hG,hE,hK,A5]
   .have heE:(q8 t (bs [101,110,99])||q8 t (bs [97,101,110,99]))=false:=by
     rw[A0k,ne_eq,Bool.or_eq_true];exact he
    rw[heE]at hE;have hkn:JT t=none:=by
     unfold JT;rw[if_neg (λh=>he (.inl h)),if_neg];rw[A0t];exact λh=>he (.inr h.1)
    rw[hkn];refine HC D2 λfr hl h0 h1 h2=>?_;simp[D2]at hl h0 h1 h2;simp[D2,hl,h0,hP,hG,hE,A5]
theorem oz (m:I6) (S:G7) (hS:Y5 S) (B8:S.length<=1048576) (hs:∀x∈S,OkT x) (u:Tm) (hu:u.size<=1048576) :
  pc Q i9 [sl m 4 (A4 S),B9 u]=some (.bool (Mk S u)):=by
 have hs2:∀x∈S,x.size<=1099511627776:=λx hx=>by have:=(hs x hx).size;omega
 have hC:=Ub m S AM [.pv (B9 u).cells,.pv [sl m 4 (A4 S)]] (Qr S u) rfl B8 (λh x=>by simp) (λh=>rfl) rfl
  (λx hx=>jq m S hS B8 hs2 u x hu (hs x hx))
 rw[show S.any (Qr S u)=Mk S u from rfl]at hC;simp only[I3]at hC;refine N3 FO λfr hl h0 h1=>?_;simp[FO]at hl h0 h1;simp[FO,hl,h0,h1,hC,CR]
theorem Xe {t:Tm} (h:t.kind=3->t.name∈AX) {nm:J1} (hn:∀y∈AX,y≠nm):q8 t nm=false:=Ms h hn
theorem lc (t:Tm) (h:OkT t):pc Q HY [B9 t]=some (.tup [B9 t,sl (true,false) 1 []]):=by
 have hI:=Rg t (bs [101,120,112]);rw[Xe h.nm (by decide)]at hI;refine H6 LA λfr hl h0=>?_;simp[LA]at hl h0;simp[LA,hl,h0,hI,A5]
theorem js (u t:Tm) (ht:OkT t) (hu:OkT u) (P4:KU u t=false) (m:I6) (S:G7):pc Q X3 [B9 t,.pv (B9 u).cells,.pv [sl (true,false) 1 []],.pv [sl m 4 (A4 S)]]=some (.bool false):=by
 have hB:=lc t ht;have hS:=Rj u t (by have:=hu.size;omega) (by have:=ht.size;omega);rw[P4]at hS;refine je NV rfl (by simp[AR]) λfr hl ha=>?_;have h0:=ha 0;have h1:=ha 1;have h2:=ha 2;have h3:=ha 3;clear ha;simp[AR]at hl h0 h1 h2 h3;simp[AR,hl,h0,h1,hB,hS]
theorem qy (a b:Tm):KU a b=KU b a:=by
 unfold KU;rw[A0d,decide_eq_true_iff,decide_eq_true_iff];exact Kc.2
theorem Zw {S:G7} {u:Tm} (h:K4 S u=false) {t:Tm} (ht:t∈S):KU u t=false:=by
 rw[qy,A0k];intro he;have:K4 S u=true:=List.any_eq_true.2 ⟨t,ht,he⟩;rw[h]at this;cases this
theorem pS (m:I6) (S:G7) (B8:S.length<=1048576) (hs:∀x∈S,OkT x) (u:Tm) (hu:OkT u) (hn:K4 S u=false) :
  pc Q j0 [sl m 4 (A4 S),B9 u]=some (.bool false):=by
 have hB:=lc u hu;have hC:=Ub m S X3 [.pv (B9 u).cells,.pv [sl (true,false) 1 []],.pv [sl m 4 (A4 S)]] (λ_=>false) rfl B8 (λh x=>by simp) (λh=>rfl) rfl
  (λx hx=>js u x (hs x hx) hu (Zw hn hx) m S)
 rw[show (S.any λ_=>false)=false from by simp]at hC;simp only[I3]at hC;refine N3 FP λfr hl h0 h1=>?_;simp[FP]at hl h0 h1;simp[FP,hl,h0,h1,hB,hC,CR]
end Go.Abs.Q
namespace Go.Abs
def LPK (step:St->Option (Ex×St)) (Ψ:Ex->Fr->AH->Prop):Ex->Fr->AH->Prop
 | .normal,fr,h=>B6 (lp step (fr,h)) Ψ
 |e,fr,h=>Ψ e fr h
@[simp] theorem LPK_n (step:St->Option (Ex×St)) (Ψ:Ex->Fr->AH->Prop) (fr:Fr) (h:AH):LPK step Ψ .normal fr h=B6 (lp step (fr,h)) Ψ:=_root_.id rfl
@[simp] theorem LPK_e (step:St->Option (Ex×St)) (Ψ:Ex->Fr->AH->Prop) (i:Nat) (fr:Fr) (h:AH):LPK step Ψ (.exit i) fr h=Ψ (.exit i) fr h:=_root_.id rfl
@[simp] theorem LPK_r (step:St->Option (Ex×St)) (Ψ:Ex->Fr->AH->Prop) (fr:Fr) (h:AH):LPK step Ψ .ret fr h=Ψ .ret fr h:=_root_.id rfl
theorem M4 {step:St->Option (Ex×St)} {fr:Fr} {h:AH} {Ψ:Ex->Fr->AH->Prop} (H:B6 (step (fr,h)) (LPK step Ψ)):B6 (lp step (fr,h)) Ψ:=by
 cases hs:step (fr,h)with
 |none=>rw[hs]at H;exact H.elim
 |some x =>
  obtain⟨e,C3,h'⟩:=x;rw[hs]at H;cases e with
  |normal =>
   change B6 (lp step (C3,h')) Ψ at H;cases hl:lp step (C3,h')with
   |none=>rw[hl]at H;exact H.elim
   |some y =>
    rw[wk hs hl];rw[hl]at H;exact H
  |exit i=>rw[lS hs];exact H
  |ret=>rw[sF hs];exact H
end Go.Abs
namespace Go.Abs.Q
open Go.Proofs
attribute [local simp] E6 E8 fin K1 H2 P7 M6 R4 R3
theorem fD (w:AV) (l:G7) (k:Nat) (B8:l.length<=1048576) (x0 x1 x2:AV) (C:G6) (hw:w=.sl k l.length 0 l.length) (IH:∀t∈l,∃t',pc Q Z1 [B9 t]=some (B9 t')/\E3 t'=E3 t) (fr:Fr) (h:AH) (hh:h.boxes=[[x0,x1,x2,w],C]) (hfam:h.fams[k]?=some ⟨A4 l,4,true⟩) (hl:fr.length=25) (h1:A0 fr 1=.ptr 0 0) (h10:A0 fr 10=w) (h11:A0 fr 11=.int .i64 l.length) (h12:A0 fr 12=.int .i64 0) :
  B6 (lp (A2 (K8 Q) (D6 Z1) y9) (fr,h)) λe C3 h'=>Kp y9.wr fr C3/\e=.exit 0/\∃(B:List (List AV)) (done:List Tm),h'=⟨[x0,x1,x2,w]::C::B,h.fams.set k ⟨A4 done,4,true⟩⟩/\H5 done=H5 l/\done.length=l.length:=by
 refine A9 rfl fr (λn fr h'=>∃(i:Nat),i+n=l.length/\A0 fr 12=.int .i64 (i:Nat)/\(∃(B:List (List AV)) (done:List Tm) (X:List AV),X=(done++l.drop i).map B9/\h'=⟨[x0,x1,x2,w]::C::B,h.fams.set k ⟨X,4,true⟩⟩/\H5 done=H5 (l.take i)/\done.length=i)) ?_ l.length h ⟨0,by omega,h12,⟨[],[],A4 l,by simp[C9],by rw[DR hfam,←hh],by simp[H5],rfl⟩⟩;rintro J Φ hJ hΦ n D4 H1 K ⟨i,hi,k12,hr⟩;have A6:=K.1.trans hl;have k1:=A8 K 1 h1;have k10:=A8 K 10 h10;have k11:=A8 K 11 h11;clear K;by_cases A7:i<l.length
 .have L3:=C6 i (by omega);obtain⟨B,done,X,hX,rfl,hd,Ds⟩:=hr;subst hw;obtain⟨t',hI,ht⟩:=IH l[i] (A0Z A7);obtain⟨q1,q2,q3⟩:=Sd B9 done l A7 Ds;have q4:=Se B9 done l A7 Ds t';have e2:H5 (done++[t'])=H5 (l.take (i+1)):=by
   rw[A0g A7,E4,A0j,←E4,hd,E4,E4,A0j,A0b,A0c,A0b,A0c,ht]
  have Bs:=H4 hfam;rw[←hX]at q1 q3 q4;have hq2:X[i]'q1=B9 l[i]:=by subst hX;exact q2
  clear hd ht q2 hX hh;generalize hY:(done++[t']++l.drop (i+1)).map B9=Y at *
  generalize l[i]=s at *
  simp[y9,A6,k1,k10,k11,k12,A7,L3,hI,hq2,q3,q4,Bs];exact G0 hJ ⟨i+1,by omega,by simp[A6],_,done++[t'],Y,hY.symm,rfl,e2,by simp[Ds]⟩
 .obtain⟨B,done,X,hX,rfl,hd,Ds⟩:=hr;have e:i=l.length:=by omega
  subst e;rw[A0v]at hd;rw[List.drop_length,A0w,←C9]at hX;simp[y9,A6,k11,k12];exact hΦ _ _ _ ⟨rfl,B,done,by rw[hX],hd,Ds⟩
theorem ot:∀(n:Nat) (t:Tm),t.size<=n->t.size<=1048576->∃t',pc Q Z1 [B9 t]=some (B9 t')/\E3 t'=E3 t:=by
 intro n
 induction n with
 |zero=>intro t h;have:=t.size_pos;omega
 |succ n ih =>
  intro t hn hb;obtain⟨k,nm,s,m,kids⟩:=t;have J4:Tm.size (.mk k nm s m kids)=1+Tm.sizes kids:=rfl;have B8:=Tm.length_le kids;have hlv:(A4 kids).length=kids.length:=by rw[C9,A0i]
  have hih:∀t∈kids,∃t',pc Q Z1 [B9 t]=some (B9 t')/\E3 t'=E3 t:=λt ht=>ih t (by have:=Tm.size_le ht;omega) (by have:=Tm.size_le ht;omega);clear ih
  suffices h:∃v,pc Q Z1 [B9 (.mk k nm s m kids)]=some v/\∃t',v=B9 t'/\E3 t'=E3 (.mk k nm s m kids) by
   obtain⟨v,h1,t',rfl,h2⟩:=h;exact⟨t',h1,h2⟩
  obtain⟨w,⟨B0,F⟩,hC,hg,hb0,hf⟩:=QQ m (A4 kids) (by omega) ⟨[[.int .i64 k,.str nm,.int .i64 s,sl m 4 (A4 kids)],[.int .i64 0,.str (bs []),.int .i64 0,.vs true 0 []]],[]⟩;simp only at hb0;subst hb0;obtain⟨c1,c2,c3⟩:=VF hg;have hlenW:=bJ hg;rw[hlv]at hlenW;simp only[A0x]at hg;rcases hg with ⟨hl0,b,rfl⟩|⟨P4,rfl,hk⟩
  .have:kids=[]:=by rw[C9]at hl0;exact List.map_eq_nil_iff.1 hl0
   subst this;refine Fj Bf λΨ hΨ fr hl h0=>?_;simp[Bf,B9]at hl h0;simp[Bf,hl,h0,hC];refine M4 ?_;simp[y9,hl];exact hΨ _ ⟨.mk k nm s (true,b) [],rfl,rfl⟩
  .rw[hlv]at hC hlenW c1 c2 c3;simp only at hk;have Gl:=fD (.sl 0 kids.length 0 kids.length) kids 0 (by omega) (.int .i64 k) (.str nm) (.int .i64 s) [.int .i64 0,.str (bs []),.int .i64 0,.vs true 0 []] rfl hih;refine Fj Bf λΨ hΨ fr hl h0=>?_;simp[Bf,B9]at hl h0;simp[Bf,hl,h0,hC,hlenW];refine B6.mono (Gl _ _ ?_ ?_ ?_ ?_ ?_ ?_ ?_) ?_<;>first|exact hk|(simp[hl];done)|skip
   rintro e D4 ⟨bx,F2⟩ ⟨K,rfl,B,done,hB,hd,Ds⟩;cases hB;have J3:D4.length=25:=K.1.trans (by simp[hl]);have Fe:A0 D4 1=.ptr 0 0:=A8 K 1 (by simp[hl]);have GX:A0 D4 2=.ptr 1 0:=A8 K 2 (by simp[hl]);clear K;have Bs:=H4 hk;have hz:∀B',Ev ⟨B',F.set 0 ⟨A4 done,4,true⟩⟩ true (.sl 0 kids.length 0 kids.length)=some (sl (false,true) 4 (A4 done)):=λB'=>Jb (b:=true) (by simp[Bs]) (by rw[C9,A0i,Ds]);simp[J3,Fe,GX,hz];exact hΨ _ ⟨.mk k nm s (false,true) done,rfl,by simp[E3,hd]⟩
end Go.Abs.Q
namespace Go.Abs.Q
open Go.Proofs
attribute [local simp] E6 E8 fin K1 H2 P7 M6 R4 R3
def OY (t:Tm) (n:Int):AV:=.agg [.int .i64 t.kind,.str t.name,.int .i64 t.sort,sl t.cm 4 (A4 t.kids),.int .i64 n]
@[simp] theorem pwV_agg (t:Tm) (n:Int):AV.agg [.int .i64 t.kind,.str t.name,.int .i64 t.sort,sl t.cm 4 (A4 t.kids),.int .i64 n]=OY t n:=rfl
@[simp] theorem zd (t:Tm) (n:Int):(OY t n).cells=[.int .i64 t.kind,.str t.name,.int .i64 t.sort,sl t.cm 4 (A4 t.kids),.int .i64 n]:=rfl
@[simp] theorem ze (t:Tm) (n:Int):(OY t n).isTup=false:=rfl
@[simp] theorem pwV_frz (h:AH) (am:Bool) (t:Tm) (n:Int):KR h am (OY t n)=some (OY t n):=rfl
@[simp] theorem pwV_tame (h:AH) (t:Tm) (n:Int):CS h (OY t n)=true:=rfl
theorem vg (u:Tm):pc Q L5 [sl (true,false) 1 [],B9 u,.fn Hy []]=some (.tup [.int .i64 0,.bool false]):=by
 refine HC P6 λfr hl h0 h1 h2=>?_;simp[P6]at hl h0 h1 h2;simp[P6,hl,h0,h1];refine M4 ?_;simp[Y4,hl]
theorem kE (u:Tm) (hu:u.size<=1048576) (B:List (List AV)) (F:List Fam) :
  ∃(u':Tm) (k:Nat) (h':AH),rc Q Am [.vs true 0 [],OY u 1] ⟨B,F⟩=some (.sl k 1 0 1,h')/\h'.fams[k]?=some ⟨[OY u' 1],5,true⟩/\E3 u'=E3 u/\∃B',h'.boxes=B++B':=by
 obtain⟨u',hC,he⟩:=ot _ u (A0f _) hu;have hB:=vg u;have hI:∀B2:List (List AV),rc Q O8 [.vs true 0 [],.int .i64 0,sl (true,true) 5 [OY u' 1]] ⟨B2,F⟩=some (.sl F.length 1 0 1,⟨B2,F++[⟨[OY u' 1],5,true⟩]⟩):=by
  intro B2;refine OZ (s:=lL 5 64) rfl rfl ?_;rw[show sl (true,true) 5 [OY u' 1]=.vs true 5 [OY u' 1] from by simp[sl]];change UP 5 64 [.vs true 0 [],.int .i64 0,.vs true 5 [OY u' 1]] _=_;simp only[UP,QC];rw[if_pos ⟨trivial,rfl⟩,if_pos (by decide)]
 suffices hq:∃v h',rc Q Am [.vs true 0 [],OY u 1] ⟨B,F⟩=some (v,h')/\∃k,v=.sl k 1 0 1/\h'.fams[k]?=some ⟨[OY u' 1],5,true⟩/\∃B',h'.boxes=B++B' by
  obtain⟨v,h',h1,k,rfl,h2,h3⟩:=hq;exact⟨u',k,h',h1,h2,he,h3⟩
 refine Dm Jy λfr hl h0 h1=>?_;simp[Jy]at hl h0 h1;simp[Jy,hl,h0,h1,hB,hC,hI,A5,C8,D8]
theorem aT (t:Tm) (h:t.kind=3->t.name∈AX):pc Q Ga [B9 t]=some (.bool false):=by
 by_cases hk:t.kind=3
 .obtain⟨-,-,-,-,-,-,-,n8,n9,n10,-⟩:=Li (h hk);refine H6 Ap λfr hl h0=>?_;simp[Ap]at hl h0;simp[Ap,hl,h0,hk,n8,n9,n10]
 .refine H6 Ap λfr hl h0=>?_;simp[Ap]at hl h0;simp[Ap,hl,h0,hk]
theorem kC (u:Tm) (hu:u.size<=1048576) (hf:u.kind=3->u.name∈AX) (B:List (List AV)) (F:List Fam) :
  ∃(u':Tm) (k:Nat) (h':AH),rc Q Y6 [.vs true 0 [],B9 u,.int .i64 1] ⟨B,F⟩=some (.tup [.sl k 1 0 1,.bool true],h')/\h'.fams[k]?=some ⟨[OY u' 1],5,true⟩/\E3 u'=E3 u/\∃B',h'.boxes=B++B':=by
 obtain⟨u',k,⟨B1,F1⟩,hI,hk,he,⟨B',hB'⟩⟩:=kE u hu (B++[(B9 u).cells]) F;simp only at hB' hk;subst hB';have hS:=aT u hf
 suffices hq:∃v h',rc Q Y6 [.vs true 0 [],B9 u,.int .i64 1] ⟨B,F⟩=some (v,h')/\∃k,v=.tup [.sl k 1 0 1,.bool true]/\h'.fams[k]?=some ⟨[OY u' 1],5,true⟩/\∃B',h'.boxes=B++B' by
  obtain⟨v,h',h1,k,rfl,h2,h3⟩:=hq;exact⟨u',k,h',h1,h2,he,h3⟩
 simp only[I3]at hI;refine cz JD λfr hl h0 h1 h2=>?_;simp[JD]at hl h0 h1 h2;simp[JD,hl,h0,h1,h2,hS,hI,C8,D8];exact hk
theorem pc_Of (u:Tm) (hu:OkT u):∃u',pc Q Di [B9 u]=some (.tup [sl (false,true) 5 [OY u' 1],.int .i64 0])/\E3 u'=E3 u:=by
 have hs:=hu.size;have hV:=Hi u (by omega);rw[(w7 hu.valid).1]at hV;obtain⟨u',k,⟨B1,F1⟩,hI,hk,he,⟨B',hB'⟩⟩:=kC u (by omega) hu.nm [(B9 u).cells] [];simp only at hB' hk;subst hB';have hz:∀B',Ev ⟨B',F1⟩ true (.sl k 1 0 1)=some (sl (false,true) 5 [OY u' 1]):=λB'=>Jb hk rfl;refine⟨u',?_,he⟩;simp only[I3]at hI;refine H6 Ov λfr hl h0=>?_;simp[Ov]at hl h0;simp[Ov,hl,h0,hV,hI,hz]
theorem gG (m:I6) (S:G7) (hS:Y5 S) (B8:S.length<=1048576) (hs:∀x∈S,x.size<=1099511627776) (u:Tm) (hu:u.size<=1099511627776) (hn:K4 S u=false) :
  pc Q P9 [OY u 1,.pv [sl m 4 (A4 S)]]=some (.bool false):=by
 have hH:=Ko m S u hS (by omega) hs hu;rw[hn]at hH;refine N3 CW λfr hl h0 h1=>?_;simp[CW]at hl h0 h1;simp[CW,hl,h0,h1,hH]
theorem fc (mm m:I6) (S:G7) (hS:Y5 S) (B8:S.length<=1048576) (hs:∀x∈S,x.size<=1099511627776) (u:Tm) (hu:u.size<=1099511627776) (hn:K4 S u=false) :
  pc Q AP [sl mm 5 [OY u 1],.fn P9 [.pv [sl m 4 (A4 S)]]]=some (.int .i64 (-1)):=by
 have hP:=gG m S hS B8 hs u hu hn;have h01:IntKind.i64.wrap 1=1:=by decide
 refine N3 Dp λfr hl h0 h1=>?_;simp[Dp]at hl h0 h1;simp[Dp,hl,h0];refine M4 ?_;simp[HP,hl,h0,h1,hP,h01];refine M4 ?_;simp[hl]
theorem jz (mm m:I6) (S:G7) (hS:Y5 S) (B8:S.length<=1048576) (hs:∀x∈S,x.size<=1099511627776) (u:Tm) (hu:u.size<=1099511627776) (hn:K4 S u=false) :
  pc Q T1 [sl m 4 (A4 S),sl mm 5 [OY u 1]]=some (sl (false,true) 5 [OY u 1]):=by
 have hC:∀(B:List (List AV)),rc Q N5 [sl mm 5 [OY u 1]] ⟨B,[]⟩=some (.sl 0 1 0 1,⟨B,[⟨[OY u 1],5,true⟩]⟩):=by
  intro B
  suffices hq:∃v h',rc Q N5 [sl mm 5 [OY u 1]] ⟨B,[]⟩=some (v,h')/\(v=.sl 0 1 0 1/\h'=⟨B,[⟨[OY u 1],5,true⟩]⟩) by
   obtain⟨v,h',h1,rfl,rfl⟩:=hq;exact h1
  have hr:H3=140737488355328:=rfl;have hm:maxLen=9223372036854775807:=rfl;refine gO HN λfr hl h0=>?_;simp[HN]at hl h0;simp[HN,hl,h0,To,Gm,A5,show ZI N5=true from rfl,hr,hm]
 have hI:=fc (false,true) m S hS B8 hs u hu hn;have hD:∀(B:List (List AV)),rc Q N1 [.sl 0 1 0 1,.fn P9 [.pv [sl m 4 (A4 S)]]] ⟨B,[⟨[OY u 1],5,true⟩]⟩=some (.sl 0 1 0 1,⟨B,[⟨[OY u 1],5,true⟩]⟩):=by
  intro B
  suffices hq:∃v h',rc Q N1 [.sl 0 1 0 1,.fn P9 [.pv [sl m 4 (A4 S)]]] ⟨B,[⟨[OY u 1],5,true⟩]⟩=some (v,h')/\(v=.sl 0 1 0 1/\h'=⟨B,[⟨[OY u 1],5,true⟩]⟩) by
   obtain⟨v,h',h1,rfl,rfl⟩:=hq;exact h1
  refine Dm CX λfr hl h0 h1=>?_;simp[CX]at hl h0 h1;simp[CX,hl,h0,h1,hI]
 refine N3 ET λfr hl h0 h1=>?_;simp[ET]at hl h0 h1;simp[ET,hl,h0,h1,hC,hD,CR]
theorem yK (m:I6) (R:G7) (t:Tm) (hR:Y5 R) (B8:R.length<=1099511627776) (hs:∀x∈R,x.size<=1099511627776) (ht:t.size<=1099511627776) :
  ∃i:Nat,i<=R.length/\(∀j (hj:j<R.length),j<i->H7 R[j] t<0)/\(∀j (hj:j<R.length),i<=j->0<=H7 R[j] t) /\
   pc Q J8 [sl m 4 (A4 R),B9 t,.fn C4 []]=some (.tup [.int .i64 (i:Nat),.bool (K4 R t)]):=by
 suffices h:∃v,pc Q J8 [sl m 4 (A4 R),B9 t,.fn C4 []]=some v/\∃i:Nat,v=.tup [.int .i64 (i:Nat),.bool (K4 R t)]/\i<=R.length/\(∀j (hj:j<R.length),j<i->H7 R[j] t<0)/\(∀j (hj:j<R.length),i<=j->0<=H7 R[j] t) by
  obtain⟨v,h1,i,rfl,h2,h3,h4⟩:=h;exact⟨i,h2,h3,h4,h1⟩
 refine gI AI λΨ hΨ fr hl h0 h1 h2=>?_;simp[AI]at hl h0 h1 h2;simp[AI,hl,h0,h1];refine(A9 (Ψ:=λe C3 h'=>e=.exit 0/\h'=⟨[(B9 t).cells],[]⟩/\∃i:Nat,A0 C3 9=.int .i64 (i:Nat)/\i<=R.length/\(∀j (hj:j<R.length),j<i->H7 R[j] t<0)/\(∀j (hj:j<R.length),i<=j->0<=H7 R[j] t)) rfl _
  (λn C3 h'=>h'=⟨[(B9 t).cells],[]⟩/\∃lo hi:Nat,hi=lo+n/\hi<=R.length/\A0 C3 9=.int .i64 (lo:Nat)/\A0 C3 10=.int .i64 (hi:Nat)/\(∀j (hj:j<R.length),j<lo->H7 R[j] t<0)/\(∀j (hj:j<R.length),hi<=j->0<=H7 R[j] t)) ?_ R.length _
  ⟨by simp,0,R.length,by omega,A0f _,by simp[hl],by simp[hl],λj _ h=>absurd h (Nat.not_lt_zero _),λj hj h=>by omega⟩).mono ?_
 .rintro J Φ hJ hΦ n D4 H1 K ⟨rfl,lo,hi,hn,Zx,k9,k10,g1,g2⟩;have A6:D4.length=49:=K.1.trans (by simp[hl]);have k0:=A8 K 0 (by simp[h0]:_=sl m 4 (A4 R));have k2:=A8 K 2 (by simp[h2]:_=AV.fn C4 []);have k4:=A8 K 4 (by simp[hl]:_=AV.ptr 0 0);clear K;by_cases A7:0<n
  .have hlti:(lo:Int)<(hi:Int):=by omega
   have hw1:IntKind.i64.wrap ((lo:Int)+(hi:Int))=(lo:Int)+(hi:Int):=W8 (by omega) (by omega);have hw2:IntKind.u64.wrap ((lo:Int)+(hi:Int))=(lo:Int)+(hi:Int):=uI (by omega) (by omega);obtain⟨mid,hmd⟩:∃mid,mid=(lo+hi) / 2:=⟨_,rfl⟩;have hb:=dw (lo+hi);rw[←hmd,Int.natCast_add]at hb;have hm1:lo<=mid:=by omega
   have hm2:mid<hi:=by omega
   have hw3:IntKind.i64.wrap (mid:Int)=(mid:Int):=W8 (by omega) (by omega);have hw4:=C6 mid (by omega);have hmid:mid<R.length:=by omega
   have hx:=I0 hmid;have hC:=y7 _ R[mid] t (A0f _) (hs _ (A0Z hmid)) ht;by_cases hc:H7 R[mid] t<0
   .have g1':∀j (hj:j<R.length),j<mid+1->H7 R[j] t<0:=λj hj hjm=>by
     rcases A0r (Nat.le_of_lt_succ hjm)with q|q
     .exact Gn (hR.get hj hmid q) hc
     .subst q;exact hc
    generalize R[mid]=x at *
    simp[S6,A6,k0,k2,k4,k9,k10,hlti,hw1,hw2,hw3,hw4,hb,hx,hC,hc];exact⟨hi-(mid+1),by omega,hJ _ _ _ ⟨by simp,mid+1,hi,by omega,Zx,by simp[A6],by simp[k10],g1',g2⟩⟩
   .have g2':∀j (hj:j<R.length),mid<=j->0<=H7 R[j] t:=λj hj hjm=>by
     rcases A0r hjm with q|q
     .rcases Int.lt_or_le (H7 R[j] t) 0 with p|p
      .exact absurd (Gn (hR.get hmid hj q) p) hc
      .exact p
     .subst q;omega
    generalize R[mid]=x at *
    simp[S6,A6,k0,k2,k4,k9,k10,hlti,hw1,hw2,hw3,hb,hx,hC,hc];exact⟨mid-lo,by omega,hJ _ _ _ ⟨by simp,lo,mid,by omega,by omega,by simp[k9],by simp[A6],g1,g2'⟩⟩
  .have hn0:n=0:=by omega
   have hlh:hi=lo:=by omega
   subst hlh;simp[S6,A6,k9,k10];exact hΦ _ _ _ ⟨rfl,by simp,hi,by simp[k9],Zx,g1,g2⟩
 .rintro e D4 DD ⟨K,rfl,rfl,i,k9,hi,g1,g2⟩;have A6:D4.length=49:=K.1.trans (by simp[hl]);have k0:=A8 K 0 (by simp[h0]:_=sl m 4 (A4 R));have k2:=A8 K 2 (by simp[h2]:_=AV.fn C4 []);have k4:=A8 K 4 (by simp[hl]:_=AV.ptr 0 0);have k8:=A8 K 8 (by simp[hl]:_=AV.int .i64 R.length);clear K;have hh:=rJ hR t i g1 g2;by_cases A7:i<R.length
  .have hx:=I0 A7;have hC:=y7 _ R[i] t (A0f _) (hs _ (A0Z A7)) ht;have e:decide (H7 R[i] t=0)=K4 R t:=by
    rw[A0d,decide_eq_true_iff,hh];exact⟨λh=>⟨A7,h⟩,λ⟨_,h⟩=>h⟩
   simp[A6,k0,k2,k4,k8,k9,A7,hx,hC];exact hΨ _ ⟨i,by rw[e],hi,g1,g2⟩
  .have e:K4 R t=false:=by
    rw[A0k];intro h;obtain⟨h,-⟩:=hh.1 h;omega
   simp[A6,k8,k9,A7];exact hΨ _ ⟨i,by rw[e],hi,g1,g2⟩
theorem pG (m:I6) (u:Tm) (hu:OkT u):pc Q HX [sl m 5 [OY u 1]]=some (.int .i64 0):=by
 have hV:=Hi u (by have:=hu.size;omega);rw[(w7 hu.valid).1]at hV;have hS:=aT u hu.nm;have h01:IntKind.i64.wrap 1=1:=by decide
 refine H6 Kz λfr hl h0=>?_;simp[Kz]at hl h0;simp[Kz,hl,h0];refine M4 ?_;simp[Nh,hl,hV,hS,h01];refine M4 ?_;simp[hl]
theorem jg:pc Q Ay [sl (true,false) 1 []]=some (sl (true,false) 1 []):=by
 refine H6 BF λfr hl h0=>?_;simp[BF]at hl h0;simp[BF,hl,h0,To];rfl
theorem fh (a b:Tm) (h:a.size<=1099511627776) (h':b.size<=1099511627776):pc Q AZ [B9 a,B9 b]=some (.bool (decide (H7 a b=0))):=by
 have hC:=y7 _ a b (A0f _) h h';refine N3 HF λfr hl h0 h1=>?_;simp[HF]at hl h0 h1;simp[HF,hl,h0,h1,hC]
theorem jm (m m2:I6) (u:Tm) (hu:u.size<=1048576):∃m',pc Q x5 [sl m 1 [sl m2 5 [OY u 1]]]=some (sl m' 4 [B9 u]):=by
 have h01:IntKind.i64.wrap 1=1:=by decide
 have hr:H3=140737488355328:=rfl;have hm:maxLen=9223372036854775807:=rfl;have hmu:ZI x5=true:=rfl;obtain⟨l',hp,-,hS⟩:=Uh 0 ⟨[[.int .i64 u.kind,.str u.name,.int .i64 u.sort,sl u.cm 4 (A4 u.kids),.int .i64 1]],[⟨A4 [u],4,true⟩]⟩ [u] rfl (by simp) (by simp;omega) (by simp);have hl':l'=[u]:=A0q.1 hp;subst hl';have hcm:Vn AZ [u]:=⟨rfl,λa ha b hb=>by
  rw[A0e]at ha hb;exact fh a b (by rw[ha];omega) (by rw[hb];omega)⟩
 obtain⟨Z,hZ,hZR,hK⟩:=NU AZ [u] hcm 0 ⟨[[.int .i64 u.kind,.str u.name,.int .i64 u.sort,sl u.cm 4 (A4 u.kids),.int .i64 1]],[⟨A4 [u],4,true⟩]⟩ rfl (by simp);have hZ1:Z=[u]:=by
  have:(T5 [u])=[u]:=rfl;rw[this]at hZR;rw[←hZR,A0o (by simp[hZ])]
 subst hZ1;simp only[show T5 [u]=[u] from rfl,show A4 [u]=[B9 u] from rfl,A0h,List.set_cons_zero]at hS hK
 suffices h:∃v,pc Q x5 [sl m 1 [sl m2 5 [OY u 1]]]=some v/\∃q:Bool×Bool,v=sl q 4 [B9 u] by
  obtain⟨v,h1,q,rfl⟩:=h;exact⟨q,h1⟩
 refine Fj JE λΨ hΨ fr hl h0=>?_;simp[JE]at hl h0;simp[JE,hl,h0];refine M4 ?_;simp[KX,hl];refine M4 ?_;simp[Lu,hl,A5,h01,hr,hm,hmu];refine M4 ?_;simp[hl,h01];refine M4 ?_;simp[hl,hS,hK];exact hΨ _ ⟨(false,true),rfl⟩
@[simp] theorem xo (k:IntKind) (i:Int) (cs:G6):(AV.int k i).reform cs=cs.head?:=rfl
@[simp] theorem wW (b:Bool) (cs:G6):(AV.bool b).reform cs=cs.head?:=rfl
theorem lZ (m:I6) (u:Tm) (hu:u.size<=1048576):pc Q J8 [sl m 4 [B9 u],B9 u,.fn C4 []]=some (.tup [.int .i64 0,.bool true]):=by
 obtain⟨i,hi,g1,-,hB⟩:=yK m [u] u (List.pairwise_singleton _ _) (by simp) (by simp;omega) (by omega);have hi0:i=0:=by
  rcases Nat.eq_zero_or_pos i with h|h
  .exact h
  .have:=g1 0 (by simp) h;simp[PU]at this
 subst hi0;have hh:K4 [u] u=true:=by simp[K4,KU,PU]
 rw[hh]at hB;exact hB
theorem fu (m m2:I6) (u:Tm) (hu:u.size<=1048576):∃m',pc Q BM [sl m 4 [B9 u],sl m2 5 [OY u 1]]=some (sl m' 1 [.int .i64 1]):=by
 have h01:IntKind.i64.wrap 1=1:=by decide
 have hr:H3=140737488355328:=rfl;have hm:maxLen=9223372036854775807:=rfl;have hB:=lZ m u hu
 suffices h:∃v,pc Q BM [sl m 4 [B9 u],sl m2 5 [OY u 1]]=some v/\∃q:Bool×Bool,v=sl q 1 [.int .i64 1] by
  obtain⟨v,h1,q,rfl⟩:=h;exact⟨q,h1⟩
 refine Sz IC λΨ hΨ fr hl h0 h1=>?_;simp[IC]at hl h0 h1;simp[IC,hl,h0,h1,hr,hm];refine M4 ?_;simp[KY,hl,h0,hB,h01];refine M4 ?_;simp[hl];exact hΨ _ ⟨(false,true),rfl⟩
theorem kD (m:I6) (u:Tm) (xs:List Fam) (B C:List (List AV)) (p:AV) :
  rc Q M7 [.ptr B.length 0,.int .i64 0] ⟨B++[sl m 4 [B9 u],.vs true 0 [],p,.bool false]::C,xs⟩=some (C5,⟨B++[sl m 4 [B9 u],.vs true 0 [],p,.bool false]::C,xs⟩):=by
 suffices hq:∃v h',rc Q M7 [.ptr B.length 0,.int .i64 0] ⟨B++[sl m 4 [B9 u],.vs true 0 [],p,.bool false]::C,xs⟩=some (v,h')/\(v=C5/\h'=⟨B++[sl m 4 [B9 u],.vs true 0 [],p,.bool false]::C,xs⟩) by
  obtain⟨v,h',h1,rfl,rfl⟩:=hq;exact h1
 have hb:(B++[sl m 4 [B9 u],.vs true 0 [],p,.bool false]::C)[B.length]?=some [sl m 4 [B9 u],.vs true 0 [],p,.bool false]:=by simp
 generalize B++[sl m 4 [B9 u],.vs true 0 [],p,.bool false]::C=X at *
 refine Dm Ad λfr hl h0 h1=>?_;simp[Ad]at hl h0 h1;simp[Ad];refine M4 ?_;simp[Dw,hl,h0,hb];refine M4 ?_;simp[Dv,hl]
theorem tX (m2:I6) (u:Tm) (hu:OkT u) (B:List (List AV)) (F:List Fam) :
  ∃(m m':Bool×Bool) (k:Nat) (h':AH),rc Q x6 [sl (true,false) 1 [],sl m2 5 [OY u 1]] ⟨B,F⟩=some (.tup [.ptr B.length 0,.ptr (B.length+1) 0,.int .i64 0],h') /\
   h'.boxes=B++[[sl m 4 [B9 u],.vs true 0 [],.sl k 1 0 1,.bool false],[sl m' 1 [.int .i64 1],sl (true,true) 1 [],.bool false]]/\h'.fams[k]?=some ⟨[.int .i64 (-1)],1,false⟩:=by
 have hs:=hu.size;have h01:IntKind.i64.wrap 1=1:=by decide
 have hr:H3=140737488355328:=rfl;have hm:maxLen=9223372036854775807:=rfl;have hV:=pG m2 u hu;have hC:=jg;obtain⟨m,hCo⟩:=jm (false,true) m2 u (by omega);obtain⟨m',hP⟩:=fu m m2 u (by omega);have hcol:=kD m u
 suffices hq:∃v h',rc Q x6 [sl (true,false) 1 [],sl m2 5 [OY u 1]] ⟨B,F⟩=some (v,h')/\∃k,v=.tup [.ptr B.length 0,.ptr (B.length+1) 0,.int .i64 0]/\h'.boxes=B++[[sl m 4 [B9 u],.vs true 0 [],.sl k 1 0 1,.bool false],[sl m' 1 [.int .i64 1],sl (true,true) 1 [],.bool false]]/\h'.fams[k]?=some ⟨[.int .i64 (-1)],1,false⟩ by
  obtain⟨v,h',h1,k,rfl,h2,h3⟩:=hq;exact⟨m,m',k,h',h1,h2,h3⟩
 refine Dm Ky λfr hl h0 h1=>?_;simp[Ky]at hl h0 h1;simp[Ky,hl,h0];refine M4 ?_;simp[Ng,hl];have hmu:ZI x6=false:=rfl;have ht:∀B':List (List AV),CS ⟨B',F++[⟨[sl m2 5 [OY u 1]],1,false⟩]⟩ (.sl F.length 1 0 1)=true:=by intro B';simp[CS,KW]
 simp[hl,h0,h1,hV,hC,hCo,A5,hr,hm,Gm,C8,D8,hmu,ht];refine M4 ?_;simp[Nf,hl];refine M4 ?_;simp[Nd,hl,A5,hr,hm,hmu,h01];refine M4 ?_;simp[hl];refine M4 ?_;simp[Nc,hl,hcol,h01];refine M4 ?_;simp[hl,h0,h1,hP,jX,hr,hm,C8,D8];exact⟨F.length+1,⟨rfl,rfl⟩,by simp⟩
theorem pw (m m':I6) (u:Tm) (B:List (List AV)) (F:List Fam) (k:Nat) (a b:Nat) (co:AV)
  (ha:B[a]?=some [sl m 4 [B9 u],.vs true 0 [],.sl k 1 0 1,.bool false]) (hb:B[b]?=some [sl m' 1 [.int .i64 1],co,.bool false]) (hk:F[k]?=some ⟨[.int .i64 (-1)],1,false⟩) :
  rc Q M8 [.ptr a 0,.ptr b 0] ⟨B,F⟩=some (.int .i64 0,⟨B,F⟩):=by
 suffices hq:∃v h',rc Q M8 [.ptr a 0,.ptr b 0] ⟨B,F⟩=some (v,h')/\(v=.int .i64 0/\h'=⟨B,F⟩) by
  obtain⟨v,h',h1,rfl,rfl⟩:=hq;exact h1
 refine Dm Ae λfr hl h0 h1=>?_;simp[Ae]at hl h0 h1;simp[Ae,hl,h0,ha];refine M4 ?_;simp[Dx,hl,h0,h1,ha,hb,hk]
theorem oc (m2:I6) (u:Tm) (hu:OkT u):pc Q Je [sl (true,false) 1 [],sl m2 5 [OY u 1]]=some (.tup [sl (true,false) 1 [],.int .i64 4]):=by
 obtain⟨m,m',k,⟨B',F'⟩,hS,hB,hk⟩:=tX m2 u hu [] [];simp only[A0m,A0x]at hB hS hk;subst hB;have hR:=pw m m' u [[sl m 4 [B9 u],.vs true 0 [],.sl k 1 0 1,.bool false],[sl m' 1 [.int .i64 1],sl (true,true) 1 [],.bool false]] F' k 0 1 _ rfl rfl hk;have hV:rc Q Bc [sl (true,false) 1 [],sl m2 5 [OY u 1]] ⟨[],[]⟩=some (.tup [.ptr 0 0,.ptr 1 0,.int .i64 0,.int .i64 0],⟨[[sl m 4 [B9 u],.vs true 0 [],.sl k 1 0 1,.bool false],[sl m' 1 [.int .i64 1],sl (true,true) 1 [],.bool false]],F'⟩):=by
  suffices hq:∃v h',rc Q Bc [sl (true,false) 1 [],sl m2 5 [OY u 1]] ⟨[],[]⟩=some (v,h')/\(v=.tup [.ptr 0 0,.ptr 1 0,.int .i64 0,.int .i64 0]/\h'=⟨[[sl m 4 [B9 u],.vs true 0 [],.sl k 1 0 1,.bool false],[sl m' 1 [.int .i64 1],sl (true,true) 1 [],.bool false]],F'⟩) by
   obtain⟨v,h',h1,rfl,rfl⟩:=hq;exact h1
  refine Dm Kx λfr hl h0 h1=>?_;simp[Kx]at hl h0 h1;simp[Kx,hl,h0,h1,hS,hR]
 refine N3 Jx λfr hl h0 h1=>?_;simp[Jx]at hl h0 h1;simp[Jx,hl,h0,h1,hV]
theorem Xi (m:I6) (S:G7) (B8:S.length<=1048576) (hs:∀x∈S,OkT x) (fr:Fr) (h:AH) (h5:A0 fr 5=.vs true 0 []) (hl:fr.length=46) (h18:A0 fr 18=sl m 4 (A4 S)) (h19:A0 fr 19=.int .i64 S.length) (h20:A0 fr 20=.int .i64 0) :
  B6 (lp (A2 (K8 Q) (D6 V9) S3) (fr,h)) λe C3 h'=>Kp S3.wr fr C3/\(e=.exit 0/\A0 C3 5=.vs true 0 []):=by
 refine A9 rfl fr (λn fr h'=>∃(i:Nat),i+n=S.length/\A0 fr 20=.int .i64 (i:Nat)/\A0 fr 5=.vs true 0 []) ?_ S.length h ⟨0,by omega,h20,h5⟩;rintro J Φ hJ hΦ n D4 H1 K ⟨i,hi,k20,hr⟩;have A6:=K.1.trans hl;have k18:=A8 K 18 h18;have k19:=A8 K 19 h19;clear K;by_cases A7:i<S.length
 .have L3:=C6 i (by omega);have hx:=I0 A7;have hP:=ft S[i] (hs _ (A0Z A7)).nm;obtain⟨bx,F⟩:=H1;generalize S[i]=s at *
  simp[S3,A6,k18,k19,k20,A7,L3,hx,hP];exact G0 hJ ⟨i+1,by omega,by simp[A6],by simp[hr]⟩
 .simp[S3,A6,k19,k20,A7];exact hΦ _ _ _ ⟨rfl,by simp[hr]⟩
theorem ch (mm m:I6) (S:G7) (hS:Y5 S) (B8:S.length<=1048576) (hs:∀x∈S,OkT x) (u:Tm) (hu:OkT u) (hn:K4 S u=false) :
  pc Q V9 [sl m 4 (A4 S),sl mm 5 [OY u 1]]=some (.bool false):=by
 have hU:=jz mm m S hS B8 (λx hx=>by have:=(hs x hx).size;omega) u (by have:=hu.size;omega) hn;have hM:=oc (false,true) u hu;refine N3 CU λfr hl h0 h1=>?_;simp[CU]at hl h0 h1;simp[CU,hl,h0,h1,hU];refine B6.mono (Xi m S B8 hs _ _ ?_ ?_ ?_ ?_ ?_) ?_<;>first|(simp[hl];done)|skip
 rintro e D4 DD ⟨K,rfl,k5⟩;have J3:D4.length=46:=K.1.trans (by simp[hl]);have Fe:A0 D4 1=sl (false,true) 5 [OY u 1]:=A8 K 1 (by simp[hl]);clear K;simp[J3,Fe,k5,hM]
theorem ZM (m:I6) (S:G7) (hS:Y5 S) (B8:S.length<=1048576) (hs:∀x∈S,OkT x) (u:Tm) (hu:OkT u) (hn:K4 S u=false) :
  pc Q Bt [sl m 4 (A4 S),B9 u]=some (.bool false):=by
 obtain⟨u',hO,he⟩:=pc_Of u hu;have hn':K4 S u'=false:=by rw[Wl he];exact hn
 have hG:=ch (false,true) m S hS B8 hs u' (hu.er he) hn';refine N3 CD λfr hl h0 h1=>?_;simp[CD]at hl h0 h1;simp[CD,hl,h0,h1,hO,hG]
theorem Tm.kind_mk (k:Int) (nm:J1) (s:Int) (m:I6) (l:G7):(Tm.mk k nm s m l).kind=k:=rfl
theorem Tm.name_mk (k:Int) (nm:J1) (s:Int) (m:I6) (l:G7):(Tm.mk k nm s m l).name=nm:=rfl
theorem Tm.sort_mk (k:Int) (nm:J1) (s:Int) (m:I6) (l:G7):(Tm.mk k nm s m l).sort=s:=rfl
theorem fd (t:Tm) (hb:t.size<=1048576):∃t',pc Q NM [B9 t,sl (true,false) 1 [],B9 t]=some (.tup [B9 t',.int .i64 0])/\E3 t'=E3 t:=by
 obtain⟨t',hC,hE⟩:=YG _ t (A0f _) (by omega);refine⟨t',?_,hE⟩;refine HC Nw λfr hl h0 h1 h2=>?_;simp[Nw]at hl h0 h1 h2;simp[Nw,hl,h0,h1,h2,hC];refine M4 ?_;simp[Pl,hl,hC]
theorem sC (m:I6) (l:G7) (k:Nat) (B8:l.length<=1048576) (Z:G7) (hZ:Z.length=l.length) (J4:∀t∈l,t.size<=1048576) (IH:∀t∈l,∃(K:G7) (m':I6),pc Q JP [sl t.cm 4 (A4 t.kids)]=some (sl m' 4 (A4 K))/\H5 K=H5 t.kids) (fr:Fr) (h:AH) (hfam:h.fams[k]?=some ⟨A4 Z,4,true⟩) (hl:fr.length=42) (h3:A0 fr 3=.sl k l.length 0 l.length) (h9:A0 fr 9=sl m 4 (A4 l)) (h10:A0 fr 10=.int .i64 l.length) (h11:A0 fr 11=.int .i64 0) :
  B6 (lp (A2 (K8 Q) (D6 JP) HS) (fr,h)) λe C3 h'=>Kp HS.wr fr C3/\e=.exit 0/\∃(B:List (List AV)) (done:List Tm),h'=⟨B,h.fams.set k ⟨A4 done,4,true⟩⟩/\H5 done=H5 l/\done.length=l.length:=by
 refine A9 rfl fr (λn fr h'=>∃(i:Nat),i+n=l.length/\A0 fr 11=.int .i64 (i:Nat)/\(∃(B:List (List AV)) (done:List Tm) (X:List AV),X=(done++Z.drop i).map B9/\h'=⟨B,h.fams.set k ⟨X,4,true⟩⟩/\H5 done=H5 (l.take i)/\done.length=i)) ?_ l.length h ⟨0,by omega,h11,⟨h.boxes,[],A4 Z,by simp[C9],by rw[DR hfam],by simp[H5],rfl⟩⟩;rintro J Φ hJ hΦ n D4 H1 K ⟨i,hi,k11,hr⟩;have A6:=K.1.trans hl;have k3:=A8 K 3 h3;have k9:=A8 K 9 h9;have k10:=A8 K 10 h10;clear K;by_cases A7:i<l.length
 .have L3:=C6 i (by omega);obtain⟨B,done,X,hX,rfl,hd,Ds⟩:=hr;have hltZ:i<Z.length:=by omega
  obtain⟨t1,hR,ht1⟩:=fd l[i] (J4 _ (A0Z A7));obtain⟨K,mk,hO,hK⟩:=IH l[i] (A0Z A7);have hx:=I0 A7;obtain⟨q1,q2',q3⟩:=Sd B9 done Z hltZ Ds;have q4:=λt'=>Se B9 done Z hltZ Ds t';rw[←hX]at q1 q3 q4;rw[hZ]at q3;have q2:X[i]'q1=B9 Z[i]:=by subst hX;exact q2'
  clear q2';have e2:∀t',E3 t'=E3 l[i]->H5 (done++[t'])=H5 (l.take (i+1)):=λt' ht=>by
   rw[A0g A7,E4,A0j,←E4,hd,E4,E4,A0j,A0b,A0c,A0b,A0c,ht]
  have Bs:=H4 hfam;clear hd;generalize l[i]=s at *
  obtain⟨d1,d2,d3,d4⟩:=MW ht1;have hag:AV.agg [.int .i64 t1.kind,.str t1.name,.int .i64 t1.sort,sl mk 4 (A4 K)]=B9 (.mk t1.kind t1.name t1.sort mk K):=rfl;have her:E3 (.mk t1.kind t1.name t1.sort mk K)=E3 s:=by
   obtain⟨k0,nm0,s0,m0,l0⟩:=s;simp only[Tm.kind,Tm.name,Tm.sort,Tm.kids]at d1 d2 d3 hK;simp only[E3,hK,Tm.mk.injEq];exact⟨d1,d2,d3,trivial,trivial⟩
  by_cases hk0:s.kids=[]
  .have hag2:AV.agg [.int .i64 t1.kind,.str t1.name,.int .i64 t1.sort,sl (true,false) 1 []]=B9 (.mk t1.kind t1.name t1.sort (true,false) []):=rfl;have her2:E3 (.mk t1.kind t1.name t1.sort (true,false) [])=E3 s:=by
    rw[←her];have:K=[]:=by
     rw[hk0]at hK;cases K with
     |nil=>rfl
     |cons a K=>simp[H5]at hK
    simp only[E3,this]
   have hkn:s.kids.length=0:=by rw[hk0];rfl
   have q5:=q4 (.mk t1.kind t1.name t1.sort (true,false) []);have e3:=e2 _ her2;generalize hY:(done++[Tm.mk t1.kind t1.name t1.sort (true,false) []]++Z.drop (i+1)).map B9=Y at *
   clear hX;simp[HS,A6,k3,k9,k10,k11,A7,L3,hR,hO,hx,q2,q3,Bs,hag,hkn,hag2,q5,Tm.kind_mk,Tm.name_mk,Tm.sort_mk];exact G0 hJ ⟨i+1,by omega,by simp[A6],_,_,Y,hY.symm,rfl,e3,by simp[Ds]⟩
  .have hkn:s.kids.length≠0:=by
    intro h;exact hk0 (List.eq_nil_of_length_eq_zero h)
   have q5:=q4 (.mk t1.kind t1.name t1.sort mk K);have e3:=e2 _ her;generalize hY:(done++[Tm.mk t1.kind t1.name t1.sort mk K]++Z.drop (i+1)).map B9=Y at *
   simp[HS,A6,k3,k9,k10,k11,A7,L3,hR,hO,hx,q2,q3,Bs,hag,hkn,q5];exact G0 hJ ⟨i+1,by omega,by simp[A6],_,_,Y,hY.symm,rfl,e3,by simp[Ds]⟩
 .obtain⟨B,done,X,hX,rfl,hd,Ds⟩:=hr;have e:i=l.length:=by omega
  subst e;rw[A0v]at hd;rw[List.drop_of_length_le (by omega),A0w,←C9]at hX;simp[HS,A6,k10,k11];exact hΦ _ _ _ ⟨rfl,B,done,by rw[hX],hd,Ds⟩
theorem vy:∀(n:Nat) (l:G7),Tm.sizes l<=n->Tm.sizes l<=1048576->∀m:Bool×Bool,∃(l':G7) (m':I6),pc Q JP [sl m 4 (A4 l)]=some (sl m' 4 (A4 l'))/\H5 l'=H5 l:=by
 intro n
 induction n with
 |zero =>
  intro l h _ m;have hl0:l=[]:=by
   cases l with
   |nil=>rfl
   |cons a l =>
    have:=a.size_pos;simp only[Tm.sizes]at h;omega
  subst hl0
  suffices h:∃v,pc Q JP [sl m 4 (A4 [])]=some v/\∃q:Bool×Bool,v=sl q 4 (A4 []) by
   obtain⟨v,h1,q,rfl⟩:=h;exact⟨[],q,h1,rfl⟩
  have hr:H3=140737488355328:=rfl;have hm:maxLen=9223372036854775807:=rfl;have hn:A4 []=[]:=rfl;refine Fj Mu λΨ hΨ fr hl h0=>?_;simp[Mu]at hl h0;simp[Mu,hl,h0,hr,hm,hn];refine M4 ?_;simp[HS,hl];exact hΨ _ ⟨(false,true),rfl⟩
 |succ n ih =>
  intro l hn hb m;have hll:=Tm.length_le l;have hlv:(A4 l).length=l.length:=by rw[C9,A0i]
  have hr:(l.length:Int)*56<=H3/\(l.length:Int)<=maxLen:=by
   have e1:H3=140737488355328:=rfl;have e2:maxLen=9223372036854775807:=rfl;omega
  have hz:A0p l.length (AV.agg [.int .i64 0,.str (bs []),.int .i64 0,.vs true 0 []])=A4 (A0p l.length iF):=by
   rw[uJ,C9,List.map_replicate]
  suffices h:∃v,pc Q JP [sl m 4 (A4 l)]=some v/\∃q:List Tm×(Bool×Bool),v=sl q.2 4 (A4 q.1)/\H5 q.1=H5 l by
   obtain⟨v,h1,q,rfl,h2⟩:=h;exact⟨q.1,q.2,h1,h2⟩
  have Gl:=sC m l 0 (by omega) (A0p l.length iF) (by simp) (λt ht=>by have:=Tm.size_le ht;omega) (λt ht=>by
   have h1:=Tm.size_le ht;have h2:=t.kids_size;obtain⟨K,m',a,b⟩:=ih t.kids (by omega) (by omega) t.cm;exact⟨K,m',a,b⟩)
  clear ih;refine Fj Mu λΨ hΨ fr hl h0=>?_;simp[Mu]at hl h0;simp[Mu,hl,h0,hr,hz];refine B6.mono (Gl _ _ ?_ ?_ ?_ ?_ ?_ ?_) ?_<;>first|(simp[hl];done)|skip
  rintro e D4 h1 ⟨K,rfl,B,done,rfl,hd,Ds⟩;have J3:D4.length=42:=K.1.trans (by simp[hl]);have OP:A0 D4 3=.sl 0 l.length 0 l.length:=A8 K 3 (by simp[hl]);clear K;have hf:∀B',Ev ⟨B',[⟨A4 done,4,true⟩]⟩ true (.sl 0 l.length 0 l.length)=some (sl (false,true) 4 (A4 done)):=λB'=>Jb (b:=true) rfl (by rw[C9,A0i,Ds]);simp[J3,OP,hf];exact hΨ _ ⟨(done,(false,true)),rfl,hd⟩
theorem fM (m:I6) (l:G7) (B8:l.length<=1048576) (hv:∀t∈l,OkT t) (fr:Fr) (h:AH) (hl:fr.length=26) (h14:A0 fr 14=sl m 4 (A4 l)) (h15:A0 fr 15=.int .i64 l.length) (h16:A0 fr 16=.int .i64 0) :
  B6 (lp (A2 (K8 Q) (D6 Lr) Im) (fr,h)) λe C3 h'=>Kp Im.wr fr C3/\e=.exit 0:=by
 refine A9 rfl fr (λn fr h'=>∃(i:Nat),i+n=l.length/\A0 fr 16=.int .i64 (i:Nat)/\True) ?_ l.length h ⟨0,by omega,h16,trivial⟩;rintro J Φ hJ hΦ n D4 H1 K ⟨i,hi,k16,hr⟩;have A6:=K.1.trans hl;have k14:=A8 K 14 h14;have k15:=A8 K 15 h15;clear K;by_cases A7:i<l.length
 .have L3:=C6 i (by omega);have hx:=I0 A7;have ho:=hv l[i] (A0Z A7);have hV:=Hi l[i] (by have:=ho.size;omega);rw[(w7 ho.valid).1]at hV;obtain⟨bx,F⟩:=H1;generalize l[i]=s at *
  simp[Im,A6,k14,k15,k16,A7,L3,hx,hV];exact G0 hJ ⟨i+1,by omega,by simp[A6],trivial⟩
 .simp[Im,A6,k15,k16,A7];exact hΦ _ _ _ rfl
theorem aa (u:Tm) (hu:OkT u):pc Q Lr [sl (true,false) 1 [],sl (true,true) 4 [B9 u]]=some (.int .i64 0):=by
 have hfl:(([((true,false),[]),((true,true),[u])]:List ML).flatMap λq=>q.2)=[u]:=by simp
 obtain⟨mc,hC⟩:=aO (true,true) [((true,false),[]),((true,true),[u])] (by simp) (by unfold OF;rw[hfl];simp);rw[hfl]at hC;simp only[A0b,A0c,jY,show A4 []=[] from rfl,show A4 [u]=[B9 u] from rfl,o6 (true,false) rfl 4 1]at hC;refine N3 SM λfr hl h0 h1=>?_;simp[SM]at hl h0 h1;simp[SM,hl,h0,h1,hC,A5];refine B6.mono (fM mc [u] (by simp) (λt ht=>by rw[A0e.1 ht];exact hu) _ _ ?_ ?_ ?_ ?_) ?_<;>first|(simp[hl,show A4 [u]=[B9 u] from rfl];done)|skip
 rintro e D4 DD ⟨K,rfl⟩;have A6:D4.length=26:=K.1.trans (by simp[hl]);simp[A6]
theorem Rk (u:Tm) (hf:u.kind=3->u.name∈AX):pc Q EN [B9 u]=some (sl (true,true) 4 [B9 u]):=by
 by_cases hk:u.kind=3
 .obtain⟨-,-,-,-,-,-,n7,-,-,-,-,n12,-⟩:=Li (hf hk);have hag:AV.agg [.int .i64 3,.str u.name,.int .i64 u.sort,sl u.cm 4 (A4 u.kids)]=B9 u:=by rw[←hk];exact Vk u
  refine H6 Eu λfr hl h0=>?_;simp[Eu]at hl h0;simp[Eu,hl,h0,hk,hag,n7,n12,A5]
 .refine H6 Eu λfr hl h0=>?_;simp[Eu]at hl h0;simp[Eu,hl,h0,hk,A5]
theorem sX (u:Tm) (hu:OkT u):∃(u':Tm) (m':I6),pc Q OV [B9 u]=some (.tup [sl m' 4 [B9 u'],.int .i64 0])/\E3 u'=E3 u:=by
 have hR:=aa u hu;have hS:=Rk u hu.nm;obtain⟨l',m',hO,he⟩:=vy _ [u] (A0f _) (by have:=hu.size;simp only[Tm.sizes];omega) (true,true);obtain⟨u',rfl⟩:∃u',l'=[u']:=by
  have hl:l'.length=1:=by
   have:=congrArg List.length he;simpa[E4]using this
  match l',hl with
  | [a],_=>exact⟨a,rfl⟩
 have he':E3 u'=E3 u:=by simpa[H5]using he
 rw[show A4 [u]=[B9 u] from rfl,show A4 [u']=[B9 u'] from rfl]at hO;refine⟨u',m',?_,he'⟩;refine H6 SL λfr hl h0=>?_;simp[SL]at hl h0;simp[SL,hl,h0,hR,hS,hO,A5]
@[simp] theorem mp_isTup (b:Nat):(AV.mp b).isTup=false:=rfl
@[simp] theorem mp_cells (b:Nat):(AV.mp b).cells=[.mp b]:=rfl
theorem tV (k:Nat) (h:AH) (u:Tm) (hu:u.size<=1048576) (hk:h.fams[k]?=some ⟨[B9 u],4,true⟩):rc Q E1 [.sl k 1 0 1,.fn C4 []] h=some (C5,h):=by
 obtain⟨l',hp,-,hS⟩:=Uh k h [u] hk (by simp) (by simp;omega) (by simp);have hl':l'=[u]:=A0q.1 hp;subst hl';rw[show A4 [u]=[B9 u] from rfl,DR hk]at hS;exact hS
theorem gR (g:FuncId) (k:Nat) (h:AH) (u:Tm) (hg:Vn g [u]) (hk:h.fams[k]?=some ⟨[B9 u],4,true⟩):rc Q D5 [.sl k 1 0 1,.fn g []] h=some (.sl k 1 0 1,h):=by
 obtain⟨Z,hZ,hZR,hK⟩:=NU g [u] hg k h hk (by simp);have hZ1:Z=[u]:=by
  have:(T5 [u])=[u]:=rfl;rw[this]at hZR;rw[←hZR,A0o (by simp[hZ])]
 subst hZ1;rw[show A4 [u]=[B9 u] from rfl,DR hk]at hK;exact hK
theorem pm (a b:Tm) (h:a.size<=1099511627776) (h':b.size<=1099511627776):pc Q DP [B9 a,B9 b]=some (.bool (decide (H7 a b=0))):=by
 have hC:=y7 _ a b (A0f _) h h';refine N3 KL λfr hl h0 h1=>?_;simp[KL]at hl h0 h1;simp[KL,hl,h0,h1,hC]
theorem gP (B:List (List AV)) (F:List Fam):rc Q I4 [sl (true,false) 1 []] ⟨B,F⟩=some (.vs true 0 [],⟨B,F⟩):=by
 suffices hq:∃v h',rc Q I4 [sl (true,false) 1 []] ⟨B,F⟩=some (v,h')/\(v=.vs true 0 []/\h'=⟨B,F⟩) by
  obtain⟨v,h',h1,rfl,rfl⟩:=hq;exact h1
 refine gO R7 λfr hl h0=>?_;simp[R7]at hl h0;simp[R7,hl,h0,To]
theorem wH (u:Tm) (hu:OkT u) (B:List (List AV)) (F:List Fam) :
  ∃(k:Nat) (h':AH) (a b:AV) (B':List (List AV)),rc Q s6 [sl (true,false) 1 [],B9 u] ⟨B,F⟩=some (.ptr (B.length+3) 0,h') /\
   h'.boxes=B++[(B9 u).cells]++[[.mbox [] []],[.mbox [] []],[.sl k 1 0 1,.int .i64 0,.mp (B.length+1),.mp (B.length+2),.vs true 0 []]]++B'/\h'.fams[k]?=some ⟨[B9 u],4,true⟩:=by
 have hs:=hu.size;have hS:=Rk u hu.nm;have hC:=gP;have hr:H3=140737488355328:=rfl;have hm:maxLen=9223372036854775807:=rfl;have hmu:ZI s6=true:=rfl;have h01:IntKind.i64.wrap 1=1:=by decide
 have hcm:Vn DP [u]:=⟨rfl,λa ha b hb=>by
  rw[A0e]at ha hb;exact pm a b (by rw[ha];omega) (by rw[hb];omega)⟩
 have hso:∀B',rc Q E1 [.sl (F.length+1) 1 0 1,.fn C4 []] ⟨B',F++[⟨[B9 u],4,true⟩,⟨[B9 u],4,true⟩]⟩=some (C5,⟨B',F++[⟨[B9 u],4,true⟩,⟨[B9 u],4,true⟩]⟩):=λB'=>tV _ _ u (by omega) (by simp);have hco:∀B',rc Q D5 [.sl (F.length+1) 1 0 1,.fn DP []] ⟨B',F++[⟨[B9 u],4,true⟩,⟨[B9 u],4,true⟩]⟩=some (.sl (F.length+1) 1 0 1,⟨B',F++[⟨[B9 u],4,true⟩,⟨[B9 u],4,true⟩]⟩):=λB'=>gR _ _ _ u hcm (by simp)
 suffices hq:∃v h',rc Q s6 [sl (true,false) 1 [],B9 u] ⟨B,F⟩=some (v,h')/\∃(k:Nat) (B':List (List AV)),v=.ptr (B.length+3) 0 /\
   h'.boxes=B++[(B9 u).cells]++[[.mbox [] []],[.mbox [] []],[.sl k 1 0 1,.int .i64 0,.mp (B.length+1),.mp (B.length+2),.vs true 0 []]]++B'/\h'.fams[k]?=some ⟨[B9 u],4,true⟩ by
  obtain⟨v,h',h1,k,B',rfl,h2,h3⟩:=hq;exact⟨k,h',.nilp,.nilp,B',h1,h2,h3⟩
 refine Dm MU λfr hl h0 h1=>?_;simp[MU]at hl h0 h1;simp[MU,hl,h0,h1,C8,D8,hC,A5,hr,hm,hmu];refine M4 ?_;simp[OA,hl,hS,hr,hm,hmu,h01];refine M4 ?_;simp[hl,h0,hso,hco];refine M4 ?_;simp[Oe,hl]
theorem pn:pc Q He [sl (false,true) 1 [.int .u64 1],.int .i64 1]=some (.int .i64 0):=by
 have hH:pc Q Gz [sl (false,true) 1 [.int .u64 1],.int .i64 0]=some (.bool true):=by
  have e1:G8 .quo (.int .i64 0) (.int .i64 64)=some (.int .i64 0):=by rfl
  have e2:G8 .rem (.int .i64 0) (.int .i64 64)=some (.int .i64 0):=by rfl
  have e3:G8 .shr (.int .u64 1) (.int .i64 0)=some (.int .u64 1):=by rfl
  have e4:G8 .and (.int .u64 1) (.int .u64 1)=some (.int .u64 1):=by rfl
  refine N3 Nz λfr hl h0 h1=>?_;simp[Nz]at hl h0 h1;simp[Nz,hl,h0,h1,e1,e2,e3,e4]
 refine N3 LK λfr hl h0 h1=>?_;simp[LK]at hl h0 h1;simp[LK,h1];refine M4 ?_;simp[Ny,hl,h0,hH]
theorem tT (k:Nat) (h:AH) (hk:h.fams[k]?=some ⟨[.int .u64 0],1,true⟩):rc Q BC [.sl k 1 0 1,.int .i64 0] h=some (C5,⟨h.boxes,h.fams.set k ⟨[.int .u64 1],1,true⟩⟩):=by
 have Bs:=H4 hk
 suffices hq:∃v h',rc Q BC [.sl k 1 0 1,.int .i64 0] h=some (v,h')/\(v=C5/\h'=⟨h.boxes,h.fams.set k ⟨[.int .u64 1],1,true⟩⟩) by
  obtain⟨v,h',h1,rfl,rfl⟩:=hq;exact h1
 have e1:G8 .quo (.int .i64 0) (.int .i64 64)=some (.int .i64 0):=by rfl
 have e2:G8 .rem (.int .i64 0) (.int .i64 64)=some (.int .i64 0):=by rfl
 have e3:G8 .shl (.int .u64 1) (.int .i64 0)=some (.int .u64 1):=by rfl
 have e4:G8 .xor (.int .u64 0) (.int .u64 1)=some (.int .u64 1):=by rfl
 refine Dm MT λfr hl h0 h1=>?_;simp[MT]at hl h0 h1;simp[MT,hl,h0,h1,e1,e2,e3,e4,hk]
theorem yd (u:Tm) (hu:OkT u) (a k:Nat) (B:List (List AV)) (F:List Fam) (c1 c2 c3 c4:AV) (ha:B[a]?=some [.sl k 1 0 1,c1,c2,c3,c4]) (hk:F[k]?=some ⟨[B9 u],4,true⟩) :
  ∃B',rc Q y6 [.ptr a 0,B9 u] ⟨B,F⟩=some (.sl F.length 1 0 1,⟨B++B',F++[⟨[.int .u64 1],1,true⟩]⟩):=by
 have hs:=hu.size;have hS:=Rk u hu.nm;have hr:H3=140737488355328:=rfl;have hm:maxLen=9223372036854775807:=rfl;have h01:IntKind.i64.wrap 1=1:=by decide
 have e1:G8 .quo (.int .i64 1) (.int .i64 64)=some (.int .i64 0):=by rfl
 have Bs:=H4 hk;have hal:=H4 ha;have hBST:=lZ (false,true) u (by omega);have hcol:∀(B2:List (List AV)) (F2:List Fam),B2[a]?=some [.sl k 1 0 1,c1,c2,c3,c4]->F2[k]?=some ⟨[B9 u],4,true⟩->rc Q r6 [.ptr a 0,B9 u] ⟨B2,F2⟩=some (.int .i64 0,⟨B2++[(B9 u).cells],F2⟩):=by
  intro B2 F2 hB2 hF2
  suffices hq:∃v h',rc Q r6 [.ptr a 0,B9 u] ⟨B2,F2⟩=some (v,h')/\(v=.int .i64 0/\h'=⟨B2++[(B9 u).cells],F2⟩) by
   obtain⟨v,h',h1,rfl,rfl⟩:=hq;exact h1
  have hB3:(B2++[(B9 u).cells])[a]?=some [.sl k 1 0 1,c1,c2,c3,c4]:=by rw[A0a (H4 hB2)];exact hB2
  have hz:∀B',Ev ⟨B',F2⟩ true (.sl k 1 0 1)=some (sl (false,true) 4 [B9 u]):=λB'=>Jb hF2 rfl;simp only[I3]at hB3;refine Dm II λfr hl h0 h1=>?_;simp[II]at hl h0 h1;simp[II,hl,h0,h1,hB3,hz,hBST]
 suffices hq:∃v h',rc Q y6 [.ptr a 0,B9 u] ⟨B,F⟩=some (v,h')/\∃B',v=.sl F.length 1 0 1/\h'=⟨B++B',F++[⟨[.int .u64 1],1,true⟩]⟩ by
  obtain⟨v,h',h1,B',rfl,rfl⟩:=hq;exact⟨B',h1⟩
 have ha1:(B++[(B9 u).cells])[a]?=some [.sl k 1 0 1,c1,c2,c3,c4]:=by rw[A0a hal];exact ha
 have ha2:(B++[(B9 u).cells,(B9 u).cells])[a]?=some [.sl k 1 0 1,c1,c2,c3,c4]:=by rw[A0a hal];exact ha
 have hk1:(F++[⟨[.int .u64 0],1,true⟩])[k]?=some ⟨[B9 u],4,true⟩:=by rw[A0a Bs];exact hk
 have hc:=hcol _ _ ha2 hk1;have hf:=tT F.length ⟨B++[(B9 u).cells,(B9 u).cells,(B9 u).cells],F++[⟨[.int .u64 0],1,true⟩]⟩ (by simp);simp only[I3,A0s,A0u,A0m]at ha1 hc hf;refine Dm LL λfr hl h0 h1=>?_;simp[LL]at hl h0 h1;simp[LL,hl,h0,h1,ha1,e1,h01,hr,hm,hS];refine M4 ?_;simp[OB,hl,h0,hc,hf,h01];refine M4 ?_;simp[hl]
theorem kG (u:Tm) (a k k2 x:Nat) (B:List (List AV)) (F:List Fam) (c3 c4:AV) (ha:B[a]?=some [.sl k 1 0 1,.int .i64 0,.mp x,c3,c4]) (hx:B[x]?=some [.mbox [] []]) (hk:F[k]?=some ⟨[B9 u],4,true⟩) :
  rc Q W1 [.ptr a 0,.sl k2 1 0 1] ⟨B,F⟩=some (.tup [.sl k2 1 0 1,.sl F.length 1 0 1],⟨B,F++[⟨[.int .u64 0],1,true⟩]⟩):=by
 have hr:H3=140737488355328:=rfl;have hm:maxLen=9223372036854775807:=rfl;have h01:IntKind.i64.wrap 1=1:=by decide
 have e1:G8 .quo (.int .i64 0) (.int .i64 64)=some (.int .i64 0):=by rfl
 suffices hq:∃v h',rc Q W1 [.ptr a 0,.sl k2 1 0 1] ⟨B,F⟩=some (v,h')/\(v=.tup [.sl k2 1 0 1,.sl F.length 1 0 1]/\h'=⟨B,F++[⟨[.int .u64 0],1,true⟩]⟩) by
  obtain⟨v,h',h1,rfl,rfl⟩:=hq;exact h1
 have hml:∀F' z,Gq false true z ⟨B,F'⟩ (.mp x) (.int .i64 0)=some (.tup [z,.bool false],⟨B,F'⟩):=by
  intro F' z;have e:GZ ⟨B,F'⟩ (.mp x)=some ([],[]):=by simp only[GZ,hx]
  simp only[Gq,e];rfl
 refine Dm IJ λfr hl h0 h1=>?_;simp[IJ]at hl h0 h1;simp[IJ,hl,h0,ha,e1,h01,hr,hm];refine M4 ?_;simp[KZ,hl,h0,ha,hml,h01];refine M4 ?_;simp[hl,h1]
theorem vh (u:Tm) (hu:OkT u):∃v,pc Q Tl [sl (true,false) 1 [],B9 u]=some (.tup [v,.int .i64 4]):=by
 obtain⟨k,⟨B1,F1⟩,-,-,B',hE,hB,hk⟩:=wH u hu [(B9 u).cells] [];simp only at hB hk;subst hB;have hR:=aa u hu;obtain⟨B2,hW⟩:=yd u hu 4 k ((B9 u).cells::(B9 u).cells::[AV.mbox [] []]::[AV.mbox [] []]::[AV.sl k 1 0 1,.int .i64 0,.mp 2,.mp 3,.vs true 0 []]::B') F1 _ _ _ _ rfl hk;have hD:=kG u 4 k F1.length 2 (((B9 u).cells::(B9 u).cells::[AV.mbox [] []]::[AV.mbox [] []]::[AV.sl k 1 0 1,.int .i64 0,.mp 2,.mp 3,.vs true 0 []]::B')++B2) (F1++[⟨[.int .u64 1],1,true⟩]) _ _ rfl rfl (by rw[A0a (H4 hk)];exact hk);have hF:=pn;have hz:∀B',Ev ⟨B',F1++[⟨[.int .u64 1],1,true⟩]++[⟨[.int .u64 0],1,true⟩]⟩ true (.sl F1.length 1 0 1)=some (sl (false,true) 1 [.int .u64 1]):=λB'=>Jb (b:=true) (by simp) rfl;simp only[A0h,Nat.reduceAdd,A0u,A0m,A0s,I3]at hE hW hD hz;refine⟨sl (true,false) 1 [],?_⟩;refine N3 Ty λfr hl h0 h1=>?_;simp[Ty]at hl h0 h1;simp[Ty,hl,h0,h1,hR,A5,hE,hW,hD,hz,hF]
theorem cH (m:I6) (S:G7) (B8:S.length<=1048576) (hs:∀x∈S,OkT x) (p:AV) (C:G6) (fr:Fr) (h:AH) (h5:A0 fr 5=p) (hB:∃B,h.boxes=C::B) (hl:fr.length=69) (h22:A0 fr 22=sl m 4 (A4 S)) (h23:A0 fr 23=.int .i64 S.length) (h24:A0 fr 24=.int .i64 0) :
  B6 (lp (A2 (K8 Q) (D6 j6) X7) (fr,h)) λe C3 h'=>Kp X7.wr fr C3/\(e=.exit 0/\A0 C3 5=p/\∃B,h'.boxes=C::B):=by
 refine A9 rfl fr (λn fr h'=>∃(i:Nat),i+n=S.length/\A0 fr 24=.int .i64 (i:Nat)/\(A0 fr 5=p/\∃B,h'.boxes=C::B)) ?_ S.length h ⟨0,by omega,h24,h5,hB⟩;rintro J Φ hJ hΦ n D4 H1 K ⟨i,hi,k24,hr⟩;have A6:=K.1.trans hl;have k22:=A8 K 22 h22;have k23:=A8 K 23 h23;clear K;by_cases A7:i<S.length
 .have L3:=C6 i (by omega);obtain⟨hr,B,hB⟩:=hr;have hx:=I0 A7;have hX:=Rg S[i] (bs [120,111,114]);rw[Xe (hs _ (A0Z A7)).nm (by decide)]at hX;obtain⟨bx,F⟩:=H1;simp only at hB;subst hB;generalize S[i]=s at *
  simp[X7,A6,k22,k23,k24,A7,L3,hx,hX,A5];exact G0 hJ ⟨i+1,by omega,by simp[A6],by simp[hr],_,rfl⟩
 .obtain⟨hr,hB⟩:=hr;simp[X7,A6,k23,k24,A7];exact hΦ _ _ _ ⟨rfl,by simp[hr],hB⟩
theorem cG (m mr:I6) (S R:G7) (B8:S.length<=1048576) (hs:∀x∈S,OkT x) (hR:Y5 R) (hRl:R.length<=1048576) (hRs:∀x∈R,x.size<=1048576) (hn:∀x∈S,K4 R x=false) (C:G6) (fr:Fr) (h:AH) (h12:A0 fr 12=.vs true 0 []) (hB:∃B,h.boxes=C::B) (hl:fr.length=69) (h11:A0 fr 11=sl mr 4 (A4 R)) (h42:A0 fr 42=sl m 4 (A4 S)) (h43:A0 fr 43=.int .i64 S.length) (h44:A0 fr 44=.int .i64 0) :
  B6 (lp (A2 (K8 Q) (D6 j6) X6) (fr,h)) λe C3 h'=>Kp X6.wr fr C3/\(e=.exit 2/\A0 C3 12=.vs true 0 []/\∃B,h'.boxes=C::B):=by
 refine A9 rfl fr (λn fr h'=>∃(i:Nat),i+n=S.length/\A0 fr 44=.int .i64 (i:Nat)/\(A0 fr 12=.vs true 0 []/\∃B,h'.boxes=C::B)) ?_ S.length h ⟨0,by omega,h44,h12,hB⟩;rintro J Φ hJ hΦ n D4 H1 K ⟨i,hi,k44,hr⟩;have A6:=K.1.trans hl;have k11:=A8 K 11 h11;have k42:=A8 K 42 h42;have k43:=A8 K 43 h43;clear K;by_cases A7:i<S.length
 .have L3:=C6 i (by omega);obtain⟨hr,B,hB⟩:=hr;have hx:=I0 A7;have ho:=hs _ (A0Z A7);have hX:=Rg S[i] (bs [120,111,114]);rw[Xe ho.nm (by decide)]at hX;have hH:=Ko mr R S[i] hR (by omega) (λx hx=>by have:=hRs x hx;omega) (by have:=ho.size;omega);rw[hn _ (A0Z A7)]at hH;obtain⟨bx,F⟩:=H1;simp only at hB;subst hB;generalize S[i]=s at *
  simp[X6,A6,k11,k42,k43,k44,A7,L3,hx,hX,hH,A5];exact G0 hJ ⟨i+1,by omega,by simp[A6],by simp[hr],_,rfl⟩
 .obtain⟨hr,hB⟩:=hr;simp[X6,A6,k43,k44,A7];exact hΦ _ _ _ ⟨rfl,by simp[hr],hB⟩
theorem pi (m:I6) (S:G7) (B8:S.length<=1048576) (hs:∀x∈S,OkT x) (u:Tm) (hu:OkT u) (hn:K4 S u=false) :
  pc Q j6 [sl m 4 (A4 S),B9 u]=some (.bool false):=by
 obtain⟨u',m',hP,he⟩:=sX u hu;obtain⟨R,mr,hO,x4,hsub,hRl⟩:=gC m' [u'] (λt ht=>by rw[A0e.1 ht];have:=(hu.er he).size;omega) (by simp);rw[show A4 [u']=[B9 u'] from rfl]at hO;obtain⟨v,hSp⟩:=vh u hu;have hnR:∀x∈S,K4 R x=false:=by
  intro x hx;rw[mL x4];have h1:=Zw hn hx;have:KU u' x=KU u x:=by
   unfold KU;rw[A0d,decide_eq_true_iff,decide_eq_true_iff,V7,V7,he]
  simp[K4,this,h1]
 refine N3 FQ λfr hl h0 h1=>?_;simp[FQ]at hl h0 h1;simp[FQ,hl,h0,h1,hP];refine B6.mono (cH m S B8 hs (sl m' 4 [B9 u']) (B9 u).cells _ _ ?_ ?_ ?_ ?_ ?_ ?_) ?_<;>first|(simp[hl];done)|skip
 rintro e D4 ⟨bx,F⟩ ⟨K,rfl,k5,B,hB⟩;simp only at hB;subst hB;have J3:D4.length=69:=K.1.trans (by simp[hl]);have NC:A0 D4 0=sl m 4 (A4 S):=A8 K 0 (by simp[h0]);have OP:A0 D4 3=.ptr 0 0:=A8 K 3 (by simp[hl]);clear K;simp[J3,NC,k5,hO];refine B6.mono (cG m mr S R B8 hs x4.1 (by simp only[A0h]at hRl;omega) (λx hx=>by rw[A0e.1 (hsub x hx)];have:=(hu.er he).size;omega) hnR (B9 u).cells _ _ ?_ ?_ ?_ ?_ ?_ ?_ ?_) ?_<;>first|(simp[J3];done)|skip
 rintro e Q6 ⟨bx,F2⟩ ⟨K,rfl,k12,B2,hB⟩;simp only at hB;subst hB;have Bb:Q6.length=69:=K.1.trans (by simp[J3]);have k3:A0 Q6 3=.ptr 0 0:=A8 K 3 (by simp[OP]);clear K;simp[Bb,k12,k3,hSp]
def Du (S:List Tm) (u:Tm):Bool:=OQ u||Fw S u||Mk S u
theorem vv (m:I6) (S:G7) (hS:Y5 S) (B8:S.length<=1048576) (hs:∀x∈S,OkT x) (u:Tm) (hu:OkT u) (hn:K4 S u=false) :
  pc Q Gr [sl m 4 (A4 S),B9 u]=some (.bool (Du S u)):=by
 have hs2:∀x∈S,x.size<=1099511627776:=λx hx=>by have:=(hs x hx).size;omega
 have husz:=hu.size;have q0:=Ko m S u hS (by omega) hs2 (by omega);rw[hn]at q0;have q1:=og u hu.nm hu.ow;have q2:=fi m S hS B8 hs2 u (by omega);have q3:=oz m S hS B8 hs u (by omega);have q4:=pi m S B8 hs u hu hn;have q5:=pS m S B8 hs u hu hn;have q6:=ZM m S hS B8 hs u hu hn;unfold Du;generalize OQ u=c1 at *
 generalize Fw S u=c2 at *
 generalize Mk S u=c3 at *
 cases c1 with
 |true =>
  refine N3 J2 λfr hl h0 h1=>?_;simp[J2]at hl h0 h1;simp[J2,hl,h0,h1,q0,q1]
 |false =>
  cases c2 with
  |true =>
   refine N3 J2 λfr hl h0 h1=>?_;simp[J2]at hl h0 h1;simp[J2,hl,h0,h1,q0,q1,q2]
  |false =>
   cases c3 with
   |true =>
    refine N3 J2 λfr hl h0 h1=>?_;simp[J2]at hl h0 h1;simp[J2,hl,h0,h1,q0,q1,q2,q3]
   |false =>
    refine N3 J2 λfr hl h0 h1=>?_;simp[J2]at hl h0 h1;simp[J2,hl,h0,h1,q0,q1,q2,q3,q4,q5,q6]
end Go.Abs.Q
