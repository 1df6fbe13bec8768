/- A part of the proof. -/
import Derived.Test.YtohjdamplbhdpaaGreatDoorSB16
set_option linter.all false
open List renaming getElem_mem->A0O,getElem?_append_left->A0P,map_cons->A0Q,map_nil->A0R,mem_singleton->A0T,take_succ_eq_append_getElem->A0V,length_singleton->A0W,length_map->A0X,map_append->A0Y,drop_eq_getElem_cons->A0a,nil_append->A0b,drop_eq_nil_of_le->A0c,take_of_length_le->A0d,replicate->A0e,perm_singleton->A0f,append_assoc->A0h,cons_append->A0j,take_length->A0k,append_nil->A0l,length_nil->A0m,any_cons->A0o,any_nil->A0p
open Bool renaming eq_iff_iff->A0S,eq_false_iff->A0Z,and_eq_true->A0i,or_false->A0n
open Nat renaming le_refl->A0U,lt_or_eq_of_le->A0g
namespace Go.Abs.Q
open Go.Proofs
attribute [local simp] E6 E7 fin K1 H4 P2 L5 R0 Q9
@[simp] theorem frz_pv (h:AH) (am:Bool) (cs:G4):KI h am (.pv cs)=some (.pv cs):=rfl
@[simp] theorem frz_fnc (h:AH) (am:Bool) (g:FuncId) (caps:G4):KI h am (.fn g caps)=if caps.all AV.flat=true then some (.fn g caps)else none:=rfl
@[simp] theorem tame_fnc (h:AH) (g:FuncId) (caps:G4):CO h (.fn g caps)=true:=rfl
@[simp] theorem tame_pv (h:AH) (cs:G4):CO h (.pv cs)=true:=rfl
@[simp] theorem flat_int (k:IntKind) (i:Int):AV.flat (.int k i)=true:=rfl
@[simp] theorem flat_str (s:J3):AV.flat (.str s)=true:=rfl
@[simp] theorem flat_pv (cs:G4):AV.flat (.pv cs)=true:=rfl
theorem eU (m:I6) (l:G6) (g:FuncId) (caps:G4) (p:Tm->Bool) (hg:C2 g=false) (B9:l.length<=1048576) (hfl:∀(h:AH) (x:Tm),Bm h true (B8 x::caps)=some (B8 x::caps)) (htm:∀h:AH,caps.all (CO h)=true) (hp:∀x∈l,pc Q g (B8 x::caps)=some (.bool (p x))) (fr:Fr) (h:AH) (hl:fr.length=19) (h0:A0 fr 0=sl m 4 (A4 l)) (h1:A0 fr 1=.fn g caps) (h7:A0 fr 7=.int .i64 l.length) (h8:A0 fr 8=.int .i64 0) :
  B7 (lp (A2 (K8 Q) (D6 Y9) Q0) (fr,h)) λe C3 h'=>Kp Q0.wr fr C3/\(e=.exit 0/\idx p l=-1\/e=.ret/\A0 C3 4=.int .i64 (idx p l)):=by
 refine B4 rfl fr (λn fr h'=>∃(i:Nat),i+n=l.length/\A0 fr 8=.int .i64 (i:Nat)/\S9 p i (l.drop i)=idx p l) ?_ l.length h ⟨0,by omega,h8,rfl⟩;rintro J Φ hJ hΦ n D5 H1 K ⟨i,hi,k8,hr⟩;have A6:=K.1.trans hl;have k0:=A8 K 0 h0;have k1:=A8 K 1 h1;have k7:=A8 K 7 h7;clear K;by_cases A7:i<l.length
 .have L4:=C6 i (by omega);have hx:=I0 A7;have hP:=hp l[i] (A0O A7);have hF:=λh=>hfl h l[i];rw[A0a A7]at hr;simp only[S9]at hr;generalize l[i]=s at *
  by_cases hc:p s=true
  .rw[if_pos hc]at hr;rw[hc]at hP;simp[Q0,A6,k0,k1,k7,k8,A7,hx,hP,hF,htm,hg];exact hΦ _ _ _ (.inr ⟨rfl,by simp[A6,hr]⟩)
  .have hc':p s=false:=by simpa using hc
   rw[if_neg hc]at hr;rw[hc']at hP;simp[Q0,A6,k0,k1,k7,k8,A7,L4,hx,hP,hF,htm,hg];exact G0 hJ ⟨i+1,by omega,by simp[A6],hr⟩
 .rw[A0c (by omega)]at hr;simp[Q0,A6,k7,k8,A7];exact hΦ _ _ _ (.inl ⟨rfl,hr.symm⟩)
theorem UQ (m:I6) (l:G6) (g:FuncId) (caps:G4) (p:Tm->Bool) (hg:C2 g=false) (B9:l.length<=1048576)
  (hfl:∀(h:AH) (x:Tm),Bm h true (B8 x::caps)=some (B8 x::caps)) (htm:∀h:AH,caps.all (CO h)=true) (hca:caps.all AV.flat=true) (hp:∀x∈l,pc Q g (B8 x::caps)=some (.bool (p x))) :
  pc Q i8 [sl m 4 (A4 l),.fn g caps]=some (.bool (l.any p)):=by
 have hI:pc Q Y9 [sl m 4 (A4 l),.fn g caps]=some (.int .i64 (idx p l)):=by
  refine M9 Ea λfr hl h0 h1=>?_;simp[Ea]at hl h0 h1;simp[Ea,hl,h0];refine B7.mono (eU m l g caps p hg B9 hfl htm hp _ _ ?_ ?_ ?_ ?_ ?_) ?_<;>first|(simp[hl,h0,h1];done)|skip
  rintro e D5 Cw ⟨K,⟨rfl,he⟩|⟨rfl,k4⟩⟩
  .have A6:D5.length=19:=K.1.trans (by simp[hl]);simp[A6,he]
  .simp[k4]
 have he:decide (0<=idx p l)=l.any p:=by
  rw[A0S,decide_eq_true_iff,idx,Da]
 refine M9 CB λfr hl h0 h1=>?_;simp[CB]at hl h0 h1;simp[CB,hl,h0,h1,hI,hca];exact he
theorem eT (m:I6) (l:G6) (g:FuncId) (caps:G4) (p:Tm->Bool) (hg:C2 g=false) (B9:l.length<=1048576) (hfl:∀(h:AH) (x:Tm),Bm h true (B8 x::caps)=some (B8 x::caps)) (htm:∀h:AH,caps.all (CO h)=true) (hp:∀x∈l,pc Q g (B8 x::caps)=some (.bool (p x))) (fr:Fr) (h:AH) (hl:fr.length=19) (h0:A0 fr 0=sl m 4 (A4 l)) (h1:A0 fr 1=.fn g caps) (h7:A0 fr 7=.int .i64 l.length) (h8:A0 fr 8=.int .i64 0) :
  B7 (lp (A2 (K8 Q) (D6 R8) M8) (fr,h)) λe C3 h'=>Kp M8.wr fr C3/\(e=.exit 0/\idx p l=-1\/e=.ret/\A0 C3 4=.int .i64 (idx p l)):=by
 refine B4 rfl fr (λn fr h'=>∃(i:Nat),i+n=l.length/\A0 fr 8=.int .i64 (i:Nat)/\S9 p i (l.drop i)=idx p l) ?_ l.length h ⟨0,by omega,h8,rfl⟩;rintro J Φ hJ hΦ n D5 H1 K ⟨i,hi,k8,hr⟩;have A6:=K.1.trans hl;have k0:=A8 K 0 h0;have k1:=A8 K 1 h1;have k7:=A8 K 7 h7;clear K;by_cases A7:i<l.length
 .have L4:=C6 i (by omega);have hx:=I0 A7;have hP:=hp l[i] (A0O A7);have hF:=λh=>hfl h l[i];rw[A0a A7]at hr;simp only[S9]at hr;generalize l[i]=s at *
  by_cases hc:p s=true
  .rw[if_pos hc]at hr;rw[hc]at hP;simp[M8,A6,k0,k1,k7,k8,A7,hx,hP,hF,htm,hg];exact hΦ _ _ _ (.inr ⟨rfl,by simp[A6,hr]⟩)
  .have hc':p s=false:=by simpa using hc
   rw[if_neg hc]at hr;rw[hc']at hP;simp[M8,A6,k0,k1,k7,k8,A7,L4,hx,hP,hF,htm,hg];exact G0 hJ ⟨i+1,by omega,by simp[A6],hr⟩
 .rw[A0c (by omega)]at hr;simp[M8,A6,k7,k8,A7];exact hΦ _ _ _ (.inl ⟨rfl,hr.symm⟩)
theorem UP (m:I6) (l:G6) (g:FuncId) (caps:G4) (p:Tm->Bool) (hg:C2 g=false) (B9:l.length<=1048576)
  (hfl:∀(h:AH) (x:Tm),Bm h true (B8 x::caps)=some (B8 x::caps)) (htm:∀h:AH,caps.all (CO h)=true) (hca:caps.all AV.flat=true) (hp:∀x∈l,pc Q g (B8 x::caps)=some (.bool (p x))) :
  pc Q U9 [sl m 4 (A4 l),.fn g caps]=some (.bool (l.any p)):=by
 have hI:pc Q R8 [sl m 4 (A4 l),.fn g caps]=some (.int .i64 (idx p l)):=by
  refine M9 BO λfr hl h0 h1=>?_;simp[BO]at hl h0 h1;simp[BO,hl,h0];refine B7.mono (eT m l g caps p hg B9 hfl htm hp _ _ ?_ ?_ ?_ ?_ ?_) ?_<;>first|(simp[hl,h0,h1];done)|skip
  rintro e D5 Cw ⟨K,⟨rfl,he⟩|⟨rfl,k4⟩⟩
  .have A6:D5.length=19:=K.1.trans (by simp[hl]);simp[A6,he]
  .simp[k4]
 have he:decide (0<=idx p l)=l.any p:=by
  rw[A0S,decide_eq_true_iff,idx,Da]
 refine M9 AD λfr hl h0 h1=>?_;simp[AD]at hl h0 h1;simp[AD,hl,h0,h1,hI,hca];exact he
def ac:List ByteArray:=[bs [112,97,105,114],bs [101,110,99],bs [97,101,110,99],bs [112,107],bs [115,105,103,110],bs [104,97,115,104]]
def Fn (S:List Tm) (u:Tm):Bool:=EH u ac&&u.kids.all (K0 S)
theorem cV (m:I6) (S:G6) (hS:Y1 S) (B9:S.length<=1048576) (hs:∀x∈S,x.size<=1099511627776) (x:Tm) (hx:x.size<=1099511627776) :
  pc Q d9 [B8 x,.pv [sl m 4 (A4 S)]]=some (.bool (!K0 S x)):=by
 have hH:=Ke m S x hS (by omega) hs hx;refine M9 Bv λfr hl h0 h1=>?_;simp[Bv]at hl h0 h1;simp[Bv,hl,h0,h1,hH]
theorem fV (m:I6) (S:G6) (hS:Y1 S) (B9:S.length<=1048576) (hs:∀x∈S,x.size<=1099511627776) (u:Tm) (hu:u.size<=1048576) :
  pc Q W9 [sl m 4 (A4 S),B8 u]=some (.bool (Fn S u)):=by
 have J5:=u.kids_size;have CI:=Tm.length_le u.kids;have hI:=VJ u (true,true) ac (by decide);simp only[DL,ac,A0Q,A0R]at hI;change pc Q J6 _=some (.bool (EH u ac))at hI;have hC:=UQ u.cm u.kids d9 [.pv [sl m 4 (A4 S)]] (λx=>!K0 S x) rfl (by omega) (λh x=>by simp) (λh=>rfl) rfl
  (λx hx=>cV m S hS B9 hs x (by have:=Tm.size_le hx;omega))
 have he:(!(u.kids.any λx=>!K0 S x))=u.kids.all (K0 S):=by simp[List.all_eq_not_any_not]
 unfold Fn;rw[←he];generalize u.kids.any (λx=>!K0 S x)=b at *
 generalize EH u ac=c at *
 cases c with
 |false =>
  refine M9 R2 λfr hl h0 h1=>?_;simp[R2]at hl h0 h1;simp[R2,hl,h0,h1,hI,A5]
 |true =>
  refine M9 R2 λfr hl h0 h1=>?_;simp[R2]at hl h0 h1;simp[R2,hl,h0,h1,hI,A5,hC,CM]
def Qh (S:List Tm) (u t:Tm):Bool :=
 if p8 t (bs [112,97,105,114])then JQ (J0 t 0) u||JQ (J0 t 1) u
 else if p8 t (bs [115,105,103,110])then JQ (J0 t 0) u
 else match JI t with
  |some k=>JQ (J0 t 0) u&&K0 S k
  |none=>false
def Ma (S:List Tm) (u:Tm):Bool:=S.any (Qh S u)
theorem iX (t:Tm) (nm:J3):EH t [nm]=p8 t nm:=by
 unfold EH p8;simp only[A0o,A0p,A0n];congr 1;rw[A0S,IX,decide_eq_true_iff]
theorem xf (t:Tm) (a b:J3):EH t [a,b]=(p8 t a||p8 t b):=by
 rw[←iX,←iX];unfold EH;simp only[A0o,A0p,A0n];cases decide (t.kind=3)<;>simp
theorem RV (t:Tm) (nm:J3):pc Q J6 [B8 t,sl (true,true) 1 [.str nm]]=some (.bool (p8 t nm)):=by
 have hI:=VJ t (true,true) [nm] (by simp);change pc Q J6 _=some (.bool (EH t [nm]))at hI;rw[iX]at hI;simpa only[DL,A0Q,A0R]using hI
theorem sX (t:Tm) (a b:J3):pc Q J6 [B8 t,sl (true,true) 1 [.str a,.str b]]=some (.bool (p8 t a||p8 t b)):=by
 have hI:=VJ t (true,true) [a,b] (by simp);change pc Q J6 _=some (.bool (EH t [a,b]))at hI;rw[xf]at hI;simpa only[DL,A0Q,A0R]using hI
theorem jg (m:I6) (S:G6) (hS:Y1 S) (B9:S.length<=1048576) (hs:∀x∈S,x.size<=1099511627776) (u t:Tm) (hu:u.size<=1048576) (ht:OkT t) :
  pc Q AG [B8 t,.pv (B8 u).cells,.pv [sl m 4 (A4 S)]]=some (.bool (Qh S u t)):=by
 have hP:=RV t (bs [112,97,105,114]);have hG:=RV t (bs [115,105,103,110]);have hE:=sX t (bs [101,110,99]) (bs [97,101,110,99]);have hts:=ht.size;have J5:=t.kids_size;unfold Qh;by_cases hp:p8 t (bs [112,97,105,114])=true
 .obtain⟨a,b,hk⟩:=R7 ht hp (.inl rfl);rw[hk]at J5;simp only[Tm.sizes]at J5;have hx0:Hm (A4 t.kids) 0=some (B8 a):=by rw[hk];rfl
  have hx1:Hm (A4 t.kids) 1=some (B8 b):=by rw[hk];rfl
  have e0:J0 t 0=a:=by simp[J0,hk]
  have e1:J0 t 1=b:=by simp[J0,hk]
  have q0:=RX a u (by omega) (by omega);have q1:=RX b u (by omega) (by omega);rw[if_pos hp,e0,e1];rw[hp]at hP;generalize JQ a u=c0 at *
  generalize JQ b u=c1 at *
  cases c0 with
  |true =>
   refine Gp D1 λfr hl h0 h1 h2=>?_;simp[D1]at hl h0 h1 h2;simp[D1,hl,h0,h1,hP,hx0,q0,A5]
  |false =>
   refine Gp D1 λfr hl h0 h1 h2=>?_;simp[D1]at hl h0 h1 h2;simp[D1,hl,h0,h1,hP,hx0,hx1,q0,q1,A5]
 .have hp':p8 t (bs [112,97,105,114])=false:=by simpa using hp
  rw[if_neg hp];rw[hp']at hP;by_cases hg:p8 t (bs [115,105,103,110])=true
  .obtain⟨a,b,hk⟩:=R7 ht hg (.inr (.inr (.inr (.inl rfl))));rw[hk]at J5;simp only[Tm.sizes]at J5;have hx0:Hm (A4 t.kids) 0=some (B8 a):=by rw[hk];rfl
   have e0:J0 t 0=a:=by simp[J0,hk]
   have q0:=RX a u (by omega) (by omega);rw[if_pos hg,e0];rw[hg]at hG;refine Gp D1 λfr hl h0 h1 h2=>?_;simp[D1]at hl h0 h1 h2;simp[D1,hl,h0,h1,hP,hG,hx0,q0,A5]
  .have Z9:p8 t (bs [115,105,103,110])=false:=by simpa using hg
   rw[if_neg hg];rw[Z9]at hG;by_cases he:p8 t (bs [101,110,99])=true\/p8 t (bs [97,101,110,99])=true
   .obtain⟨a,b,hk⟩:∃a b,t.kids=[a,b]:=by
     rcases he with he|he
     .exact R7 ht he (.inr (.inl rfl))
     .exact R7 ht he (.inr (.inr (.inl rfl)))
    rw[hk]at J5;simp only[Tm.sizes]at J5;have hx0:Hm (A4 t.kids) 0=some (B8 a):=by rw[hk];rfl
    have e0:J0 t 0=a:=by simp[J0,hk]
    have q0:=RX a u (by omega) (by omega);have heE:(p8 t (bs [101,110,99])||p8 t (bs [97,101,110,99]))=true:=by simpa using he
    rw[heE]at hE;rcases yC t ht he with ⟨k,k',hk1,hk2,hK⟩|⟨hk1,hK⟩
    .have hkz:k'.size<=1099511627776:=by
      rw[Rf hk2];have:k.size<=t.size:=by
       unfold JI at hk1;have hb1:J0 t 1=b:=by simp[J0,hk]
       by_cases q1:p8 t (bs [101,110,99])=true
       .rw[if_pos q1,hb1]at hk1;cases hk1;omega
       .rw[if_neg q1,hb1]at hk1;by_cases q2:(p8 t (bs [97,101,110,99])&&p8 b (bs [112,107]))=true
        .rw[if_pos q2]at hk1;cases hk1;have hb:OkT b:=ht.kid (by rw[hk];simp);rw[A0i]at q2;obtain⟨p1,p2⟩:=IY.1 q2.2;obtain⟨c,hc⟩:=hb.one p1 (by rw[p2];exact .inl rfl);have hsz2:=b.kids_size;rw[hc]at hsz2;simp only[Tm.sizes]at hsz2;have:J0 b 0=c:=by simp[J0,hc]
         rw[this];omega
        .rw[if_neg q2]at hk1;cases hk1
      omega
     have hH:=Ke m S k' hS (by omega) hs hkz;rw[WZ hk2]at hH;rw[hk1,e0];generalize JQ a u=c0 at *
     cases c0 with
     |true =>
      refine Gp D1 λfr hl h0 h1 h2=>?_;simp[D1]at hl h0 h1 h2;simp[D1,hl,h0,h1,h2,hP,hG,hE,hx0,q0,hK,hH,A5]
     |false =>
      refine Gp D1 λfr hl h0 h1 h2=>?_;simp[D1]at hl h0 h1 h2;simp[D1,hl,h0,h1,hP,hG,hE,hx0,q0,hK,A5]
    .rw[hk1];refine Gp D1 λfr hl h0 h1 h2=>?_;simp[D1]at hl h0 h1 h2;simp[D1,hl,h0,hP,hG,hE,hK,A5]
   .have heE:(p8 t (bs [101,110,99])||p8 t (bs [97,101,110,99]))=false:=by
     rw[A0Z,ne_eq,Bool.or_eq_true];exact he
    rw[heE]at hE;have hkn:JI t=none:=by
     unfold JI;rw[if_neg (λh=>he (.inl h)),if_neg];rw[A0i];exact λh=>he (.inr h.1)
    rw[hkn];refine Gp D1 λfr hl h0 h1 h2=>?_;simp[D1]at hl h0 h1 h2;simp[D1,hl,h0,hP,hG,hE,A5]
theorem oa (m:I6) (S:G6) (hS:Y1 S) (B9:S.length<=1048576) (hs:∀x∈S,OkT x) (u:Tm) (hu:u.size<=1048576) :
  pc Q f7 [sl m 4 (A4 S),B8 u]=some (.bool (Ma S u)):=by
 have hs2:∀x∈S,x.size<=1099511627776:=λx hx=>by have:=(hs x hx).size;omega
 have hC:=UP m S AG [.pv (B8 u).cells,.pv [sl m 4 (A4 S)]] (Qh S u) rfl B9 (λh x=>by simp) (λh=>rfl) rfl
  (λx hx=>jg m S hS B9 hs2 u x hu (hs x hx))
 rw[show S.any (Qh S u)=Ma S u from rfl]at hC;simp only[I3]at hC;refine M9 FF λfr hl h0 h1=>?_;simp[FF]at hl h0 h1;simp[FF,hl,h0,h1,hC,CM]
theorem XX {t:Tm} (h:t.kind=3->t.name∈AR) {nm:J3} (hn:∀y∈AR,y≠nm):p8 t nm=false:=Mj h hn
theorem lO (t:Tm) (h:OkT t):pc Q HL [B8 t]=some (.tup [B8 t,sl (true,false) 1 []]):=by
 have hI:=RV t (bs [101,120,112]);rw[XX h.nm (by decide)]at hI;refine H8 Kr λfr hl h0=>?_;simp[Kr]at hl h0;simp[Kr,hl,h0,hI,A5]
theorem ji (u t:Tm) (ht:OkT t) (hu:OkT u) (P6:JQ u t=false) (m:I6) (S:G6):pc Q X0 [B8 t,.pv (B8 u).cells,.pv [sl (true,false) 1 []],.pv [sl m 4 (A4 S)]]=some (.bool false):=by
 have hB:=lO t ht;have hS:=RX u t (by have:=hu.size;omega) (by have:=ht.size;omega);rw[P6]at hS;refine jU NM rfl (by simp[AM]) λfr hl ha=>?_;have h0:=ha 0;have h1:=ha 1;have h2:=ha 2;have h3:=ha 3;clear ha;simp[AM]at hl h0 h1 h2 h3;simp[AM,hl,h0,h1,hB,hS]
theorem ql (a b:Tm):JQ a b=JQ b a:=by
 unfold JQ;rw[A0S,decide_eq_true_iff,decide_eq_true_iff];exact KS.2
theorem Zp {S:G6} {u:Tm} (h:K0 S u=false) {t:Tm} (ht:t∈S):JQ u t=false:=by
 rw[ql,A0Z];intro he;have:K0 S u=true:=List.any_eq_true.2 ⟨t,ht,he⟩;rw[h]at this;cases this
theorem oe (m:I6) (S:G6) (B9:S.length<=1048576) (hs:∀x∈S,OkT x) (u:Tm) (hu:OkT u) (hn:K0 S u=false) :
  pc Q f8 [sl m 4 (A4 S),B8 u]=some (.bool false):=by
 have hB:=lO u hu;have hC:=UP m S X0 [.pv (B8 u).cells,.pv [sl (true,false) 1 []],.pv [sl m 4 (A4 S)]] (λ_=>false) rfl B9 (λh x=>by simp) (λh=>rfl) rfl
  (λx hx=>ji u x (hs x hx) hu (Zp hn hx) m S)
 rw[show (S.any λ_=>false)=false from by simp]at hC;simp only[I3]at hC;refine M9 FH λfr hl h0 h1=>?_;simp[FH]at hl h0 h1;simp[FH,hl,h0,h1,hB,hC,CM]
end Go.Abs.Q
namespace Go.Abs
def LPK (step:St->Option (Ex×St)) (Ψ:Ex->Fr->AH->Prop):Ex->Fr->AH->Prop
 | .normal,fr,h=>B7 (lp step (fr,h)) Ψ
 |e,fr,h=>Ψ e fr h
@[simp] theorem LPK_n (step:St->Option (Ex×St)) (Ψ:Ex->Fr->AH->Prop) (fr:Fr) (h:AH):LPK step Ψ .normal fr h=B7 (lp step (fr,h)) Ψ:=_root_.id rfl
@[simp] theorem LPK_e (step:St->Option (Ex×St)) (Ψ:Ex->Fr->AH->Prop) (i:Nat) (fr:Fr) (h:AH):LPK step Ψ (.exit i) fr h=Ψ (.exit i) fr h:=_root_.id rfl
@[simp] theorem LPK_r (step:St->Option (Ex×St)) (Ψ:Ex->Fr->AH->Prop) (fr:Fr) (h:AH):LPK step Ψ .ret fr h=Ψ .ret fr h:=_root_.id rfl
theorem M2 {step:St->Option (Ex×St)} {fr:Fr} {h:AH} {Ψ:Ex->Fr->AH->Prop} (H:B7 (step (fr,h)) (LPK step Ψ)):B7 (lp step (fr,h)) Ψ:=by
 cases hs:step (fr,h)with
 |none=>rw[hs]at H;exact H.elim
 |some x =>
  obtain⟨e,C3,h'⟩:=x;rw[hs]at H;cases e with
  |normal =>
   change B7 (lp step (C3,h')) Ψ at H;cases hl:lp step (C3,h')with
   |none=>rw[hl]at H;exact H.elim
   |some y =>
    rw[wY hs hl];rw[hl]at H;exact H
  |exit i=>rw[lF hs];exact H
  |ret=>rw[rp hs];exact H
end Go.Abs
namespace Go.Abs.Q
open Go.Proofs
attribute [local simp] E6 E7 fin K1 H4 P2 L5 R0 Q9
theorem ef (w:AV) (l:G6) (k:Nat) (B9:l.length<=1048576) (x0 x1 x2:AV) (C:G4) (hw:w=.sl k l.length 0 l.length) (IH:∀t∈l,∃t',pc Q Y6 [B8 t]=some (B8 t')/\E3 t'=E3 t) (fr:Fr) (h:AH) (hh:h.boxes=[[x0,x1,x2,w],C]) (hfam:h.fams[k]?=some ⟨A4 l,4,true⟩) (hl:fr.length=25) (h1:A0 fr 1=.ptr 0 0) (h10:A0 fr 10=w) (h11:A0 fr 11=.int .i64 l.length) (h12:A0 fr 12=.int .i64 0) :
  B7 (lp (A2 (K8 Q) (D6 Y6) x9) (fr,h)) λe C3 h'=>Kp x9.wr fr C3/\e=.exit 0/\∃(B:List (List AV)) (done:List Tm),h'=⟨[x0,x1,x2,w]::C::B,h.fams.set k ⟨A4 done,4,true⟩⟩/\G9 done=G9 l/\done.length=l.length:=by
 refine B4 rfl fr (λn fr h'=>∃(i:Nat),i+n=l.length/\A0 fr 12=.int .i64 (i:Nat)/\(∃(B:List (List AV)) (done:List Tm) (X:List AV),X=(done++l.drop i).map B8/\h'=⟨[x0,x1,x2,w]::C::B,h.fams.set k ⟨X,4,true⟩⟩/\G9 done=G9 (l.take i)/\done.length=i)) ?_ l.length h ⟨0,by omega,h12,⟨[],[],A4 l,by simp[C9],by rw[DK hfam,←hh],by simp[G9],rfl⟩⟩;rintro J Φ hJ hΦ n D5 H1 K ⟨i,hi,k12,hr⟩;have A6:=K.1.trans hl;have k1:=A8 K 1 h1;have k10:=A8 K 10 h10;have k11:=A8 K 11 h11;clear K;by_cases A7:i<l.length
 .have L4:=C6 i (by omega);obtain⟨B,done,X,hX,rfl,hd,Dm⟩:=hr;subst hw;obtain⟨t',hI,ht⟩:=IH l[i] (A0O A7);obtain⟨q1,q2,q3⟩:=SN B8 done l A7 Dm;have q4:=SO B8 done l A7 Dm t';have e2:G9 (done++[t'])=G9 (l.take (i+1)):=by
   rw[A0V A7,E1,A0Y,←E1,hd,E1,E1,A0Y,A0Q,A0R,A0Q,A0R,ht]
  have CI:=H5 hfam;rw[←hX]at q1 q3 q4;have hq2:X[i]'q1=B8 l[i]:=by subst hX;exact q2
  clear hd ht q2 hX hh;generalize hY:(done++[t']++l.drop (i+1)).map B8=Y at *
  generalize l[i]=s at *
  simp[x9,A6,k1,k10,k11,k12,A7,L4,hI,hq2,q3,q4,CI];exact G0 hJ ⟨i+1,by omega,by simp[A6],_,done++[t'],Y,hY.symm,rfl,e2,by simp[Dm]⟩
 .obtain⟨B,done,X,hX,rfl,hd,Dm⟩:=hr;have e:i=l.length:=by omega
  subst e;rw[A0k]at hd;rw[List.drop_length,A0l,←C9]at hX;simp[x9,A6,k11,k12];exact hΦ _ _ _ ⟨rfl,B,done,by rw[hX],hd,Dm⟩
theorem ny:∀(n:Nat) (t:Tm),t.size<=n->t.size<=1048576->∃t',pc Q Y6 [B8 t]=some (B8 t')/\E3 t'=E3 t:=by
 intro n
 induction n with
 |zero=>intro t h;have:=t.size_pos;omega
 |succ n ih =>
  intro t hn hb;obtain⟨k,nm,s,m,kids⟩:=t;have J5:Tm.size (.mk k nm s m kids)=1+Tm.sizes kids:=rfl;have B9:=Tm.length_le kids;have hlv:(A4 kids).length=kids.length:=by rw[C9,A0X]
  have hih:∀t∈kids,∃t',pc Q Y6 [B8 t]=some (B8 t')/\E3 t'=E3 t:=λt ht=>ih t (by have:=Tm.size_le ht;omega) (by have:=Tm.size_le ht;omega);clear ih
  suffices h:∃v,pc Q Y6 [B8 (.mk k nm s m kids)]=some v/\∃t',v=B8 t'/\E3 t'=E3 (.mk k nm s m kids) by
   obtain⟨v,h1,t',rfl,h2⟩:=h;exact⟨t',h1,h2⟩
  obtain⟨w,⟨B0,F⟩,hC,hg,hb0,hf⟩:=QI m (A4 kids) (by omega) ⟨[[.int .i64 k,.str nm,.int .i64 s,sl m 4 (A4 kids)],[.int .i64 0,.str (bs []),.int .i64 0,.vs true 0 []]],[]⟩;simp only at hb0;subst hb0;obtain⟨c1,c2,c3⟩:=Ur hg;have hlenW:=bA hg;rw[hlv]at hlenW;simp only[A0m]at hg;rcases hg with ⟨hl0,b,rfl⟩|⟨P6,rfl,hk⟩
  .have:kids=[]:=by rw[C9]at hl0;exact List.map_eq_nil_iff.1 hl0
   subst this;refine GV Bb λΨ hΨ fr hl h0=>?_;simp[Bb,B8]at hl h0;simp[Bb,hl,h0,hC];refine M2 ?_;simp[x9,hl];exact hΨ _ ⟨.mk k nm s (true,b) [],rfl,rfl⟩
  .rw[hlv]at hC hlenW c1 c2 c3;simp only at hk;have GX:=ef (.sl 0 kids.length 0 kids.length) kids 0 (by omega) (.int .i64 k) (.str nm) (.int .i64 s) [.int .i64 0,.str (bs []),.int .i64 0,.vs true 0 []] rfl hih;refine GV Bb λΨ hΨ fr hl h0=>?_;simp[Bb,B8]at hl h0;simp[Bb,hl,h0,hC,hlenW];refine B7.mono (GX _ _ ?_ ?_ ?_ ?_ ?_ ?_ ?_) ?_<;>first|exact hk|(simp[hl];done)|skip
   rintro e D5 ⟨bx,F2⟩ ⟨K,rfl,B,done,hB,hd,Dm⟩;cases hB;have J2:D5.length=25:=K.1.trans (by simp[hl]);have FU:A0 D5 1=.ptr 0 0:=A8 K 1 (by simp[hl]);have GL:A0 D5 2=.ptr 1 0:=A8 K 2 (by simp[hl]);clear K;have CI:=H5 hk;have hz:∀B',Em ⟨B',F.set 0 ⟨A4 done,4,true⟩⟩ true (.sl 0 kids.length 0 kids.length)=some (sl (false,true) 4 (A4 done)):=λB'=>JR (b:=true) (by simp[CI]) (by rw[C9,A0X,Dm]);simp[J2,FU,GL,hz];exact hΨ _ ⟨.mk k nm s (false,true) done,rfl,by simp[E3,hd]⟩
end Go.Abs.Q
namespace Go.Abs.Q
open Go.Proofs
attribute [local simp] E6 E7 fin K1 H4 P2 L5 R0 Q9
def OS (t:Tm) (n:Int):AV:=.agg [.int .i64 t.kind,.str t.name,.int .i64 t.sort,sl t.cm 4 (A4 t.kids),.int .i64 n]
@[simp] theorem pwV_agg (t:Tm) (n:Int):AV.agg [.int .i64 t.kind,.str t.name,.int .i64 t.sort,sl t.cm 4 (A4 t.kids),.int .i64 n]=OS t n:=rfl
@[simp] theorem zQ (t:Tm) (n:Int):(OS t n).cells=[.int .i64 t.kind,.str t.name,.int .i64 t.sort,sl t.cm 4 (A4 t.kids),.int .i64 n]:=rfl
@[simp] theorem zR (t:Tm) (n:Int):(OS t n).isTup=false:=rfl
@[simp] theorem pwV_frz (h:AH) (am:Bool) (t:Tm) (n:Int):KI h am (OS t n)=some (OS t n):=rfl
@[simp] theorem pwV_tame (h:AH) (t:Tm) (n:Int):CO h (OS t n)=true:=rfl
theorem vR (u:Tm):pc Q K9 [sl (true,false) 1 [],B8 u,.fn Hj []]=some (.tup [.int .i64 0,.bool false]):=by
 refine Gp P5 λfr hl h0 h1 h2=>?_;simp[P5]at hl h0 h1 h2;simp[P5,hl,h0,h1];refine M2 ?_;simp[Y0,hl]
theorem ju (u:Tm) (hu:u.size<=1048576) (B:List (List AV)) (F:List Fam) :
  ∃(u':Tm) (k:Nat) (h':AH),rc Q Ah [.vs true 0 [],OS u 1] ⟨B,F⟩=some (.sl k 1 0 1,h')/\h'.fams[k]?=some ⟨[OS u' 1],5,true⟩/\E3 u'=E3 u/\∃B',h'.boxes=B++B':=by
 obtain⟨u',hC,he⟩:=ny _ u (A0U _) hu;have hB:=vR u;have hI:∀B2:List (List AV),rc Q O7 [.vs true 0 [],.int .i64 0,sl (true,true) 5 [OS u' 1]] ⟨B2,F⟩=some (.sl F.length 1 0 1,⟨B2,F++[⟨[OS u' 1],5,true⟩]⟩):=by
  intro B2;refine OT (s:=kz 5 64) rfl rfl ?_;rw[show sl (true,true) 5 [OS u' 1]=.vs true 5 [OS u' 1] from by simp[sl]];change UE 5 64 [.vs true 0 [],.int .i64 0,.vs true 5 [OS u' 1]] _=_;simp only[UE,Pv];rw[if_pos ⟨trivial,rfl⟩,if_pos (by decide)]
 suffices hq:∃v h',rc Q Ah [.vs true 0 [],OS u 1] ⟨B,F⟩=some (v,h')/\∃k,v=.sl k 1 0 1/\h'.fams[k]?=some ⟨[OS u' 1],5,true⟩/\∃B',h'.boxes=B++B' by
  obtain⟨v,h',h1,k,rfl,h2,h3⟩:=hq;exact⟨u',k,h',h1,h2,he,h3⟩
 refine Df Jr λfr hl h0 h1=>?_;simp[Jr]at hl h0 h1;simp[Jr,hl,h0,h1,hB,hC,hI,A5,D2,E4]
theorem aM (t:Tm) (h:t.kind=3->t.name∈AR):pc Q GN [B8 t]=some (.bool false):=by
 by_cases hk:t.kind=3
 .obtain⟨-,-,-,-,-,-,-,n8,n9,n10,-⟩:=LY (h hk);refine H8 Ak λfr hl h0=>?_;simp[Ak]at hl h0;simp[Ak,hl,h0,hk,n8,n9,n10]
 .refine H8 Ak λfr hl h0=>?_;simp[Ak]at hl h0;simp[Ak,hl,h0,hk]
theorem js (u:Tm) (hu:u.size<=1048576) (hf:u.kind=3->u.name∈AR) (B:List (List AV)) (F:List Fam) :
  ∃(u':Tm) (k:Nat) (h':AH),rc Q Y2 [.vs true 0 [],B8 u,.int .i64 1] ⟨B,F⟩=some (.tup [.sl k 1 0 1,.bool true],h')/\h'.fams[k]?=some ⟨[OS u' 1],5,true⟩/\E3 u'=E3 u/\∃B',h'.boxes=B++B':=by
 obtain⟨u',k,⟨B1,F1⟩,hI,hk,he,⟨B',hB'⟩⟩:=ju u hu (B++[(B8 u).cells]) F;simp only at hB' hk;subst hB';have hS:=aM u hf
 suffices hq:∃v h',rc Q Y2 [.vs true 0 [],B8 u,.int .i64 1] ⟨B,F⟩=some (v,h')/\∃k,v=.tup [.sl k 1 0 1,.bool true]/\h'.fams[k]?=some ⟨[OS u' 1],5,true⟩/\∃B',h'.boxes=B++B' by
  obtain⟨v,h',h1,k,rfl,h2,h3⟩:=hq;exact⟨u',k,h',h1,h2,he,h3⟩
 simp only[I3]at hI;refine cn Iq λfr hl h0 h1 h2=>?_;simp[Iq]at hl h0 h1 h2;simp[Iq,hl,h0,h1,h2,hS,hI,D2,E4];exact hk
theorem pc_Of (u:Tm) (hu:OkT u):∃u',pc Q Db [B8 u]=some (.tup [sl (false,true) 5 [OS u' 1],.int .i64 0])/\E3 u'=E3 u:=by
 have hs:=hu.size;have hV:=HT u (by omega);rw[(u9 hu.valid).1]at hV;obtain⟨u',k,⟨B1,F1⟩,hI,hk,he,⟨B',hB'⟩⟩:=js u (by omega) hu.nm [(B8 u).cells] [];simp only at hB' hk;subst hB';have hz:∀B',Em ⟨B',F1⟩ true (.sl k 1 0 1)=some (sl (false,true) 5 [OS u' 1]):=λB'=>JR hk rfl;refine⟨u',?_,he⟩;simp only[I3]at hI;refine H8 Oo λfr hl h0=>?_;simp[Oo]at hl h0;simp[Oo,hl,h0,hV,hI,hz]
theorem fu (m:I6) (S:G6) (hS:Y1 S) (B9:S.length<=1048576) (hs:∀x∈S,x.size<=1099511627776) (u:Tm) (hu:u.size<=1099511627776) (hn:K0 S u=false) :
  pc Q P8 [OS u 1,.pv [sl m 4 (A4 S)]]=some (.bool false):=by
 have hH:=Ke m S u hS (by omega) hs hu;rw[hn]at hH;refine M9 CR λfr hl h0 h1=>?_;simp[CR]at hl h0 h1;simp[CR,hl,h0,h1,hH]
theorem fO (mm m:I6) (S:G6) (hS:Y1 S) (B9:S.length<=1048576) (hs:∀x∈S,x.size<=1099511627776) (u:Tm) (hu:u.size<=1099511627776) (hn:K0 S u=false) :
  pc Q AK [sl mm 5 [OS u 1],.fn P8 [.pv [sl m 4 (A4 S)]]]=some (.int .i64 (-1)):=by
 have hP:=fu m S hS B9 hs u hu hn;have h01:IntKind.i64.wrap 1=1:=by decide
 refine M9 Dj λfr hl h0 h1=>?_;simp[Dj]at hl h0 h1;simp[Dj,hl,h0];refine M2 ?_;simp[HC,hl,h0,h1,hP,h01];refine M2 ?_;simp[hl]
theorem jp (mm m:I6) (S:G6) (hS:Y1 S) (B9:S.length<=1048576) (hs:∀x∈S,x.size<=1099511627776) (u:Tm) (hu:u.size<=1099511627776) (hn:K0 S u=false) :
  pc Q S6 [sl m 4 (A4 S),sl mm 5 [OS u 1]]=some (sl (false,true) 5 [OS u 1]):=by
 have hC:∀(B:List (List AV)),rc Q N4 [sl mm 5 [OS u 1]] ⟨B,[]⟩=some (.sl 0 1 0 1,⟨B,[⟨[OS u 1],5,true⟩]⟩):=by
  intro B
  suffices hq:∃v h',rc Q N4 [sl mm 5 [OS u 1]] ⟨B,[]⟩=some (v,h')/\(v=.sl 0 1 0 1/\h'=⟨B,[⟨[OS u 1],5,true⟩]⟩) by
   obtain⟨v,h',h1,rfl,rfl⟩:=hq;exact h1
  have hr:H3=140737488355328:=rfl;have hm:maxLen=9223372036854775807:=rfl;refine gD HA λfr hl h0=>?_;simp[HA]at hl h0;simp[HA,hl,h0,Tb,GY,A5,show ZB N4=true from rfl,hr,hm]
 have hI:=fO (false,true) m S hS B9 hs u hu hn;have hD:∀(B:List (List AV)),rc Q N1 [.sl 0 1 0 1,.fn P8 [.pv [sl m 4 (A4 S)]]] ⟨B,[⟨[OS u 1],5,true⟩]⟩=some (.sl 0 1 0 1,⟨B,[⟨[OS u 1],5,true⟩]⟩):=by
  intro B
  suffices hq:∃v h',rc Q N1 [.sl 0 1 0 1,.fn P8 [.pv [sl m 4 (A4 S)]]] ⟨B,[⟨[OS u 1],5,true⟩]⟩=some (v,h')/\(v=.sl 0 1 0 1/\h'=⟨B,[⟨[OS u 1],5,true⟩]⟩) by
   obtain⟨v,h',h1,rfl,rfl⟩:=hq;exact h1
  refine Df CS λfr hl h0 h1=>?_;simp[CS]at hl h0 h1;simp[CS,hl,h0,h1,hI]
 refine M9 EK λfr hl h0 h1=>?_;simp[EK]at hl h0 h1;simp[EK,hl,h0,h1,hC,hD,CM]
theorem xz (m:I6) (R:G6) (t:Tm) (hR:Y1 R) (B9:R.length<=1099511627776) (hs:∀x∈R,x.size<=1099511627776) (ht:t.size<=1099511627776) :
  ∃i:Nat,i<=R.length/\(∀j (hj:j<R.length),j<i->H6 R[j] t<0)/\(∀j (hj:j<R.length),i<=j->0<=H6 R[j] t) /\
   pc Q J8 [sl m 4 (A4 R),B8 t,.fn C4 []]=some (.tup [.int .i64 (i:Nat),.bool (K0 R t)]):=by
 suffices h:∃v,pc Q J8 [sl m 4 (A4 R),B8 t,.fn C4 []]=some v/\∃i:Nat,v=.tup [.int .i64 (i:Nat),.bool (K0 R t)]/\i<=R.length/\(∀j (hj:j<R.length),j<i->H6 R[j] t<0)/\(∀j (hj:j<R.length),i<=j->0<=H6 R[j] t) by
  obtain⟨v,h1,i,rfl,h2,h3,h4⟩:=h;exact⟨i,h2,h3,h4,h1⟩
 refine WL AC λΨ hΨ fr hl h0 h1 h2=>?_;simp[AC]at hl h0 h1 h2;simp[AC,hl,h0,h1];refine(B4 (Ψ:=λe C3 h'=>e=.exit 0/\h'=⟨[(B8 t).cells],[]⟩/\∃i:Nat,A0 C3 9=.int .i64 (i:Nat)/\i<=R.length/\(∀j (hj:j<R.length),j<i->H6 R[j] t<0)/\(∀j (hj:j<R.length),i<=j->0<=H6 R[j] t)) rfl _
  (λn C3 h'=>h'=⟨[(B8 t).cells],[]⟩/\∃lo hi:Nat,hi=lo+n/\hi<=R.length/\A0 C3 9=.int .i64 (lo:Nat)/\A0 C3 10=.int .i64 (hi:Nat)/\(∀j (hj:j<R.length),j<lo->H6 R[j] t<0)/\(∀j (hj:j<R.length),hi<=j->0<=H6 R[j] t)) ?_ R.length _
  ⟨by simp,0,R.length,by omega,A0U _,by simp[hl],by simp[hl],λj _ h=>absurd h (Nat.not_lt_zero _),λj hj h=>by omega⟩).mono ?_
 .rintro J Φ hJ hΦ n D5 H1 K ⟨rfl,lo,hi,hn,Zq,k9,k10,g1,g2⟩;have A6:D5.length=49:=K.1.trans (by simp[hl]);have k0:=A8 K 0 (by simp[h0]:_=sl m 4 (A4 R));have k2:=A8 K 2 (by simp[h2]:_=AV.fn C4 []);have k4:=A8 K 4 (by simp[hl]:_=AV.ptr 0 0);clear K;by_cases A7:0<n
  .have hlti:(lo:Int)<(hi:Int):=by omega
   have hw1:IntKind.i64.wrap ((lo:Int)+(hi:Int))=(lo:Int)+(hi:Int):=V0 (by omega) (by omega);have hw2:IntKind.u64.wrap ((lo:Int)+(hi:Int))=(lo:Int)+(hi:Int):=tz (by omega) (by omega);obtain⟨mid,hmd⟩:∃mid,mid=(lo+hi) / 2:=⟨_,rfl⟩;have hb:=dg (lo+hi);rw[←hmd,Int.natCast_add]at hb;have hm1:lo<=mid:=by omega
   have hm2:mid<hi:=by omega
   have hw3:IntKind.i64.wrap (mid:Int)=(mid:Int):=V0 (by omega) (by omega);have hw4:=C6 mid (by omega);have hmid:mid<R.length:=by omega
   have hx:=I0 hmid;have hC:=x7 _ R[mid] t (A0U _) (hs _ (A0O hmid)) ht;by_cases hc:H6 R[mid] t<0
   .have g1':∀j (hj:j<R.length),j<mid+1->H6 R[j] t<0:=λj hj hjm=>by
     rcases A0g (Nat.le_of_lt_succ hjm)with q|q
     .exact GZ (hR.get hj hmid q) hc
     .subst q;exact hc
    generalize R[mid]=x at *
    simp[S3,A6,k0,k2,k4,k9,k10,hlti,hw1,hw2,hw3,hw4,hb,hx,hC,hc];exact⟨hi-(mid+1),by omega,hJ _ _ _ ⟨by simp,mid+1,hi,by omega,Zq,by simp[A6],by simp[k10],g1',g2⟩⟩
   .have g2':∀j (hj:j<R.length),mid<=j->0<=H6 R[j] t:=λj hj hjm=>by
     rcases A0g hjm with q|q
     .rcases Int.lt_or_le (H6 R[j] t) 0 with p|p
      .exact absurd (GZ (hR.get hmid hj q) p) hc
      .exact p
     .subst q;omega
    generalize R[mid]=x at *
    simp[S3,A6,k0,k2,k4,k9,k10,hlti,hw1,hw2,hw3,hb,hx,hC,hc];exact⟨mid-lo,by omega,hJ _ _ _ ⟨by simp,lo,mid,by omega,by omega,by simp[k9],by simp[A6],g1,g2'⟩⟩
  .have hn0:n=0:=by omega
   have hlh:hi=lo:=by omega
   subst hlh;simp[S3,A6,k9,k10];exact hΦ _ _ _ ⟨rfl,by simp,hi,by simp[k9],Zq,g1,g2⟩
 .rintro e D5 Cw ⟨K,rfl,rfl,i,k9,hi,g1,g2⟩;have A6:D5.length=49:=K.1.trans (by simp[hl]);have k0:=A8 K 0 (by simp[h0]:_=sl m 4 (A4 R));have k2:=A8 K 2 (by simp[h2]:_=AV.fn C4 []);have k4:=A8 K 4 (by simp[hl]:_=AV.ptr 0 0);have k8:=A8 K 8 (by simp[hl]:_=AV.int .i64 R.length);clear K;have hh:=qu hR t i g1 g2;by_cases A7:i<R.length
  .have hx:=I0 A7;have hC:=x7 _ R[i] t (A0U _) (hs _ (A0O A7)) ht;have e:decide (H6 R[i] t=0)=K0 R t:=by
    rw[A0S,decide_eq_true_iff,hh];exact⟨λh=>⟨A7,h⟩,λ⟨_,h⟩=>h⟩
   simp[A6,k0,k2,k4,k8,k9,A7,hx,hC];exact hΨ _ ⟨i,by rw[e],hi,g1,g2⟩
  .have e:K0 R t=false:=by
    rw[A0Z];intro h;obtain⟨h,-⟩:=hh.1 h;omega
   simp[A6,k8,k9,A7];exact hΨ _ ⟨i,by rw[e],hi,g1,g2⟩
theorem ob (m:I6) (u:Tm) (hu:OkT u):pc Q HK [sl m 5 [OS u 1]]=some (.int .i64 0):=by
 have hV:=HT u (by have:=hu.size;omega);rw[(u9 hu.valid).1]at hV;have hS:=aM u hu.nm;have h01:IntKind.i64.wrap 1=1:=by decide
 refine H8 Kq λfr hl h0=>?_;simp[Kq]at hl h0;simp[Kq,hl,h0];refine M2 ?_;simp[NW,hl,hV,hS,h01];refine M2 ?_;simp[hl]
theorem jW:pc Q Au [sl (true,false) 1 []]=some (sl (true,false) 1 []):=by
 refine H8 BB λfr hl h0=>?_;simp[BB]at hl h0;simp[BB,hl,h0,Tb];rfl
theorem fS (a b:Tm) (h:a.size<=1099511627776) (h':b.size<=1099511627776):pc Q AT [B8 a,B8 b]=some (.bool (decide (H6 a b=0))):=by
 have hC:=x7 _ a b (A0U _) h h';refine M9 Gs λfr hl h0 h1=>?_;simp[Gs]at hl h0 h1;simp[Gs,hl,h0,h1,hC]
theorem jc (m m2:I6) (u:Tm) (hu:u.size<=1048576):∃m',pc Q w8 [sl m 1 [sl m2 5 [OS u 1]]]=some (sl m' 4 [B8 u]):=by
 have h01:IntKind.i64.wrap 1=1:=by decide
 have hr:H3=140737488355328:=rfl;have hm:maxLen=9223372036854775807:=rfl;have hmu:ZB w8=true:=rfl;obtain⟨l',hp,-,hS⟩:=UU 0 ⟨[[.int .i64 u.kind,.str u.name,.int .i64 u.sort,sl u.cm 4 (A4 u.kids),.int .i64 1]],[⟨A4 [u],4,true⟩]⟩ [u] rfl (by simp) (by simp;omega) (by simp);have hl':l'=[u]:=A0f.1 hp;subst hl';have hcm:Va AT [u]:=⟨rfl,λa ha b hb=>by
  rw[A0T]at ha hb;exact fS a b (by rw[ha];omega) (by rw[hb];omega)⟩
 obtain⟨Z,hZ,hZR,hK⟩:=NL AT [u] hcm 0 ⟨[[.int .i64 u.kind,.str u.name,.int .i64 u.sort,sl u.cm 4 (A4 u.kids),.int .i64 1]],[⟨A4 [u],4,true⟩]⟩ rfl (by simp);have hZ1:Z=[u]:=by
  have:(S8 [u])=[u]:=rfl;rw[this]at hZR;rw[←hZR,A0d (by simp[hZ])]
 subst hZ1;simp only[show S8 [u]=[u] from rfl,show A4 [u]=[B8 u] from rfl,A0W,List.set_cons_zero]at hS hK
 suffices h:∃v,pc Q w8 [sl m 1 [sl m2 5 [OS u 1]]]=some v/\∃q:Bool×Bool,v=sl q 4 [B8 u] by
  obtain⟨v,h1,q,rfl⟩:=h;exact⟨q,h1⟩
 refine GV Ir λΨ hΨ fr hl h0=>?_;simp[Ir]at hl h0;simp[Ir,hl,h0];refine M2 ?_;simp[KN,hl];refine M2 ?_;simp[Ll,hl,A5,h01,hr,hm,hmu];refine M2 ?_;simp[hl,h01];refine M2 ?_;simp[hl,hS,hK];exact hΨ _ ⟨(false,true),rfl⟩
@[simp] theorem xc (k:IntKind) (i:Int) (cs:G4):(AV.int k i).reform cs=cs.head?:=rfl
@[simp] theorem wM (b:Bool) (cs:G4):(AV.bool b).reform cs=cs.head?:=rfl
theorem lM (m:I6) (u:Tm) (hu:u.size<=1048576):pc Q J8 [sl m 4 [B8 u],B8 u,.fn C4 []]=some (.tup [.int .i64 0,.bool true]):=by
 obtain⟨i,hi,g1,-,hB⟩:=xz m [u] u (List.pairwise_singleton _ _) (by simp) (by simp;omega) (by omega);have hi0:i=0:=by
  rcases Nat.eq_zero_or_pos i with h|h
  .exact h
  .have:=g1 0 (by simp) h;simp[PO]at this
 subst hi0;have hh:K0 [u] u=true:=by simp[K0,JQ,PO]
 rw[hh]at hB;exact hB
theorem fd (m m2:I6) (u:Tm) (hu:u.size<=1048576):∃m',pc Q BH [sl m 4 [B8 u],sl m2 5 [OS u 1]]=some (sl m' 1 [.int .i64 1]):=by
 have h01:IntKind.i64.wrap 1=1:=by decide
 have hr:H3=140737488355328:=rfl;have hm:maxLen=9223372036854775807:=rfl;have hB:=lM m u hu
 suffices h:∃v,pc Q BH [sl m 4 [B8 u],sl m2 5 [OS u 1]]=some v/\∃q:Bool×Bool,v=sl q 1 [.int .i64 1] by
  obtain⟨v,h1,q,rfl⟩:=h;exact⟨q,h1⟩
 refine Sk Ho λΨ hΨ fr hl h0 h1=>?_;simp[Ho]at hl h0 h1;simp[Ho,hl,h0,h1,hr,hm];refine M2 ?_;simp[KO,hl,h0,hB,h01];refine M2 ?_;simp[hl];exact hΨ _ ⟨(false,true),rfl⟩
theorem jt (m:I6) (u:Tm) (xs:List Fam) (B C:List (List AV)) (p:AV) :
  rc Q M6 [.ptr B.length 0,.int .i64 0] ⟨B++[sl m 4 [B8 u],.vs true 0 [],p,.bool false]::C,xs⟩=some (C5,⟨B++[sl m 4 [B8 u],.vs true 0 [],p,.bool false]::C,xs⟩):=by
 suffices hq:∃v h',rc Q M6 [.ptr B.length 0,.int .i64 0] ⟨B++[sl m 4 [B8 u],.vs true 0 [],p,.bool false]::C,xs⟩=some (v,h')/\(v=C5/\h'=⟨B++[sl m 4 [B8 u],.vs true 0 [],p,.bool false]::C,xs⟩) by
  obtain⟨v,h',h1,rfl,rfl⟩:=hq;exact h1
 have hb:(B++[sl m 4 [B8 u],.vs true 0 [],p,.bool false]::C)[B.length]?=some [sl m 4 [B8 u],.vs true 0 [],p,.bool false]:=by simp
 generalize B++[sl m 4 [B8 u],.vs true 0 [],p,.bool false]::C=X at *
 refine Df AY λfr hl h0 h1=>?_;simp[AY]at hl h0 h1;simp[AY];refine M2 ?_;simp[Dp,hl,h0,hb];refine M2 ?_;simp[Do,hl]
theorem tK (m2:I6) (u:Tm) (hu:OkT u) (B:List (List AV)) (F:List Fam) :
  ∃(m m':Bool×Bool) (k:Nat) (h':AH),rc Q w9 [sl (true,false) 1 [],sl m2 5 [OS u 1]] ⟨B,F⟩=some (.tup [.ptr B.length 0,.ptr (B.length+1) 0,.int .i64 0],h') /\
   h'.boxes=B++[[sl m 4 [B8 u],.vs true 0 [],.sl k 1 0 1,.bool false],[sl m' 1 [.int .i64 1],sl (true,true) 1 [],.bool false]]/\h'.fams[k]?=some ⟨[.int .i64 (-1)],1,false⟩:=by
 have hs:=hu.size;have h01:IntKind.i64.wrap 1=1:=by decide
 have hr:H3=140737488355328:=rfl;have hm:maxLen=9223372036854775807:=rfl;have hV:=ob m2 u hu;have hC:=jW;obtain⟨m,hCo⟩:=jc (false,true) m2 u (by omega);obtain⟨m',hP⟩:=fd m m2 u (by omega);have hcol:=jt m u
 suffices hq:∃v h',rc Q w9 [sl (true,false) 1 [],sl m2 5 [OS u 1]] ⟨B,F⟩=some (v,h')/\∃k,v=.tup [.ptr B.length 0,.ptr (B.length+1) 0,.int .i64 0]/\h'.boxes=B++[[sl m 4 [B8 u],.vs true 0 [],.sl k 1 0 1,.bool false],[sl m' 1 [.int .i64 1],sl (true,true) 1 [],.bool false]]/\h'.fams[k]?=some ⟨[.int .i64 (-1)],1,false⟩ by
  obtain⟨v,h',h1,k,rfl,h2,h3⟩:=hq;exact⟨m,m',k,h',h1,h2,h3⟩
 refine Df Ko λfr hl h0 h1=>?_;simp[Ko]at hl h0 h1;simp[Ko,hl,h0];refine M2 ?_;simp[NV,hl];have hmu:ZB w9=false:=rfl;have ht:∀B':List (List AV),CO ⟨B',F++[⟨[sl m2 5 [OS u 1]],1,false⟩]⟩ (.sl F.length 1 0 1)=true:=by intro B';simp[CO,KM]
 simp[hl,h0,h1,hV,hC,hCo,A5,hr,hm,GY,D2,E4,hmu,ht];refine M2 ?_;simp[NU,hl];refine M2 ?_;simp[NT,hl,A5,hr,hm,hmu,h01];refine M2 ?_;simp[hl];refine M2 ?_;simp[NS,hl,hcol,h01];refine M2 ?_;simp[hl,h0,h1,hP,jN,hr,hm,D2,E4];exact⟨F.length+1,⟨rfl,rfl⟩,by simp⟩
theorem pW (m m':I6) (u:Tm) (B:List (List AV)) (F:List Fam) (k:Nat) (a b:Nat) (co:AV)
  (ha:B[a]?=some [sl m 4 [B8 u],.vs true 0 [],.sl k 1 0 1,.bool false]) (hb:B[b]?=some [sl m' 1 [.int .i64 1],co,.bool false]) (hk:F[k]?=some ⟨[.int .i64 (-1)],1,false⟩) :
  rc Q M7 [.ptr a 0,.ptr b 0] ⟨B,F⟩=some (.int .i64 0,⟨B,F⟩):=by
 suffices hq:∃v h',rc Q M7 [.ptr a 0,.ptr b 0] ⟨B,F⟩=some (v,h')/\(v=.int .i64 0/\h'=⟨B,F⟩) by
  obtain⟨v,h',h1,rfl,rfl⟩:=hq;exact h1
 refine Df AZ λfr hl h0 h1=>?_;simp[AZ]at hl h0 h1;simp[AZ,hl,h0,ha];refine M2 ?_;simp[Dq,hl,h0,h1,ha,hb,hk]
theorem nj (m2:I6) (u:Tm) (hu:OkT u):pc Q JV [sl (true,false) 1 [],sl m2 5 [OS u 1]]=some (.tup [sl (true,false) 1 [],.int .i64 4]):=by
 obtain⟨m,m',k,⟨B',F'⟩,hS,hB,hk⟩:=tK m2 u hu [] [];simp only[A0b,A0m]at hB hS hk;subst hB;have hR:=pW m m' u [[sl m 4 [B8 u],.vs true 0 [],.sl k 1 0 1,.bool false],[sl m' 1 [.int .i64 1],sl (true,true) 1 [],.bool false]] F' k 0 1 _ rfl rfl hk;have hV:rc Q BX [sl (true,false) 1 [],sl m2 5 [OS u 1]] ⟨[],[]⟩=some (.tup [.ptr 0 0,.ptr 1 0,.int .i64 0,.int .i64 0],⟨[[sl m 4 [B8 u],.vs true 0 [],.sl k 1 0 1,.bool false],[sl m' 1 [.int .i64 1],sl (true,true) 1 [],.bool false]],F'⟩):=by
  suffices hq:∃v h',rc Q BX [sl (true,false) 1 [],sl m2 5 [OS u 1]] ⟨[],[]⟩=some (v,h')/\(v=.tup [.ptr 0 0,.ptr 1 0,.int .i64 0,.int .i64 0]/\h'=⟨[[sl m 4 [B8 u],.vs true 0 [],.sl k 1 0 1,.bool false],[sl m' 1 [.int .i64 1],sl (true,true) 1 [],.bool false]],F'⟩) by
   obtain⟨v,h',h1,rfl,rfl⟩:=hq;exact h1
  refine Df Km λfr hl h0 h1=>?_;simp[Km]at hl h0 h1;simp[Km,hl,h0,h1,hS,hR]
 refine M9 Jq λfr hl h0 h1=>?_;simp[Jq]at hl h0 h1;simp[Jq,hl,h0,h1,hV]
theorem Xb (m:I6) (S:G6) (B9:S.length<=1048576) (hs:∀x∈S,OkT x) (fr:Fr) (h:AH) (h5:A0 fr 5=.vs true 0 []) (hl:fr.length=46) (h18:A0 fr 18=sl m 4 (A4 S)) (h19:A0 fr 19=.int .i64 S.length) (h20:A0 fr 20=.int .i64 0) :
  B7 (lp (A2 (K8 Q) (D6 V7) S0) (fr,h)) λe C3 h'=>Kp S0.wr fr C3/\(e=.exit 0/\A0 C3 5=.vs true 0 []):=by
 refine B4 rfl fr (λn fr h'=>∃(i:Nat),i+n=S.length/\A0 fr 20=.int .i64 (i:Nat)/\A0 fr 5=.vs true 0 []) ?_ S.length h ⟨0,by omega,h20,h5⟩;rintro J Φ hJ hΦ n D5 H1 K ⟨i,hi,k20,hr⟩;have A6:=K.1.trans hl;have k18:=A8 K 18 h18;have k19:=A8 K 19 h19;clear K;by_cases A7:i<S.length
 .have L4:=C6 i (by omega);have hx:=I0 A7;have hP:=fc S[i] (hs _ (A0O A7)).nm;obtain⟨bx,F⟩:=H1;generalize S[i]=s at *
  simp[S0,A6,k18,k19,k20,A7,L4,hx,hP];exact G0 hJ ⟨i+1,by omega,by simp[A6],by simp[hr]⟩
 .simp[S0,A6,k19,k20,A7];exact hΦ _ _ _ ⟨rfl,by simp[hr]⟩
theorem cW (mm m:I6) (S:G6) (hS:Y1 S) (B9:S.length<=1048576) (hs:∀x∈S,OkT x) (u:Tm) (hu:OkT u) (hn:K0 S u=false) :
  pc Q V7 [sl m 4 (A4 S),sl mm 5 [OS u 1]]=some (.bool false):=by
 have hU:=jp mm m S hS B9 (λx hx=>by have:=(hs x hx).size;omega) u (by have:=hu.size;omega) hn;have hM:=nj (false,true) u hu;refine M9 CQ λfr hl h0 h1=>?_;simp[CQ]at hl h0 h1;simp[CQ,hl,h0,h1,hU];refine B7.mono (Xb m S B9 hs _ _ ?_ ?_ ?_ ?_ ?_) ?_<;>first|(simp[hl];done)|skip
 rintro e D5 Cw ⟨K,rfl,k5⟩;have J2:D5.length=46:=K.1.trans (by simp[hl]);have FU:A0 D5 1=sl (false,true) 5 [OS u 1]:=A8 K 1 (by simp[hl]);clear K;simp[J2,FU,k5,hM]
theorem ZF (m:I6) (S:G6) (hS:Y1 S) (B9:S.length<=1048576) (hs:∀x∈S,OkT x) (u:Tm) (hu:OkT u) (hn:K0 S u=false) :
  pc Q Bo [sl m 4 (A4 S),B8 u]=some (.bool false):=by
 obtain⟨u',hO,he⟩:=pc_Of u hu;have hn':K0 S u'=false:=by rw[WZ he];exact hn
 have hG:=cW (false,true) m S hS B9 hs u' (hu.er he) hn';refine M9 Bw λfr hl h0 h1=>?_;simp[Bw]at hl h0 h1;simp[Bw,hl,h0,h1,hO,hG]
theorem Tm.kind_mk (k:Int) (nm:J3) (s:Int) (m:I6) (l:G6):(Tm.mk k nm s m l).kind=k:=rfl
theorem Tm.name_mk (k:Int) (nm:J3) (s:Int) (m:I6) (l:G6):(Tm.mk k nm s m l).name=nm:=rfl
theorem Tm.sort_mk (k:Int) (nm:J3) (s:Int) (m:I6) (l:G6):(Tm.mk k nm s m l).sort=s:=rfl
theorem fP (t:Tm) (hb:t.size<=1048576):∃t',pc Q NC [B8 t,sl (true,false) 1 [],B8 t]=some (.tup [B8 t',.int .i64 0])/\E3 t'=E3 t:=by
 obtain⟨t',hC,hE⟩:=Xz _ t (A0U _) (by omega);refine⟨t',?_,hE⟩;refine Gp Nm λfr hl h0 h1 h2=>?_;simp[Nm]at hl h0 h1 h2;simp[Nm,hl,h0,h1,h2,hC];refine M2 ?_;simp[Pe,hl,hC]
theorem rk (m:I6) (l:G6) (k:Nat) (B9:l.length<=1048576) (Z:G6) (hZ:Z.length=l.length) (J5:∀t∈l,t.size<=1048576) (IH:∀t∈l,∃(K:G6) (m':I6),pc Q JC [sl t.cm 4 (A4 t.kids)]=some (sl m' 4 (A4 K))/\G9 K=G9 t.kids) (fr:Fr) (h:AH) (hfam:h.fams[k]?=some ⟨A4 Z,4,true⟩) (hl:fr.length=42) (h3:A0 fr 3=.sl k l.length 0 l.length) (h9:A0 fr 9=sl m 4 (A4 l)) (h10:A0 fr 10=.int .i64 l.length) (h11:A0 fr 11=.int .i64 0) :
  B7 (lp (A2 (K8 Q) (D6 JC) HF) (fr,h)) λe C3 h'=>Kp HF.wr fr C3/\e=.exit 0/\∃(B:List (List AV)) (done:List Tm),h'=⟨B,h.fams.set k ⟨A4 done,4,true⟩⟩/\G9 done=G9 l/\done.length=l.length:=by
 refine B4 rfl fr (λn fr h'=>∃(i:Nat),i+n=l.length/\A0 fr 11=.int .i64 (i:Nat)/\(∃(B:List (List AV)) (done:List Tm) (X:List AV),X=(done++Z.drop i).map B8/\h'=⟨B,h.fams.set k ⟨X,4,true⟩⟩/\G9 done=G9 (l.take i)/\done.length=i)) ?_ l.length h ⟨0,by omega,h11,⟨h.boxes,[],A4 Z,by simp[C9],by rw[DK hfam],by simp[G9],rfl⟩⟩;rintro J Φ hJ hΦ n D5 H1 K ⟨i,hi,k11,hr⟩;have A6:=K.1.trans hl;have k3:=A8 K 3 h3;have k9:=A8 K 9 h9;have k10:=A8 K 10 h10;clear K;by_cases A7:i<l.length
 .have L4:=C6 i (by omega);obtain⟨B,done,X,hX,rfl,hd,Dm⟩:=hr;have hltZ:i<Z.length:=by omega
  obtain⟨t1,hR,ht1⟩:=fP l[i] (J5 _ (A0O A7));obtain⟨K,mk,hO,hK⟩:=IH l[i] (A0O A7);have hx:=I0 A7;obtain⟨q1,q2',q3⟩:=SN B8 done Z hltZ Dm;have q4:=λt'=>SO B8 done Z hltZ Dm t';rw[←hX]at q1 q3 q4;rw[hZ]at q3;have q2:X[i]'q1=B8 Z[i]:=by subst hX;exact q2'
  clear q2';have e2:∀t',E3 t'=E3 l[i]->G9 (done++[t'])=G9 (l.take (i+1)):=λt' ht=>by
   rw[A0V A7,E1,A0Y,←E1,hd,E1,E1,A0Y,A0Q,A0R,A0Q,A0R,ht]
  have CI:=H5 hfam;clear hd;generalize l[i]=s at *
  obtain⟨d1,d2,d3,d4⟩:=MN ht1;have hag:AV.agg [.int .i64 t1.kind,.str t1.name,.int .i64 t1.sort,sl mk 4 (A4 K)]=B8 (.mk t1.kind t1.name t1.sort mk K):=rfl;have her:E3 (.mk t1.kind t1.name t1.sort mk K)=E3 s:=by
   obtain⟨k0,nm0,s0,m0,l0⟩:=s;simp only[Tm.kind,Tm.name,Tm.sort,Tm.kids]at d1 d2 d3 hK;simp only[E3,hK,Tm.mk.injEq];exact⟨d1,d2,d3,trivial,trivial⟩
  by_cases hk0:s.kids=[]
  .have hag2:AV.agg [.int .i64 t1.kind,.str t1.name,.int .i64 t1.sort,sl (true,false) 1 []]=B8 (.mk t1.kind t1.name t1.sort (true,false) []):=rfl;have her2:E3 (.mk t1.kind t1.name t1.sort (true,false) [])=E3 s:=by
    rw[←her];have:K=[]:=by
     rw[hk0]at hK;cases K with
     |nil=>rfl
     |cons a K=>simp[G9]at hK
    simp only[E3,this]
   have hkn:s.kids.length=0:=by rw[hk0];rfl
   have q5:=q4 (.mk t1.kind t1.name t1.sort (true,false) []);have e3:=e2 _ her2;generalize hY:(done++[Tm.mk t1.kind t1.name t1.sort (true,false) []]++Z.drop (i+1)).map B8=Y at *
   clear hX;simp[HF,A6,k3,k9,k10,k11,A7,L4,hR,hO,hx,q2,q3,CI,hag,hkn,hag2,q5,Tm.kind_mk,Tm.name_mk,Tm.sort_mk];exact G0 hJ ⟨i+1,by omega,by simp[A6],_,_,Y,hY.symm,rfl,e3,by simp[Dm]⟩
  .have hkn:s.kids.length≠0:=by
    intro h;exact hk0 (List.eq_nil_of_length_eq_zero h)
   have q5:=q4 (.mk t1.kind t1.name t1.sort mk K);have e3:=e2 _ her;generalize hY:(done++[Tm.mk t1.kind t1.name t1.sort mk K]++Z.drop (i+1)).map B8=Y at *
   simp[HF,A6,k3,k9,k10,k11,A7,L4,hR,hO,hx,q2,q3,CI,hag,hkn,q5];exact G0 hJ ⟨i+1,by omega,by simp[A6],_,_,Y,hY.symm,rfl,e3,by simp[Dm]⟩
 .obtain⟨B,done,X,hX,rfl,hd,Dm⟩:=hr;have e:i=l.length:=by omega
  subst e;rw[A0k]at hd;rw[List.drop_of_length_le (by omega),A0l,←C9]at hX;simp[HF,A6,k10,k11];exact hΦ _ _ _ ⟨rfl,B,done,by rw[hX],hd,Dm⟩
theorem vl:∀(n:Nat) (l:G6),Tm.sizes l<=n->Tm.sizes l<=1048576->∀m:Bool×Bool,∃(l':G6) (m':I6),pc Q JC [sl m 4 (A4 l)]=some (sl m' 4 (A4 l'))/\G9 l'=G9 l:=by
 intro n
 induction n with
 |zero =>
  intro l h _ m;have hl0:l=[]:=by
   cases l with
   |nil=>rfl
   |cons a l =>
    have:=a.size_pos;simp only[Tm.sizes]at h;omega
  subst hl0
  suffices h:∃v,pc Q JC [sl m 4 (A4 [])]=some v/\∃q:Bool×Bool,v=sl q 4 (A4 []) by
   obtain⟨v,h1,q,rfl⟩:=h;exact⟨[],q,h1,rfl⟩
  have hr:H3=140737488355328:=rfl;have hm:maxLen=9223372036854775807:=rfl;have hn:A4 []=[]:=rfl;refine GV Mk λΨ hΨ fr hl h0=>?_;simp[Mk]at hl h0;simp[Mk,hl,h0,hr,hm,hn];refine M2 ?_;simp[HF,hl];exact hΨ _ ⟨(false,true),rfl⟩
 |succ n ih =>
  intro l hn hb m;have hll:=Tm.length_le l;have hlv:(A4 l).length=l.length:=by rw[C9,A0X]
  have hr:(l.length:Int)*56<=H3/\(l.length:Int)<=maxLen:=by
   have e1:H3=140737488355328:=rfl;have e2:maxLen=9223372036854775807:=rfl;omega
  have hz:A0e l.length (AV.agg [.int .i64 0,.str (bs []),.int .i64 0,.vs true 0 []])=A4 (A0e l.length gt):=by
   rw[uA,C9,List.map_replicate]
  suffices h:∃v,pc Q JC [sl m 4 (A4 l)]=some v/\∃q:List Tm×(Bool×Bool),v=sl q.2 4 (A4 q.1)/\G9 q.1=G9 l by
   obtain⟨v,h1,q,rfl,h2⟩:=h;exact⟨q.1,q.2,h1,h2⟩
  have GX:=rk m l 0 (by omega) (A0e l.length gt) (by simp) (λt ht=>by have:=Tm.size_le ht;omega) (λt ht=>by
   have h1:=Tm.size_le ht;have h2:=t.kids_size;obtain⟨K,m',a,b⟩:=ih t.kids (by omega) (by omega) t.cm;exact⟨K,m',a,b⟩)
  clear ih;refine GV Mk λΨ hΨ fr hl h0=>?_;simp[Mk]at hl h0;simp[Mk,hl,h0,hr,hz];refine B7.mono (GX _ _ ?_ ?_ ?_ ?_ ?_ ?_) ?_<;>first|(simp[hl];done)|skip
  rintro e D5 h1 ⟨K,rfl,B,done,rfl,hd,Dm⟩;have J2:D5.length=42:=K.1.trans (by simp[hl]);have OJ:A0 D5 3=.sl 0 l.length 0 l.length:=A8 K 3 (by simp[hl]);clear K;have hf:∀B',Em ⟨B',[⟨A4 done,4,true⟩]⟩ true (.sl 0 l.length 0 l.length)=some (sl (false,true) 4 (A4 done)):=λB'=>JR (b:=true) rfl (by rw[C9,A0X,Dm]);simp[J2,OJ,hf];exact hΨ _ ⟨(done,(false,true)),rfl,hd⟩
theorem fA (m:I6) (l:G6) (B9:l.length<=1048576) (hv:∀t∈l,OkT t) (fr:Fr) (h:AH) (hl:fr.length=26) (h14:A0 fr 14=sl m 4 (A4 l)) (h15:A0 fr 15=.int .i64 l.length) (h16:A0 fr 16=.int .i64 0) :
  B7 (lp (A2 (K8 Q) (D6 Li) IV) (fr,h)) λe C3 h'=>Kp IV.wr fr C3/\e=.exit 0:=by
 refine B4 rfl fr (λn fr h'=>∃(i:Nat),i+n=l.length/\A0 fr 16=.int .i64 (i:Nat)/\True) ?_ l.length h ⟨0,by omega,h16,trivial⟩;rintro J Φ hJ hΦ n D5 H1 K ⟨i,hi,k16,hr⟩;have A6:=K.1.trans hl;have k14:=A8 K 14 h14;have k15:=A8 K 15 h15;clear K;by_cases A7:i<l.length
 .have L4:=C6 i (by omega);have hx:=I0 A7;have ho:=hv l[i] (A0O A7);have hV:=HT l[i] (by have:=ho.size;omega);rw[(u9 ho.valid).1]at hV;obtain⟨bx,F⟩:=H1;generalize l[i]=s at *
  simp[IV,A6,k14,k15,k16,A7,L4,hx,hV];exact G0 hJ ⟨i+1,by omega,by simp[A6],trivial⟩
 .simp[IV,A6,k15,k16,A7];exact hΦ _ _ _ rfl
theorem aT (u:Tm) (hu:OkT u):pc Q Li [sl (true,false) 1 [],sl (true,true) 4 [B8 u]]=some (.int .i64 0):=by
 have hfl:(([((true,false),[]),((true,true),[u])]:List ML).flatMap λq=>q.2)=[u]:=by simp
 obtain⟨mc,hC⟩:=aH (true,true) [((true,false),[]),((true,true),[u])] (by simp) (by unfold Nx;rw[hfl];simp);rw[hfl]at hC;simp only[A0Q,A0R,jO,show A4 []=[] from rfl,show A4 [u]=[B8 u] from rfl,l9 (true,false) rfl 4 1]at hC;refine M9 Ry λfr hl h0 h1=>?_;simp[Ry]at hl h0 h1;simp[Ry,hl,h0,h1,hC,A5];refine B7.mono (fA mc [u] (by simp) (λt ht=>by rw[A0T.1 ht];exact hu) _ _ ?_ ?_ ?_ ?_) ?_<;>first|(simp[hl,show A4 [u]=[B8 u] from rfl];done)|skip
 rintro e D5 Cw ⟨K,rfl⟩;have A6:D5.length=26:=K.1.trans (by simp[hl]);simp[A6]
theorem RY (u:Tm) (hf:u.kind=3->u.name∈AR):pc Q EF [B8 u]=some (sl (true,true) 4 [B8 u]):=by
 by_cases hk:u.kind=3
 .obtain⟨-,-,-,-,-,-,n7,-,-,-,-,n12,-⟩:=LY (hf hk);have hag:AV.agg [.int .i64 3,.str u.name,.int .i64 u.sort,sl u.cm 4 (A4 u.kids)]=B8 u:=by rw[←hk];exact VX u
  refine H8 Ek λfr hl h0=>?_;simp[Ek]at hl h0;simp[Ek,hl,h0,hk,hag,n7,n12,A5]
 .refine H8 Ek λfr hl h0=>?_;simp[Ek]at hl h0;simp[Ek,hl,h0,hk,A5]
theorem sK (u:Tm) (hu:OkT u):∃(u':Tm) (m':I6),pc Q OP [B8 u]=some (.tup [sl m' 4 [B8 u'],.int .i64 0])/\E3 u'=E3 u:=by
 have hR:=aT u hu;have hS:=RY u hu.nm;obtain⟨l',m',hO,he⟩:=vl _ [u] (A0U _) (by have:=hu.size;simp only[Tm.sizes];omega) (true,true);obtain⟨u',rfl⟩:∃u',l'=[u']:=by
  have hl:l'.length=1:=by
   have:=congrArg List.length he;simpa[E1]using this
  match l',hl with
  | [a],_=>exact⟨a,rfl⟩
 have he':E3 u'=E3 u:=by simpa[G9]using he
 rw[show A4 [u]=[B8 u] from rfl,show A4 [u']=[B8 u'] from rfl]at hO;refine⟨u',m',?_,he'⟩;refine H8 Rx λfr hl h0=>?_;simp[Rx]at hl h0;simp[Rx,hl,h0,hR,hS,hO,A5]
@[simp] theorem mp_isTup (b:Nat):(AV.mp b).isTup=false:=rfl
@[simp] theorem mp_cells (b:Nat):(AV.mp b).cells=[.mp b]:=rfl
theorem tI (k:Nat) (h:AH) (u:Tm) (hu:u.size<=1048576) (hk:h.fams[k]?=some ⟨[B8 u],4,true⟩):rc Q D9 [.sl k 1 0 1,.fn C4 []] h=some (C5,h):=by
 obtain⟨l',hp,-,hS⟩:=UU k h [u] hk (by simp) (by simp;omega) (by simp);have hl':l'=[u]:=A0f.1 hp;subst hl';rw[show A4 [u]=[B8 u] from rfl,DK hk]at hS;exact hS
theorem gG (g:FuncId) (k:Nat) (h:AH) (u:Tm) (hg:Va g [u]) (hk:h.fams[k]?=some ⟨[B8 u],4,true⟩):rc Q D4 [.sl k 1 0 1,.fn g []] h=some (.sl k 1 0 1,h):=by
 obtain⟨Z,hZ,hZR,hK⟩:=NL g [u] hg k h hk (by simp);have hZ1:Z=[u]:=by
  have:(S8 [u])=[u]:=rfl;rw[this]at hZR;rw[←hZR,A0d (by simp[hZ])]
 subst hZ1;rw[show A4 [u]=[B8 u] from rfl,DK hk]at hK;exact hK
theorem oy (a b:Tm) (h:a.size<=1099511627776) (h':b.size<=1099511627776):pc Q DI [B8 a,B8 b]=some (.bool (decide (H6 a b=0))):=by
 have hC:=x7 _ a b (A0U _) h h';refine M9 KE λfr hl h0 h1=>?_;simp[KE]at hl h0 h1;simp[KE,hl,h0,h1,hC]
theorem gE (B:List (List AV)) (F:List Fam):rc Q I4 [sl (true,false) 1 []] ⟨B,F⟩=some (.vs true 0 [],⟨B,F⟩):=by
 suffices hq:∃v h',rc Q I4 [sl (true,false) 1 []] ⟨B,F⟩=some (v,h')/\(v=.vs true 0 []/\h'=⟨B,F⟩) by
  obtain⟨v,h',h1,rfl,rfl⟩:=hq;exact h1
 refine gD R4 λfr hl h0=>?_;simp[R4]at hl h0;simp[R4,hl,h0,Tb]
theorem vv (u:Tm) (hu:OkT u) (B:List (List AV)) (F:List Fam) :
  ∃(k:Nat) (h':AH) (a b:AV) (B':List (List AV)),rc Q r8 [sl (true,false) 1 [],B8 u] ⟨B,F⟩=some (.ptr (B.length+3) 0,h') /\
   h'.boxes=B++[(B8 u).cells]++[[.mbox [] []],[.mbox [] []],[.sl k 1 0 1,.int .i64 0,.mp (B.length+1),.mp (B.length+2),.vs true 0 []]]++B'/\h'.fams[k]?=some ⟨[B8 u],4,true⟩:=by
 have hs:=hu.size;have hS:=RY u hu.nm;have hC:=gE;have hr:H3=140737488355328:=rfl;have hm:maxLen=9223372036854775807:=rfl;have hmu:ZB r8=true:=rfl;have h01:IntKind.i64.wrap 1=1:=by decide
 have hcm:Va DI [u]:=⟨rfl,λa ha b hb=>by
  rw[A0T]at ha hb;exact oy a b (by rw[ha];omega) (by rw[hb];omega)⟩
 have hso:∀B',rc Q D9 [.sl (F.length+1) 1 0 1,.fn C4 []] ⟨B',F++[⟨[B8 u],4,true⟩,⟨[B8 u],4,true⟩]⟩=some (C5,⟨B',F++[⟨[B8 u],4,true⟩,⟨[B8 u],4,true⟩]⟩):=λB'=>tI _ _ u (by omega) (by simp);have hco:∀B',rc Q D4 [.sl (F.length+1) 1 0 1,.fn DI []] ⟨B',F++[⟨[B8 u],4,true⟩,⟨[B8 u],4,true⟩]⟩=some (.sl (F.length+1) 1 0 1,⟨B',F++[⟨[B8 u],4,true⟩,⟨[B8 u],4,true⟩]⟩):=λB'=>gG _ _ _ u hcm (by simp)
 suffices hq:∃v h',rc Q r8 [sl (true,false) 1 [],B8 u] ⟨B,F⟩=some (v,h')/\∃(k:Nat) (B':List (List AV)),v=.ptr (B.length+3) 0 /\
   h'.boxes=B++[(B8 u).cells]++[[.mbox [] []],[.mbox [] []],[.sl k 1 0 1,.int .i64 0,.mp (B.length+1),.mp (B.length+2),.vs true 0 []]]++B'/\h'.fams[k]?=some ⟨[B8 u],4,true⟩ by
  obtain⟨v,h',h1,k,B',rfl,h2,h3⟩:=hq;exact⟨k,h',.nilp,.nilp,B',h1,h2,h3⟩
 refine Df MK λfr hl h0 h1=>?_;simp[MK]at hl h0 h1;simp[MK,hl,h0,h1,D2,E4,hC,A5,hr,hm,hmu];refine M2 ?_;simp[Nq,hl,hS,hr,hm,hmu,h01];refine M2 ?_;simp[hl,h0,hso,hco];refine M2 ?_;simp[OY,hl]
theorem oz:pc Q HP [sl (false,true) 1 [.int .u64 1],.int .i64 1]=some (.int .i64 0):=by
 have hH:pc Q Gk [sl (false,true) 1 [.int .u64 1],.int .i64 0]=some (.bool true):=by
  have e1:G7 .quo (.int .i64 0) (.int .i64 64)=some (.int .i64 0):=by rfl
  have e2:G7 .rem (.int .i64 0) (.int .i64 64)=some (.int .i64 0):=by rfl
  have e3:G7 .shr (.int .u64 1) (.int .i64 0)=some (.int .u64 1):=by rfl
  have e4:G7 .and (.int .u64 1) (.int .u64 1)=some (.int .u64 1):=by rfl
  refine M9 Np λfr hl h0 h1=>?_;simp[Np]at hl h0 h1;simp[Np,hl,h0,h1,e1,e2,e3,e4]
 refine M9 LB λfr hl h0 h1=>?_;simp[LB]at hl h0 h1;simp[LB,h1];refine M2 ?_;simp[No,hl,h0,hH]
theorem tG (k:Nat) (h:AH) (hk:h.fams[k]?=some ⟨[.int .u64 0],1,true⟩):rc Q Ay [.sl k 1 0 1,.int .i64 0] h=some (C5,⟨h.boxes,h.fams.set k ⟨[.int .u64 1],1,true⟩⟩):=by
 have CI:=H5 hk
 suffices hq:∃v h',rc Q Ay [.sl k 1 0 1,.int .i64 0] h=some (v,h')/\(v=C5/\h'=⟨h.boxes,h.fams.set k ⟨[.int .u64 1],1,true⟩⟩) by
  obtain⟨v,h',h1,rfl,rfl⟩:=hq;exact h1
 have e1:G7 .quo (.int .i64 0) (.int .i64 64)=some (.int .i64 0):=by rfl
 have e2:G7 .rem (.int .i64 0) (.int .i64 64)=some (.int .i64 0):=by rfl
 have e3:G7 .shl (.int .u64 1) (.int .i64 0)=some (.int .u64 1):=by rfl
 have e4:G7 .xor (.int .u64 0) (.int .u64 1)=some (.int .u64 1):=by rfl
 refine Df MJ λfr hl h0 h1=>?_;simp[MJ]at hl h0 h1;simp[MJ,hl,h0,h1,e1,e2,e3,e4,hk]
theorem yS (u:Tm) (hu:OkT u) (a k:Nat) (B:List (List AV)) (F:List Fam) (c1 c2 c3 c4:AV) (ha:B[a]?=some [.sl k 1 0 1,c1,c2,c3,c4]) (hk:F[k]?=some ⟨[B8 u],4,true⟩) :
  ∃B',rc Q x6 [.ptr a 0,B8 u] ⟨B,F⟩=some (.sl F.length 1 0 1,⟨B++B',F++[⟨[.int .u64 1],1,true⟩]⟩):=by
 have hs:=hu.size;have hS:=RY u hu.nm;have hr:H3=140737488355328:=rfl;have hm:maxLen=9223372036854775807:=rfl;have h01:IntKind.i64.wrap 1=1:=by decide
 have e1:G7 .quo (.int .i64 1) (.int .i64 64)=some (.int .i64 0):=by rfl
 have CI:=H5 hk;have hal:=H5 ha;have hBST:=lM (false,true) u (by omega);have hcol:∀(B2:List (List AV)) (F2:List Fam),B2[a]?=some [.sl k 1 0 1,c1,c2,c3,c4]->F2[k]?=some ⟨[B8 u],4,true⟩->rc Q q7 [.ptr a 0,B8 u] ⟨B2,F2⟩=some (.int .i64 0,⟨B2++[(B8 u).cells],F2⟩):=by
  intro B2 F2 hB2 hF2
  suffices hq:∃v h',rc Q q7 [.ptr a 0,B8 u] ⟨B2,F2⟩=some (v,h')/\(v=.int .i64 0/\h'=⟨B2++[(B8 u).cells],F2⟩) by
   obtain⟨v,h',h1,rfl,rfl⟩:=hq;exact h1
  have hB3:(B2++[(B8 u).cells])[a]?=some [.sl k 1 0 1,c1,c2,c3,c4]:=by rw[A0P (H5 hB2)];exact hB2
  have hz:∀B',Em ⟨B',F2⟩ true (.sl k 1 0 1)=some (sl (false,true) 4 [B8 u]):=λB'=>JR hF2 rfl;simp only[I3]at hB3;refine Df Ht λfr hl h0 h1=>?_;simp[Ht]at hl h0 h1;simp[Ht,hl,h0,h1,hB3,hz,hBST]
 suffices hq:∃v h',rc Q x6 [.ptr a 0,B8 u] ⟨B,F⟩=some (v,h')/\∃B',v=.sl F.length 1 0 1/\h'=⟨B++B',F++[⟨[.int .u64 1],1,true⟩]⟩ by
  obtain⟨v,h',h1,B',rfl,rfl⟩:=hq;exact⟨B',h1⟩
 have ha1:(B++[(B8 u).cells])[a]?=some [.sl k 1 0 1,c1,c2,c3,c4]:=by rw[A0P hal];exact ha
 have ha2:(B++[(B8 u).cells,(B8 u).cells])[a]?=some [.sl k 1 0 1,c1,c2,c3,c4]:=by rw[A0P hal];exact ha
 have hk1:(F++[⟨[.int .u64 0],1,true⟩])[k]?=some ⟨[B8 u],4,true⟩:=by rw[A0P CI];exact hk
 have hc:=hcol _ _ ha2 hk1;have hf:=tG F.length ⟨B++[(B8 u).cells,(B8 u).cells,(B8 u).cells],F++[⟨[.int .u64 0],1,true⟩]⟩ (by simp);simp only[I3,A0h,A0j,A0b]at ha1 hc hf;refine Df LC λfr hl h0 h1=>?_;simp[LC]at hl h0 h1;simp[LC,hl,h0,h1,ha1,e1,h01,hr,hm,hS];refine M2 ?_;simp[Nr,hl,h0,hc,hf,h01];refine M2 ?_;simp[hl]
theorem jw (u:Tm) (a k k2 x:Nat) (B:List (List AV)) (F:List Fam) (c3 c4:AV) (ha:B[a]?=some [.sl k 1 0 1,.int .i64 0,.mp x,c3,c4]) (hx:B[x]?=some [.mbox [] []]) (hk:F[k]?=some ⟨[B8 u],4,true⟩) :
  rc Q W0 [.ptr a 0,.sl k2 1 0 1] ⟨B,F⟩=some (.tup [.sl k2 1 0 1,.sl F.length 1 0 1],⟨B,F++[⟨[.int .u64 0],1,true⟩]⟩):=by
 have hr:H3=140737488355328:=rfl;have hm:maxLen=9223372036854775807:=rfl;have h01:IntKind.i64.wrap 1=1:=by decide
 have e1:G7 .quo (.int .i64 0) (.int .i64 64)=some (.int .i64 0):=by rfl
 suffices hq:∃v h',rc Q W0 [.ptr a 0,.sl k2 1 0 1] ⟨B,F⟩=some (v,h')/\(v=.tup [.sl k2 1 0 1,.sl F.length 1 0 1]/\h'=⟨B,F++[⟨[.int .u64 0],1,true⟩]⟩) by
  obtain⟨v,h',h1,rfl,rfl⟩:=hq;exact h1
 have hml:∀F' z,Gb false true z ⟨B,F'⟩ (.mp x) (.int .i64 0)=some (.tup [z,.bool false],⟨B,F'⟩):=by
  intro F' z;have e:GM ⟨B,F'⟩ (.mp x)=some ([],[]):=by simp only[GM,hx]
  simp only[Gb,e];rfl
 refine Df Hu λfr hl h0 h1=>?_;simp[Hu]at hl h0 h1;simp[Hu,hl,h0,ha,e1,h01,hr,hm];refine M2 ?_;simp[KP,hl,h0,ha,hml,h01];refine M2 ?_;simp[hl,h1]
theorem vS (u:Tm) (hu:OkT u):∃v,pc Q TZ [sl (true,false) 1 [],B8 u]=some (.tup [v,.int .i64 4]):=by
 obtain⟨k,⟨B1,F1⟩,-,-,B',hE,hB,hk⟩:=vv u hu [(B8 u).cells] [];simp only at hB hk;subst hB;have hR:=aT u hu;obtain⟨B2,hW⟩:=yS u hu 4 k ((B8 u).cells::(B8 u).cells::[AV.mbox [] []]::[AV.mbox [] []]::[AV.sl k 1 0 1,.int .i64 0,.mp 2,.mp 3,.vs true 0 []]::B') F1 _ _ _ _ rfl hk;have hD:=jw u 4 k F1.length 2 (((B8 u).cells::(B8 u).cells::[AV.mbox [] []]::[AV.mbox [] []]::[AV.sl k 1 0 1,.int .i64 0,.mp 2,.mp 3,.vs true 0 []]::B')++B2) (F1++[⟨[.int .u64 1],1,true⟩]) _ _ rfl rfl (by rw[A0P (H5 hk)];exact hk);have hF:=oz;have hz:∀B',Em ⟨B',F1++[⟨[.int .u64 1],1,true⟩]++[⟨[.int .u64 0],1,true⟩]⟩ true (.sl F1.length 1 0 1)=some (sl (false,true) 1 [.int .u64 1]):=λB'=>JR (b:=true) (by simp) rfl;simp only[A0W,Nat.reduceAdd,A0j,A0b,A0h,I3]at hE hW hD hz;refine⟨sl (true,false) 1 [],?_⟩;refine M9 Tj λfr hl h0 h1=>?_;simp[Tj]at hl h0 h1;simp[Tj,hl,h0,h1,hR,A5,hE,hW,hD,hz,hF]
theorem bv (m:I6) (S:G6) (B9:S.length<=1048576) (hs:∀x∈S,OkT x) (p:AV) (C:G4) (fr:Fr) (h:AH) (h5:A0 fr 5=p) (hB:∃B,h.boxes=C::B) (hl:fr.length=69) (h22:A0 fr 22=sl m 4 (A4 S)) (h23:A0 fr 23=.int .i64 S.length) (h24:A0 fr 24=.int .i64 0) :
  B7 (lp (A2 (K8 Q) (D6 f9) X4) (fr,h)) λe C3 h'=>Kp X4.wr fr C3/\(e=.exit 0/\A0 C3 5=p/\∃B,h'.boxes=C::B):=by
 refine B4 rfl fr (λn fr h'=>∃(i:Nat),i+n=S.length/\A0 fr 24=.int .i64 (i:Nat)/\(A0 fr 5=p/\∃B,h'.boxes=C::B)) ?_ S.length h ⟨0,by omega,h24,h5,hB⟩;rintro J Φ hJ hΦ n D5 H1 K ⟨i,hi,k24,hr⟩;have A6:=K.1.trans hl;have k22:=A8 K 22 h22;have k23:=A8 K 23 h23;clear K;by_cases A7:i<S.length
 .have L4:=C6 i (by omega);obtain⟨hr,B,hB⟩:=hr;have hx:=I0 A7;have hX:=RV S[i] (bs [120,111,114]);rw[XX (hs _ (A0O A7)).nm (by decide)]at hX;obtain⟨bx,F⟩:=H1;simp only at hB;subst hB;generalize S[i]=s at *
  simp[X4,A6,k22,k23,k24,A7,L4,hx,hX,A5];exact G0 hJ ⟨i+1,by omega,by simp[A6],by simp[hr],_,rfl⟩
 .obtain⟨hr,hB⟩:=hr;simp[X4,A6,k23,k24,A7];exact hΦ _ _ _ ⟨rfl,by simp[hr],hB⟩
theorem bu (m mr:I6) (S R:G6) (B9:S.length<=1048576) (hs:∀x∈S,OkT x) (hR:Y1 R) (hRl:R.length<=1048576) (hRs:∀x∈R,x.size<=1048576) (hn:∀x∈S,K0 R x=false) (C:G4) (fr:Fr) (h:AH) (h12:A0 fr 12=.vs true 0 []) (hB:∃B,h.boxes=C::B) (hl:fr.length=69) (h11:A0 fr 11=sl mr 4 (A4 R)) (h42:A0 fr 42=sl m 4 (A4 S)) (h43:A0 fr 43=.int .i64 S.length) (h44:A0 fr 44=.int .i64 0) :
  B7 (lp (A2 (K8 Q) (D6 f9) X3) (fr,h)) λe C3 h'=>Kp X3.wr fr C3/\(e=.exit 2/\A0 C3 12=.vs true 0 []/\∃B,h'.boxes=C::B):=by
 refine B4 rfl fr (λn fr h'=>∃(i:Nat),i+n=S.length/\A0 fr 44=.int .i64 (i:Nat)/\(A0 fr 12=.vs true 0 []/\∃B,h'.boxes=C::B)) ?_ S.length h ⟨0,by omega,h44,h12,hB⟩;rintro J Φ hJ hΦ n D5 H1 K ⟨i,hi,k44,hr⟩;have A6:=K.1.trans hl;have k11:=A8 K 11 h11;have k42:=A8 K 42 h42;have k43:=A8 K 43 h43;clear K;by_cases A7:i<S.length
 .have L4:=C6 i (by omega);obtain⟨hr,B,hB⟩:=hr;have hx:=I0 A7;have ho:=hs _ (A0O A7);have hX:=RV S[i] (bs [120,111,114]);rw[XX ho.nm (by decide)]at hX;have hH:=Ke mr R S[i] hR (by omega) (λx hx=>by have:=hRs x hx;omega) (by have:=ho.size;omega);rw[hn _ (A0O A7)]at hH;obtain⟨bx,F⟩:=H1;simp only at hB;subst hB;generalize S[i]=s at *
  simp[X3,A6,k11,k42,k43,k44,A7,L4,hx,hX,hH,A5];exact G0 hJ ⟨i+1,by omega,by simp[A6],by simp[hr],_,rfl⟩
 .obtain⟨hr,hB⟩:=hr;simp[X3,A6,k43,k44,A7];exact hΦ _ _ _ ⟨rfl,by simp[hr],hB⟩
theorem ov (m:I6) (S:G6) (B9:S.length<=1048576) (hs:∀x∈S,OkT x) (u:Tm) (hu:OkT u) (hn:K0 S u=false) :
  pc Q f9 [sl m 4 (A4 S),B8 u]=some (.bool false):=by
 obtain⟨u',m',hP,he⟩:=sK u hu;obtain⟨R,mr,hO,q8,hsub,hRl⟩:=fo m' [u'] (λt ht=>by rw[A0T.1 ht];have:=(hu.er he).size;omega) (by simp);rw[show A4 [u']=[B8 u'] from rfl]at hO;obtain⟨v,hSp⟩:=vS u hu;have hnR:∀x∈S,K0 R x=false:=by
  intro x hx;rw[lz q8];have h1:=Zp hn hx;have:JQ u' x=JQ u x:=by
   unfold JQ;rw[A0S,decide_eq_true_iff,decide_eq_true_iff,V5,V5,he]
  simp[K0,this,h1]
 refine M9 FI λfr hl h0 h1=>?_;simp[FI]at hl h0 h1;simp[FI,hl,h0,h1,hP];refine B7.mono (bv m S B9 hs (sl m' 4 [B8 u']) (B8 u).cells _ _ ?_ ?_ ?_ ?_ ?_ ?_) ?_<;>first|(simp[hl];done)|skip
 rintro e D5 ⟨bx,F⟩ ⟨K,rfl,k5,B,hB⟩;simp only at hB;subst hB;have J2:D5.length=69:=K.1.trans (by simp[hl]);have Mt:A0 D5 0=sl m 4 (A4 S):=A8 K 0 (by simp[h0]);have OJ:A0 D5 3=.ptr 0 0:=A8 K 3 (by simp[hl]);clear K;simp[J2,Mt,k5,hO];refine B7.mono (bu m mr S R B9 hs q8.1 (by simp only[A0W]at hRl;omega) (λx hx=>by rw[A0T.1 (hsub x hx)];have:=(hu.er he).size;omega) hnR (B8 u).cells _ _ ?_ ?_ ?_ ?_ ?_ ?_ ?_) ?_<;>first|(simp[J2];done)|skip
 rintro e R3 ⟨bx,F2⟩ ⟨K,rfl,k12,B2,hB⟩;simp only at hB;subst hB;have CK:R3.length=69:=K.1.trans (by simp[J2]);have k3:A0 R3 3=.ptr 0 0:=A8 K 3 (by simp[OJ]);clear K;simp[CK,k12,k3,hSp]
def Dn (S:List Tm) (u:Tm):Bool:=OK u||Fn S u||Ma S u
theorem vi (m:I6) (S:G6) (hS:Y1 S) (B9:S.length<=1048576) (hs:∀x∈S,OkT x) (u:Tm) (hu:OkT u) (hn:K0 S u=false) :
  pc Q Gc [sl m 4 (A4 S),B8 u]=some (.bool (Dn S u)):=by
 have hs2:∀x∈S,x.size<=1099511627776:=λx hx=>by have:=(hs x hx).size;omega
 have husz:=hu.size;have q0:=Ke m S u hS (by omega) hs2 (by omega);rw[hn]at q0;have q1:=nq u hu.nm hu.ow;have q2:=fV m S hS B9 hs2 u (by omega);have q3:=oa m S hS B9 hs u (by omega);have q4:=ov m S B9 hs u hu hn;have q5:=oe m S B9 hs u hu hn;have q6:=ZF m S hS B9 hs u hu hn;unfold Dn;generalize OK u=c1 at *
 generalize Fn S u=c2 at *
 generalize Ma S u=c3 at *
 cases c1 with
 |true =>
  refine M9 J1 λfr hl h0 h1=>?_;simp[J1]at hl h0 h1;simp[J1,hl,h0,h1,q0,q1]
 |false =>
  cases c2 with
  |true =>
   refine M9 J1 λfr hl h0 h1=>?_;simp[J1]at hl h0 h1;simp[J1,hl,h0,h1,q0,q1,q2]
  |false =>
   cases c3 with
   |true =>
    refine M9 J1 λfr hl h0 h1=>?_;simp[J1]at hl h0 h1;simp[J1,hl,h0,h1,q0,q1,q2,q3]
   |false =>
    refine M9 J1 λfr hl h0 h1=>?_;simp[J1]at hl h0 h1;simp[J1,hl,h0,h1,q0,q1,q2,q3,q4,q5,q6]
end Go.Abs.Q
