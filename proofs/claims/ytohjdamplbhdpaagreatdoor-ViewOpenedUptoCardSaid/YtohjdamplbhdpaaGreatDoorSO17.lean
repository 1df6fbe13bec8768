/- A part of the proof. -/
import Derived.Test.YtohjdamplbhdpaaGreatDoorSO16
set_option linter.all false
open List renaming getElem_mem->A0Q,getElem?_append_left->A0R,map_cons->A0S,map_nil->A0T,mem_singleton->A0V,take_succ_eq_append_getElem->A0X,length_singleton->A0Y,length_map->A0Z,map_append->A0a,drop_eq_getElem_cons->A0c,nil_append->A0d,drop_eq_nil_of_le->A0e,take_of_length_le->A0f,replicate->A0g,perm_singleton->A0h,append_assoc->A0j,cons_append->A0l,take_length->A0m,append_nil->A0n,length_nil->A0o,any_cons->A0q,any_nil->A0r
open Bool renaming eq_iff_iff->A0U,eq_false_iff->A0b,and_eq_true->A0k,or_false->A0p
open Nat renaming le_refl->A0W,lt_or_eq_of_le->A0i
namespace Go.Abs.Q
open Go.Proofs
attribute [local simp] E1 E5 fin J7 G4 O2 L3 P2 P1
@[simp] theorem frz_pv (h:AH) (am:Bool) (cs:G3):KH h am (.pv cs)=some (.pv cs):=rfl
@[simp] theorem frz_fnc (h:AH) (am:Bool) (g:FuncId) (caps:G3):KH h am (.fn g caps)=if caps.all AV.flat=true then some (.fn g caps)else none:=rfl
@[simp] theorem tame_fnc (h:AH) (g:FuncId) (caps:G3):CM h (.fn g caps)=true:=rfl
@[simp] theorem tame_pv (h:AH) (cs:G3):CM h (.pv cs)=true:=rfl
@[simp] theorem flat_int (k:IntKind) (i:Int):AV.flat (.int k i)=true:=rfl
@[simp] theorem flat_str (s:J2):AV.flat (.str s)=true:=rfl
@[simp] theorem flat_pv (cs:G3):AV.flat (.pv cs)=true:=rfl
theorem eS (m:I7) (l:G7) (g:FuncId) (caps:G3) (p:Tm->Bool) (hg:C2 g=false) (B8:l.length<=1048576) (hfl:∀(h:AH) (x:Tm),Bj h true (B9 x::caps)=some (B9 x::caps)) (htm:∀h:AH,caps.all (CM h)=true) (hp:∀x∈l,pc Q g (B9 x::caps)=some (.bool (p x))) (fr:Fr) (h:AH) (hl:fr.length=19) (h0:A0 fr 0=sl m 4 (A4 l)) (h1:A0 fr 1=.fn g caps) (h7:A0 fr 7=.int .i64 l.length) (h8:A0 fr 8=.int .i64 0) :
  B7 (lp (A2 (K8 Q) (D6 Y6) P9) (fr,h)) λe C4 h'=>Kp P9.wr fr C4/\(e=.exit 0/\idx p l=-1\/e=.ret/\A0 C4 4=.int .i64 (idx p l)):=by
 refine B4 rfl fr (λn fr h'=>∃(i:Nat),i+n=l.length/\A0 fr 8=.int .i64 (i:Nat)/\S6 p i (l.drop i)=idx p l) ?_ l.length h ⟨0,by omega,h8,rfl⟩;rintro J Φ hJ hΦ n D5 H1 K ⟨i,hi,k8,hr⟩;have A6:=K.1.trans hl;have k0:=A8 K 0 h0;have k1:=A8 K 1 h1;have k7:=A8 K 7 h7;clear K;by_cases A7:i<l.length
 .have L4:=C6 i (by omega);have hx:=H9 A7;have hP:=hp l[i] (A0Q A7);have hF:=λh=>hfl h l[i];rw[A0c A7]at hr;simp only[S6]at hr;generalize l[i]=s at *
  by_cases hc:p s=true
  .rw[if_pos hc]at hr;rw[hc]at hP;simp[P9,A6,k0,k1,k7,k8,A7,hx,hP,hF,htm,hg];exact hΦ _ _ _ (.inr ⟨rfl,by simp[A6,hr]⟩)
  .have hc':p s=false:=by simpa using hc
   rw[if_neg hc]at hr;rw[hc']at hP;simp[P9,A6,k0,k1,k7,k8,A7,L4,hx,hP,hF,htm,hg];exact E9 hJ ⟨i+1,by omega,by simp[A6],hr⟩
 .rw[A0e (by omega)]at hr;simp[P9,A6,k7,k8,A7];exact hΦ _ _ _ (.inl ⟨rfl,hr.symm⟩)
theorem QD (m:I7) (l:G7) (g:FuncId) (caps:G3) (p:Tm->Bool) (hg:C2 g=false) (B8:l.length<=1048576)
  (hfl:∀(h:AH) (x:Tm),Bj h true (B9 x::caps)=some (B9 x::caps)) (htm:∀h:AH,caps.all (CM h)=true) (hca:caps.all AV.flat=true) (hp:∀x∈l,pc Q g (B9 x::caps)=some (.bool (p x))) :
  pc Q S9 [sl m 4 (A4 l),.fn g caps]=some (.bool (l.any p)):=by
 have hI:pc Q Y6 [sl m 4 (A4 l),.fn g caps]=some (.int .i64 (idx p l)):=by
  refine O9 EY λfr hl h0 h1=>?_;simp[EY]at hl h0 h1;simp[EY,hl,h0];refine B7.mono (eS m l g caps p hg B8 hfl htm hp _ _ ?_ ?_ ?_ ?_ ?_) ?_<;>first|(simp[hl,h0,h1];done)|skip
  rintro e D5 Cv ⟨K,⟨rfl,he⟩|⟨rfl,k4⟩⟩
  .have A6:D5.length=19:=K.1.trans (by simp[hl]);simp[A6,he]
  .simp[k4]
 have he:decide (0<=idx p l)=l.any p:=by
  rw[A0U,decide_eq_true_iff,idx,DY]
 refine O9 CC λfr hl h0 h1=>?_;simp[CC]at hl h0 h1;simp[CC,hl,h0,h1,hI,hca];exact he
theorem eR (m:I7) (l:G7) (g:FuncId) (caps:G3) (p:Tm->Bool) (hg:C2 g=false) (B8:l.length<=1048576) (hfl:∀(h:AH) (x:Tm),Bj h true (B9 x::caps)=some (B9 x::caps)) (htm:∀h:AH,caps.all (CM h)=true) (hp:∀x∈l,pc Q g (B9 x::caps)=some (.bool (p x))) (fr:Fr) (h:AH) (hl:fr.length=19) (h0:A0 fr 0=sl m 4 (A4 l)) (h1:A0 fr 1=.fn g caps) (h7:A0 fr 7=.int .i64 l.length) (h8:A0 fr 8=.int .i64 0) :
  B7 (lp (A2 (K8 Q) (D6 R5) M8) (fr,h)) λe C4 h'=>Kp M8.wr fr C4/\(e=.exit 0/\idx p l=-1\/e=.ret/\A0 C4 4=.int .i64 (idx p l)):=by
 refine B4 rfl fr (λn fr h'=>∃(i:Nat),i+n=l.length/\A0 fr 8=.int .i64 (i:Nat)/\S6 p i (l.drop i)=idx p l) ?_ l.length h ⟨0,by omega,h8,rfl⟩;rintro J Φ hJ hΦ n D5 H1 K ⟨i,hi,k8,hr⟩;have A6:=K.1.trans hl;have k0:=A8 K 0 h0;have k1:=A8 K 1 h1;have k7:=A8 K 7 h7;clear K;by_cases A7:i<l.length
 .have L4:=C6 i (by omega);have hx:=H9 A7;have hP:=hp l[i] (A0Q A7);have hF:=λh=>hfl h l[i];rw[A0c A7]at hr;simp only[S6]at hr;generalize l[i]=s at *
  by_cases hc:p s=true
  .rw[if_pos hc]at hr;rw[hc]at hP;simp[M8,A6,k0,k1,k7,k8,A7,hx,hP,hF,htm,hg];exact hΦ _ _ _ (.inr ⟨rfl,by simp[A6,hr]⟩)
  .have hc':p s=false:=by simpa using hc
   rw[if_neg hc]at hr;rw[hc']at hP;simp[M8,A6,k0,k1,k7,k8,A7,L4,hx,hP,hF,htm,hg];exact E9 hJ ⟨i+1,by omega,by simp[A6],hr⟩
 .rw[A0e (by omega)]at hr;simp[M8,A6,k7,k8,A7];exact hΦ _ _ _ (.inl ⟨rfl,hr.symm⟩)
theorem UP (m:I7) (l:G7) (g:FuncId) (caps:G3) (p:Tm->Bool) (hg:C2 g=false) (B8:l.length<=1048576)
  (hfl:∀(h:AH) (x:Tm),Bj h true (B9 x::caps)=some (B9 x::caps)) (htm:∀h:AH,caps.all (CM h)=true) (hca:caps.all AV.flat=true) (hp:∀x∈l,pc Q g (B9 x::caps)=some (.bool (p x))) :
  pc Q U5 [sl m 4 (A4 l),.fn g caps]=some (.bool (l.any p)):=by
 have hI:pc Q R5 [sl m 4 (A4 l),.fn g caps]=some (.int .i64 (idx p l)):=by
  refine O9 BN λfr hl h0 h1=>?_;simp[BN]at hl h0 h1;simp[BN,hl,h0];refine B7.mono (eR m l g caps p hg B8 hfl htm hp _ _ ?_ ?_ ?_ ?_ ?_) ?_<;>first|(simp[hl,h0,h1];done)|skip
  rintro e D5 Cv ⟨K,⟨rfl,he⟩|⟨rfl,k4⟩⟩
  .have A6:D5.length=19:=K.1.trans (by simp[hl]);simp[A6,he]
  .simp[k4]
 have he:decide (0<=idx p l)=l.any p:=by
  rw[A0U,decide_eq_true_iff,idx,DY]
 refine O9 AB λfr hl h0 h1=>?_;simp[AB]at hl h0 h1;simp[AB,hl,h0,h1,hI,hca];exact he
def aV:List ByteArray:=[bs [112,97,105,114],bs [101,110,99],bs [97,101,110,99],bs [112,107],bs [115,105,103,110],bs [104,97,115,104]]
def Fm (S:List Tm) (u:Tm):Bool:=EF u aV&&u.kids.all (J8 S)
theorem cM (m:I7) (S:G7) (hS:X9 S) (B8:S.length<=1048576) (hs:∀x∈S,x.size<=1099511627776) (x:Tm) (hx:x.size<=1099511627776) :
  pc Q d8 [B9 x,.pv [sl m 4 (A4 S)]]=some (.bool (!J8 S x)):=by
 have hH:=Kg m S x hS (by omega) hs hx;refine O9 Bv λfr hl h0 h1=>?_;simp[Bv]at hl h0 h1;simp[Bv,hl,h0,h1,hH]
theorem fR (m:I7) (S:G7) (hS:X9 S) (B8:S.length<=1048576) (hs:∀x∈S,x.size<=1099511627776) (u:Tm) (hu:u.size<=1048576) :
  pc Q W6 [sl m 4 (A4 S),B9 u]=some (.bool (Fm S u)):=by
 have J4:=u.kids_size;have Do:=Tm.length_le u.kids;have hI:=VI u (true,true) aV (by decide);simp only[DJ,aV,A0S,A0T]at hI;change pc Q J3 _=some (.bool (EF u aV))at hI;have hC:=QD u.cm u.kids d8 [.pv [sl m 4 (A4 S)]] (λx=>!J8 S x) rfl (by omega) (λh x=>by simp) (λh=>rfl) rfl
  (λx hx=>cM m S hS B8 hs x (by have:=Tm.size_le hx;omega))
 have he:(!(u.kids.any λx=>!J8 S x))=u.kids.all (J8 S):=by simp[List.all_eq_not_any_not]
 unfold Fm;rw[←he];generalize u.kids.any (λx=>!J8 S x)=b at *
 generalize EF u aV=c at *
 cases c with
 |false =>
  refine O9 R0 λfr hl h0 h1=>?_;simp[R0]at hl h0 h1;simp[R0,hl,h0,h1,hI,A5]
 |true =>
  refine O9 R0 λfr hl h0 h1=>?_;simp[R0]at hl h0 h1;simp[R0,hl,h0,h1,hI,A5,hC,Bs]
def Qh (S:List Tm) (u t:Tm):Bool :=
 if AP t (bs [112,97,105,114])then JK (J9 t 0) u||JK (J9 t 1) u
 else if AP t (bs [115,105,103,110])then JK (J9 t 0) u
 else match JI t with
  |some k=>JK (J9 t 0) u&&J8 S k
  |none=>false
def Md (S:List Tm) (u:Tm):Bool:=S.any (Qh S u)
theorem iZ (t:Tm) (nm:J2):EF t [nm]=AP t nm:=by
 unfold EF AP;simp only[A0q,A0r,A0p];congr 1;rw[A0U,IX,decide_eq_true_iff]
theorem xh (t:Tm) (a b:J2):EF t [a,b]=(AP t a||AP t b):=by
 rw[←iZ,←iZ];unfold EF;simp only[A0q,A0r,A0p];cases decide (t.kind=3)<;>simp
theorem Rc (t:Tm) (nm:J2):pc Q J3 [B9 t,sl (true,true) 1 [.str nm]]=some (.bool (AP t nm)):=by
 have hI:=VI t (true,true) [nm] (by simp);change pc Q J3 _=some (.bool (EF t [nm]))at hI;rw[iZ]at hI;simpa only[DJ,A0S,A0T]using hI
theorem sY (t:Tm) (a b:J2):pc Q J3 [B9 t,sl (true,true) 1 [.str a,.str b]]=some (.bool (AP t a||AP t b)):=by
 have hI:=VI t (true,true) [a,b] (by simp);change pc Q J3 _=some (.bool (EF t [a,b]))at hI;rw[xh]at hI;simpa only[DJ,A0S,A0T]using hI
theorem jh (m:I7) (S:G7) (hS:X9 S) (B8:S.length<=1048576) (hs:∀x∈S,x.size<=1099511627776) (u t:Tm) (hu:u.size<=1048576) (ht:OkT t) :
  pc Q AE [B9 t,.pv (B9 u).cells,.pv [sl m 4 (A4 S)]]=some (.bool (Qh S u t)):=by
 have hP:=Rc t (bs [112,97,105,114]);have hG:=Rc t (bs [115,105,103,110]);have hE:=sY t (bs [101,110,99]) (bs [97,101,110,99]);have hts:=ht.size;have J4:=t.kids_size;unfold Qh;by_cases hp:AP t (bs [112,97,105,114])=true
 .obtain⟨a,b,hk⟩:=X2 ht hp (.inl rfl);rw[hk]at J4;simp only[Tm.sizes]at J4;have hx0:KN (A4 t.kids) 0=some (B9 a):=by rw[hk];rfl
  have hx1:KN (A4 t.kids) 1=some (B9 b):=by rw[hk];rfl
  have e0:J9 t 0=a:=by simp[J9,hk]
  have e1:J9 t 1=b:=by simp[J9,hk]
  have q0:=Re a u (by omega) (by omega);have q1:=Re b u (by omega) (by omega);rw[if_pos hp,e0,e1];rw[hp]at hP;generalize JK a u=c0 at *
  generalize JK b u=c1 at *
  cases c0 with
  |true =>
   refine FX D1 λfr hl h0 h1 h2=>?_;simp[D1]at hl h0 h1 h2;simp[D1,hl,h0,h1,hP,hx0,q0,A5]
  |false =>
   refine FX D1 λfr hl h0 h1 h2=>?_;simp[D1]at hl h0 h1 h2;simp[D1,hl,h0,h1,hP,hx0,hx1,q0,q1,A5]
 .have hp':AP t (bs [112,97,105,114])=false:=by simpa using hp
  rw[if_neg hp];rw[hp']at hP;by_cases hg:AP t (bs [115,105,103,110])=true
  .obtain⟨a,b,hk⟩:=X2 ht hg (.inr (.inr (.inr (.inl rfl))));rw[hk]at J4;simp only[Tm.sizes]at J4;have hx0:KN (A4 t.kids) 0=some (B9 a):=by rw[hk];rfl
   have e0:J9 t 0=a:=by simp[J9,hk]
   have q0:=Re a u (by omega) (by omega);rw[if_pos hg,e0];rw[hg]at hG;refine FX D1 λfr hl h0 h1 h2=>?_;simp[D1]at hl h0 h1 h2;simp[D1,hl,h0,h1,hP,hG,hx0,q0,A5]
  .have Z6:AP t (bs [115,105,103,110])=false:=by simpa using hg
   rw[if_neg hg];rw[Z6]at hG;by_cases he:AP t (bs [101,110,99])=true\/AP t (bs [97,101,110,99])=true
   .obtain⟨a,b,hk⟩:∃a b,t.kids=[a,b]:=by
     rcases he with he|he
     .exact X2 ht he (.inr (.inl rfl))
     .exact X2 ht he (.inr (.inr (.inl rfl)))
    rw[hk]at J4;simp only[Tm.sizes]at J4;have hx0:KN (A4 t.kids) 0=some (B9 a):=by rw[hk];rfl
    have e0:J9 t 0=a:=by simp[J9,hk]
    have q0:=Re a u (by omega) (by omega);have heE:(AP t (bs [101,110,99])||AP t (bs [97,101,110,99]))=true:=by simpa using he
    rw[heE]at hE;rcases yE t ht he with ⟨k,k',hk1,hk2,hK⟩|⟨hk1,hK⟩
    .have hkz:k'.size<=1099511627776:=by
      rw[Rl hk2];have:k.size<=t.size:=by
       unfold JI at hk1;have hb1:J9 t 1=b:=by simp[J9,hk]
       by_cases q1:AP t (bs [101,110,99])=true
       .rw[if_pos q1,hb1]at hk1;cases hk1;omega
       .rw[if_neg q1,hb1]at hk1;by_cases q2:(AP t (bs [97,101,110,99])&&AP b (bs [112,107]))=true
        .rw[if_pos q2]at hk1;cases hk1;have hb:OkT b:=ht.kid (by rw[hk];simp);rw[A0k]at q2;obtain⟨p1,p2⟩:=LI.1 q2.2;obtain⟨c,hc⟩:=hb.one p1 (by rw[p2];exact .inl rfl);have hsz2:=b.kids_size;rw[hc]at hsz2;simp only[Tm.sizes]at hsz2;have:J9 b 0=c:=by simp[J9,hc]
         rw[this];omega
        .rw[if_neg q2]at hk1;cases hk1
      omega
     have hH:=Kg m S k' hS (by omega) hs hkz;rw[WW hk2]at hH;rw[hk1,e0];generalize JK a u=c0 at *
     cases c0 with
     |true =>
      refine FX D1 λfr hl h0 h1 h2=>?_;simp[D1]at hl h0 h1 h2;simp[D1,hl,h0,h1,h2,hP,hG,hE,hx0,q0,hK,hH,A5]
     |false =>
      refine FX D1 λfr hl h0 h1 h2=>?_;simp[D1]at hl h0 h1 h2;simp[D1,hl,h0,h1,hP,hG,hE,hx0,q0,hK,A5]
    .rw[hk1];refine FX D1 λfr hl h0 h1 h2=>?_;simp[D1]at hl h0 h1 h2;simp[D1,hl,h0,hP,hG,hE,hK,A5]
   .have heE:(AP t (bs [101,110,99])||AP t (bs [97,101,110,99]))=false:=by
     rw[A0b,ne_eq,Bool.or_eq_true];exact he
    rw[heE]at hE;have hkn:JI t=none:=by
     unfold JI;rw[if_neg (λh=>he (.inl h)),if_neg];rw[A0k];exact λh=>he (.inr h.1)
    rw[hkn];refine FX D1 λfr hl h0 h1 h2=>?_;simp[D1]at hl h0 h1 h2;simp[D1,hl,h0,hP,hG,hE,A5]
theorem ol (m:I7) (S:G7) (hS:X9 S) (B8:S.length<=1048576) (hs:∀x∈S,OkT x) (u:Tm) (hu:u.size<=1048576) :
  pc Q d9 [sl m 4 (A4 S),B9 u]=some (.bool (Md S u)):=by
 have hs2:∀x∈S,x.size<=1099511627776:=λx hx=>by have:=(hs x hx).size;omega
 have hC:=UP m S AE [.pv (B9 u).cells,.pv [sl m 4 (A4 S)]] (Qh S u) rfl B8 (λh x=>by simp) (λh=>rfl) rfl
  (λx hx=>jh m S hS B8 hs2 u x hu (hs x hx))
 rw[show S.any (Qh S u)=Md S u from rfl]at hC;simp only[I1]at hC;refine O9 FE λfr hl h0 h1=>?_;simp[FE]at hl h0 h1;simp[FE,hl,h0,h1,hC,Bs]
theorem XO {t:Tm} (h:t.kind=3->t.name∈AQ) {nm:J2} (hn:∀y∈AQ,y≠nm):AP t nm=false:=Mj h hn
theorem lT (t:Tm) (h:OkT t):pc Q HJ [B9 t]=some (.tup [B9 t,sl (true,false) 1 []]):=by
 have hI:=Rc t (bs [101,120,112]);rw[XO h.nm (by decide)]at hI;refine H5 Ks λfr hl h0=>?_;simp[Ks]at hl h0;simp[Ks,hl,h0,hI,A5]
theorem jk (u t:Tm) (ht:OkT t) (hu:OkT u) (P0:JK u t=false) (m:I7) (S:G7):pc Q W7 [B9 t,.pv (B9 u).cells,.pv [sl (true,false) 1 []],.pv [sl m 4 (A4 S)]]=some (.bool false):=by
 have hB:=lT t ht;have hS:=Re u t (by have:=hu.size;omega) (by have:=ht.size;omega);rw[P0]at hS;refine aA NK rfl (by simp[AK]) λfr hl ha=>?_;have h0:=ha 0;have h1:=ha 1;have h2:=ha 2;have h3:=ha 3;clear ha;simp[AK]at hl h0 h1 h2 h3;simp[AK,hl,h0,h1,hB,hS]
theorem qn (a b:Tm):JK a b=JK b a:=by
 unfold JK;rw[A0U,decide_eq_true_iff,decide_eq_true_iff];exact KV.2
theorem Zj {S:G7} {u:Tm} (h:J8 S u=false) {t:Tm} (ht:t∈S):JK u t=false:=by
 rw[qn,A0b];intro he;have:J8 S u=true:=List.any_eq_true.2 ⟨t,ht,he⟩;rw[h]at this;cases this
theorem oq (m:I7) (S:G7) (B8:S.length<=1048576) (hs:∀x∈S,OkT x) (u:Tm) (hu:OkT u) (hn:J8 S u=false) :
  pc Q f7 [sl m 4 (A4 S),B9 u]=some (.bool false):=by
 have hB:=lT u hu;have hC:=UP m S W7 [.pv (B9 u).cells,.pv [sl (true,false) 1 []],.pv [sl m 4 (A4 S)]] (λ_=>false) rfl B8 (λh x=>by simp) (λh=>rfl) rfl
  (λx hx=>jk u x (hs x hx) hu (Zj hn hx) m S)
 rw[show (S.any λ_=>false)=false from by simp]at hC;simp only[I1]at hC;refine O9 FF λfr hl h0 h1=>?_;simp[FF]at hl h0 h1;simp[FF,hl,h0,h1,hB,hC,Bs]
end Go.Abs.Q
namespace Go.Abs
def LPK (step:St->Option (Ex×St)) (Ψ:Ex->Fr->AH->Prop):Ex->Fr->AH->Prop
 | .normal,fr,h=>B7 (lp step (fr,h)) Ψ
 |e,fr,h=>Ψ e fr h
@[simp] theorem LPK_n (step:St->Option (Ex×St)) (Ψ:Ex->Fr->AH->Prop) (fr:Fr) (h:AH):LPK step Ψ .normal fr h=B7 (lp step (fr,h)) Ψ:=_root_.id rfl
@[simp] theorem LPK_e (step:St->Option (Ex×St)) (Ψ:Ex->Fr->AH->Prop) (i:Nat) (fr:Fr) (h:AH):LPK step Ψ (.exit i) fr h=Ψ (.exit i) fr h:=_root_.id rfl
@[simp] theorem LPK_r (step:St->Option (Ex×St)) (Ψ:Ex->Fr->AH->Prop) (fr:Fr) (h:AH):LPK step Ψ .ret fr h=Ψ .ret fr h:=_root_.id rfl
theorem M1 {step:St->Option (Ex×St)} {fr:Fr} {h:AH} {Ψ:Ex->Fr->AH->Prop} (H:B7 (step (fr,h)) (LPK step Ψ)):B7 (lp step (fr,h)) Ψ:=by
 cases hs:step (fr,h)with
 |none=>rw[hs]at H;exact H.elim
 |some x =>
  obtain⟨e,C4,h'⟩:=x;rw[hs]at H;cases e with
  |normal =>
   change B7 (lp step (C4,h')) Ψ at H;cases hl:lp step (C4,h')with
   |none=>rw[hl]at H;exact H.elim
   |some y =>
    rw[wY hs hl];rw[hl]at H;exact H
  |exit i=>rw[lJ hs];exact H
  |ret=>rw[rq hs];exact H
end Go.Abs
namespace Go.Abs.Q
open Go.Proofs
attribute [local simp] E1 E5 fin J7 G4 O2 L3 P2 P1
theorem ed (w:AV) (l:G7) (k:Nat) (B8:l.length<=1048576) (x0 x1 x2:AV) (C:G3) (hw:w=.sl k l.length 0 l.length) (IH:∀t∈l,∃t',pc Q Y4 [B9 t]=some (B9 t')/\E3 t'=E3 t) (fr:Fr) (h:AH) (hh:h.boxes=[[x0,x1,x2,w],C]) (hfam:h.fams[k]?=some ⟨A4 l,4,true⟩) (hl:fr.length=25) (h1:A0 fr 1=.ptr 0 0) (h10:A0 fr 10=w) (h11:A0 fr 11=.int .i64 l.length) (h12:A0 fr 12=.int .i64 0) :
  B7 (lp (A2 (K8 Q) (D6 Y4) x7) (fr,h)) λe C4 h'=>Kp x7.wr fr C4/\e=.exit 0/\∃(B:List (List AV)) (done:List Tm),h'=⟨[x0,x1,x2,w]::C::B,h.fams.set k ⟨A4 done,4,true⟩⟩/\H4 done=H4 l/\done.length=l.length:=by
 refine B4 rfl fr (λn fr h'=>∃(i:Nat),i+n=l.length/\A0 fr 12=.int .i64 (i:Nat)/\(∃(B:List (List AV)) (done:List Tm) (X:List AV),X=(done++l.drop i).map B9/\h'=⟨[x0,x1,x2,w]::C::B,h.fams.set k ⟨X,4,true⟩⟩/\H4 done=H4 (l.take i)/\done.length=i)) ?_ l.length h ⟨0,by omega,h12,⟨[],[],A4 l,by simp[D0],by rw[DH hfam,←hh],by simp[H4],rfl⟩⟩;rintro J Φ hJ hΦ n D5 H1 K ⟨i,hi,k12,hr⟩;have A6:=K.1.trans hl;have k1:=A8 K 1 h1;have k10:=A8 K 10 h10;have k11:=A8 K 11 h11;clear K;by_cases A7:i<l.length
 .have L4:=C6 i (by omega);obtain⟨B,done,X,hX,rfl,hd,Di⟩:=hr;subst hw;obtain⟨t',hI,ht⟩:=IH l[i] (A0Q A7);obtain⟨q1,q2,q3⟩:=SW B9 done l A7 Di;have q4:=SX B9 done l A7 Di t';have e2:H4 (done++[t'])=H4 (l.take (i+1)):=by
   rw[A0X A7,E4,A0a,←E4,hd,E4,E4,A0a,A0S,A0T,A0S,A0T,ht]
  have Do:=H3 hfam;rw[←hX]at q1 q3 q4;have hq2:X[i]'q1=B9 l[i]:=by subst hX;exact q2
  clear hd ht q2 hX hh;generalize hY:(done++[t']++l.drop (i+1)).map B9=Y at *
  generalize l[i]=s at *
  simp[x7,A6,k1,k10,k11,k12,A7,L4,hI,hq2,q3,q4,Do];exact E9 hJ ⟨i+1,by omega,by simp[A6],_,done++[t'],Y,hY.symm,rfl,e2,by simp[Di]⟩
 .obtain⟨B,done,X,hX,rfl,hd,Di⟩:=hr;have e:i=l.length:=by omega
  subst e;rw[A0m]at hd;rw[List.drop_length,A0n,←D0]at hX;simp[x7,A6,k11,k12];exact hΦ _ _ _ ⟨rfl,B,done,by rw[hX],hd,Di⟩
theorem od:∀(n:Nat) (t:Tm),t.size<=n->t.size<=1048576->∃t',pc Q Y4 [B9 t]=some (B9 t')/\E3 t'=E3 t:=by
 intro n
 induction n with
 |zero=>intro t h;have:=t.size_pos;omega
 |succ n ih =>
  intro t hn hb;obtain⟨k,nm,s,m,kids⟩:=t;have J4:Tm.size (.mk k nm s m kids)=1+Tm.sizes kids:=rfl;have B8:=Tm.length_le kids;have hlv:(A4 kids).length=kids.length:=by rw[D0,A0Z]
  have hih:∀t∈kids,∃t',pc Q Y4 [B9 t]=some (B9 t')/\E3 t'=E3 t:=λt ht=>ih t (by have:=Tm.size_le ht;omega) (by have:=Tm.size_le ht;omega);clear ih
  suffices h:∃v,pc Q Y4 [B9 (.mk k nm s m kids)]=some v/\∃t',v=B9 t'/\E3 t'=E3 (.mk k nm s m kids) by
   obtain⟨v,h1,t',rfl,h2⟩:=h;exact⟨t',h1,h2⟩
  obtain⟨w,⟨B0,F⟩,hC,hg,hb0,hf⟩:=QH m (A4 kids) (by omega) ⟨[[.int .i64 k,.str nm,.int .i64 s,sl m 4 (A4 kids)],[.int .i64 0,.str (bs []),.int .i64 0,.vs true 0 []]],[]⟩;simp only at hb0;subst hb0;obtain⟨c1,c2,c3⟩:=Ur hg;have hlenW:=au hg;rw[hlv]at hlenW;simp only[A0o]at hg;rcases hg with ⟨hl0,b,rfl⟩|⟨P0,rfl,hk⟩
  .have:kids=[]:=by rw[D0]at hl0;exact List.map_eq_nil_iff.1 hl0
   subst this;refine GU BZ λΨ hΨ fr hl h0=>?_;simp[BZ,B9]at hl h0;simp[BZ,hl,h0,hC];refine M1 ?_;simp[x7,hl];exact hΨ _ ⟨.mk k nm s (true,b) [],rfl,rfl⟩
  .rw[hlv]at hC hlenW c1 c2 c3;simp only at hk;have GW:=ed (.sl 0 kids.length 0 kids.length) kids 0 (by omega) (.int .i64 k) (.str nm) (.int .i64 s) [.int .i64 0,.str (bs []),.int .i64 0,.vs true 0 []] rfl hih;refine GU BZ λΨ hΨ fr hl h0=>?_;simp[BZ,B9]at hl h0;simp[BZ,hl,h0,hC,hlenW];refine B7.mono (GW _ _ ?_ ?_ ?_ ?_ ?_ ?_ ?_) ?_<;>first|exact hk|(simp[hl];done)|skip
   rintro e D5 ⟨bx,F2⟩ ⟨K,rfl,B,done,hB,hd,Di⟩;cases hB;have J0:D5.length=25:=K.1.trans (by simp[hl]);have FS:A0 D5 1=.ptr 0 0:=A8 K 1 (by simp[hl]);have GK:A0 D5 2=.ptr 1 0:=A8 K 2 (by simp[hl]);clear K;have Do:=H3 hk;have hz:∀B',Ej ⟨B',F.set 0 ⟨A4 done,4,true⟩⟩ true (.sl 0 kids.length 0 kids.length)=some (sl (false,true) 4 (A4 done)):=λB'=>JQ (b:=true) (by simp[Do]) (by rw[D0,A0Z,Di]);simp[J0,FS,GK,hz];exact hΨ _ ⟨.mk k nm s (false,true) done,rfl,by simp[E3,hd]⟩
end Go.Abs.Q
namespace Go.Abs.Q
open Go.Proofs
attribute [local simp] E1 E5 fin J7 G4 O2 L3 P2 P1
def OM (t:Tm) (n:Int):AV:=.agg [.int .i64 t.kind,.str t.name,.int .i64 t.sort,sl t.cm 4 (A4 t.kids),.int .i64 n]
@[simp] theorem pwV_agg (t:Tm) (n:Int):AV.agg [.int .i64 t.kind,.str t.name,.int .i64 t.sort,sl t.cm 4 (A4 t.kids),.int .i64 n]=OM t n:=rfl
@[simp] theorem zU (t:Tm) (n:Int):(OM t n).cells=[.int .i64 t.kind,.str t.name,.int .i64 t.sort,sl t.cm 4 (A4 t.kids),.int .i64 n]:=rfl
@[simp] theorem zV (t:Tm) (n:Int):(OM t n).isTup=false:=rfl
@[simp] theorem pwV_frz (h:AH) (am:Bool) (t:Tm) (n:Int):KH h am (OM t n)=some (OM t n):=rfl
@[simp] theorem pwV_tame (h:AH) (t:Tm) (n:Int):CM h (OM t n)=true:=rfl
theorem vT (u:Tm):pc Q K9 [sl (true,false) 1 [],B9 u,.fn Hh []]=some (.tup [.int .i64 0,.bool false]):=by
 refine FX P5 λfr hl h0 h1 h2=>?_;simp[P5]at hl h0 h1 h2;simp[P5,hl,h0,h1];refine M1 ?_;simp[X8,hl]
theorem jw (u:Tm) (hu:u.size<=1048576) (B:List (List AV)) (F:List Fam) :
  ∃(u':Tm) (k:Nat) (h':AH),rc Q Ah [.vs true 0 [],OM u 1] ⟨B,F⟩=some (.sl k 1 0 1,h')/\h'.fams[k]?=some ⟨[OM u' 1],5,true⟩/\E3 u'=E3 u/\∃B',h'.boxes=B++B':=by
 obtain⟨u',hC,he⟩:=od _ u (A0W _) hu;have hB:=vT u;have hI:∀B2:List (List AV),rc Q O4 [.vs true 0 [],.int .i64 0,sl (true,true) 5 [OM u' 1]] ⟨B2,F⟩=some (.sl F.length 1 0 1,⟨B2,F++[⟨[OM u' 1],5,true⟩]⟩):=by
  intro B2;refine ON (s:=lC 5 64) rfl rfl ?_;rw[show sl (true,true) 5 [OM u' 1]=.vs true 5 [OM u' 1] from by simp[sl]];change UF 5 64 [.vs true 0 [],.int .i64 0,.vs true 5 [OM u' 1]] _=_;simp only[UF,Ps];rw[if_pos ⟨trivial,rfl⟩,if_pos (by decide)]
 suffices hq:∃v h',rc Q Ah [.vs true 0 [],OM u 1] ⟨B,F⟩=some (v,h')/\∃k,v=.sl k 1 0 1/\h'.fams[k]?=some ⟨[OM u' 1],5,true⟩/\∃B',h'.boxes=B++B' by
  obtain⟨v,h',h1,k,rfl,h2,h3⟩:=hq;exact⟨u',k,h',h1,h2,he,h3⟩
 refine Hl Jr λfr hl h0 h1=>?_;simp[Jr]at hl h0 h1;simp[Jr,hl,h0,h1,hB,hC,hI,A5,D2,E6]
theorem aH (t:Tm) (h:t.kind=3->t.name∈AQ):pc Q GM [B9 t]=some (.bool false):=by
 by_cases hk:t.kind=3
 .obtain⟨-,-,-,-,-,-,-,n8,n9,n10,-⟩:=LY (h hk);refine H5 Al λfr hl h0=>?_;simp[Al]at hl h0;simp[Al,hl,h0,hk,n8,n9,n10]
 .refine H5 Al λfr hl h0=>?_;simp[Al]at hl h0;simp[Al,hl,h0,hk]
theorem ju (u:Tm) (hu:u.size<=1048576) (hf:u.kind=3->u.name∈AQ) (B:List (List AV)) (F:List Fam) :
  ∃(u':Tm) (k:Nat) (h':AH),rc Q Y0 [.vs true 0 [],B9 u,.int .i64 1] ⟨B,F⟩=some (.tup [.sl k 1 0 1,.bool true],h')/\h'.fams[k]?=some ⟨[OM u' 1],5,true⟩/\E3 u'=E3 u/\∃B',h'.boxes=B++B':=by
 obtain⟨u',k,⟨B1,F1⟩,hI,hk,he,⟨B',hB'⟩⟩:=jw u hu (B++[(B9 u).cells]) F;simp only at hB' hk;subst hB';have hS:=aH u hf
 suffices hq:∃v h',rc Q Y0 [.vs true 0 [],B9 u,.int .i64 1] ⟨B,F⟩=some (v,h')/\∃k,v=.tup [.sl k 1 0 1,.bool true]/\h'.fams[k]?=some ⟨[OM u' 1],5,true⟩/\∃B',h'.boxes=B++B' by
  obtain⟨v,h',h1,k,rfl,h2,h3⟩:=hq;exact⟨u',k,h',h1,h2,he,h3⟩
 simp only[I1]at hI;refine ch Io λfr hl h0 h1 h2=>?_;simp[Io]at hl h0 h1 h2;simp[Io,hl,h0,h1,h2,hS,hI,D2,E6];exact hk
theorem pc_Of (u:Tm) (hu:OkT u):∃u',pc Q DZ [B9 u]=some (.tup [sl (false,true) 5 [OM u' 1],.int .i64 0])/\E3 u'=E3 u:=by
 have hs:=hu.size;have hV:=HS u (by omega);rw[(u7 hu.valid).1]at hV;obtain⟨u',k,⟨B1,F1⟩,hI,hk,he,⟨B',hB'⟩⟩:=ju u (by omega) hu.nm [(B9 u).cells] [];simp only at hB' hk;subst hB';have hz:∀B',Ej ⟨B',F1⟩ true (.sl k 1 0 1)=some (sl (false,true) 5 [OM u' 1]):=λB'=>JQ hk rfl;refine⟨u',?_,he⟩;simp only[I1]at hI;refine H5 Og λfr hl h0=>?_;simp[Og]at hl h0;simp[Og,hl,h0,hV,hI,hz]
theorem fp (m:I7) (S:G7) (hS:X9 S) (B8:S.length<=1048576) (hs:∀x∈S,x.size<=1099511627776) (u:Tm) (hu:u.size<=1099511627776) (hn:J8 S u=false) :
  pc Q P7 [OM u 1,.pv [sl m 4 (A4 S)]]=some (.bool false):=by
 have hH:=Kg m S u hS (by omega) hs hu;rw[hn]at hH;refine O9 CP λfr hl h0 h1=>?_;simp[CP]at hl h0 h1;simp[CP,hl,h0,h1,hH]
theorem fL (mm m:I7) (S:G7) (hS:X9 S) (B8:S.length<=1048576) (hs:∀x∈S,x.size<=1099511627776) (u:Tm) (hu:u.size<=1099511627776) (hn:J8 S u=false) :
  pc Q AI [sl mm 5 [OM u 1],.fn P7 [.pv [sl m 4 (A4 S)]]]=some (.int .i64 (-1)):=by
 have hP:=fp m S hS B8 hs u hu hn;have h01:IntKind.i64.wrap 1=1:=by decide
 refine O9 Df λfr hl h0 h1=>?_;simp[Df]at hl h0 h1;simp[Df,hl,h0];refine M1 ?_;simp[HA,hl,h0,h1,hP,h01];refine M1 ?_;simp[hl]
theorem jr (mm m:I7) (S:G7) (hS:X9 S) (B8:S.length<=1048576) (hs:∀x∈S,x.size<=1099511627776) (u:Tm) (hu:u.size<=1099511627776) (hn:J8 S u=false) :
  pc Q S3 [sl m 4 (A4 S),sl mm 5 [OM u 1]]=some (sl (false,true) 5 [OM u 1]):=by
 have hC:∀(B:List (List AV)),rc Q N2 [sl mm 5 [OM u 1]] ⟨B,[]⟩=some (.sl 0 1 0 1,⟨B,[⟨[OM u 1],5,true⟩]⟩):=by
  intro B
  suffices hq:∃v h',rc Q N2 [sl mm 5 [OM u 1]] ⟨B,[]⟩=some (v,h')/\(v=.sl 0 1 0 1/\h'=⟨B,[⟨[OM u 1],5,true⟩]⟩) by
   obtain⟨v,h',h1,rfl,rfl⟩:=hq;exact h1
  have hr:H2=140737488355328:=rfl;have hm:maxLen=9223372036854775807:=rfl;refine gC Gy λfr hl h0=>?_;simp[Gy]at hl h0;simp[Gy,hl,h0,Td,GY,A5,show Yu N2=true from rfl,hr,hm]
 have hI:=fL (false,true) m S hS B8 hs u hu hn;have hD:∀(B:List (List AV)),rc Q N0 [.sl 0 1 0 1,.fn P7 [.pv [sl m 4 (A4 S)]]] ⟨B,[⟨[OM u 1],5,true⟩]⟩=some (.sl 0 1 0 1,⟨B,[⟨[OM u 1],5,true⟩]⟩):=by
  intro B
  suffices hq:∃v h',rc Q N0 [.sl 0 1 0 1,.fn P7 [.pv [sl m 4 (A4 S)]]] ⟨B,[⟨[OM u 1],5,true⟩]⟩=some (v,h')/\(v=.sl 0 1 0 1/\h'=⟨B,[⟨[OM u 1],5,true⟩]⟩) by
   obtain⟨v,h',h1,rfl,rfl⟩:=hq;exact h1
  refine Hl CQ λfr hl h0 h1=>?_;simp[CQ]at hl h0 h1;simp[CQ,hl,h0,h1,hI]
 refine O9 EI λfr hl h0 h1=>?_;simp[EI]at hl h0 h1;simp[EI,hl,h0,h1,hC,hD,Bs]
theorem yC (m:I7) (R:G7) (t:Tm) (hR:X9 R) (B8:R.length<=1099511627776) (hs:∀x∈R,x.size<=1099511627776) (ht:t.size<=1099511627776) :
  ∃i:Nat,i<=R.length/\(∀j (hj:j<R.length),j<i->H6 R[j] t<0)/\(∀j (hj:j<R.length),i<=j->0<=H6 R[j] t) /\
   pc Q J6 [sl m 4 (A4 R),B9 t,.fn C3 []]=some (.tup [.int .i64 (i:Nat),.bool (J8 R t)]):=by
 suffices h:∃v,pc Q J6 [sl m 4 (A4 R),B9 t,.fn C3 []]=some v/\∃i:Nat,v=.tup [.int .i64 (i:Nat),.bool (J8 R t)]/\i<=R.length/\(∀j (hj:j<R.length),j<i->H6 R[j] t<0)/\(∀j (hj:j<R.length),i<=j->0<=H6 R[j] t) by
  obtain⟨v,h1,i,rfl,h2,h3,h4⟩:=h;exact⟨i,h2,h3,h4,h1⟩
 refine fu AA λΨ hΨ fr hl h0 h1 h2=>?_;simp[AA]at hl h0 h1 h2;simp[AA,hl,h0,h1];refine(B4 (Ψ:=λe C4 h'=>e=.exit 0/\h'=⟨[(B9 t).cells],[]⟩/\∃i:Nat,A0 C4 9=.int .i64 (i:Nat)/\i<=R.length/\(∀j (hj:j<R.length),j<i->H6 R[j] t<0)/\(∀j (hj:j<R.length),i<=j->0<=H6 R[j] t)) rfl _
  (λn C4 h'=>h'=⟨[(B9 t).cells],[]⟩/\∃lo hi:Nat,hi=lo+n/\hi<=R.length/\A0 C4 9=.int .i64 (lo:Nat)/\A0 C4 10=.int .i64 (hi:Nat)/\(∀j (hj:j<R.length),j<lo->H6 R[j] t<0)/\(∀j (hj:j<R.length),hi<=j->0<=H6 R[j] t)) ?_ R.length _
  ⟨by simp,0,R.length,by omega,A0W _,by simp[hl],by simp[hl],λj _ h=>absurd h (Nat.not_lt_zero _),λj hj h=>by omega⟩).mono ?_
 .rintro J Φ hJ hΦ n D5 H1 K ⟨rfl,lo,hi,hn,Zk,k9,k10,g1,g2⟩;have A6:D5.length=49:=K.1.trans (by simp[hl]);have k0:=A8 K 0 (by simp[h0]:_=sl m 4 (A4 R));have k2:=A8 K 2 (by simp[h2]:_=AV.fn C3 []);have k4:=A8 K 4 (by simp[hl]:_=AV.ptr 0 0);clear K;by_cases A7:0<n
  .have hlti:(lo:Int)<(hi:Int):=by omega
   have hw1:IntKind.i64.wrap ((lo:Int)+(hi:Int))=(lo:Int)+(hi:Int):=W2 (by omega) (by omega);have hw2:IntKind.u64.wrap ((lo:Int)+(hi:Int))=(lo:Int)+(hi:Int):=uA (by omega) (by omega);obtain⟨mid,hmd⟩:∃mid,mid=(lo+hi) / 2:=⟨_,rfl⟩;have hb:=da (lo+hi);rw[←hmd,Int.natCast_add]at hb;have hm1:lo<=mid:=by omega
   have hm2:mid<hi:=by omega
   have hw3:IntKind.i64.wrap (mid:Int)=(mid:Int):=W2 (by omega) (by omega);have hw4:=C6 mid (by omega);have hmid:mid<R.length:=by omega
   have hx:=H9 hmid;have hC:=j7 _ R[mid] t (A0W _) (hs _ (A0Q hmid)) ht;by_cases hc:H6 R[mid] t<0
   .have g1':∀j (hj:j<R.length),j<mid+1->H6 R[j] t<0:=λj hj hjm=>by
     rcases A0i (Nat.le_of_lt_succ hjm)with q|q
     .exact GZ (hR.get hj hmid q) hc
     .subst q;exact hc
    generalize R[mid]=x at *
    simp[R9,A6,k0,k2,k4,k9,k10,hlti,hw1,hw2,hw3,hw4,hb,hx,hC,hc];exact⟨hi-(mid+1),by omega,hJ _ _ _ ⟨by simp,mid+1,hi,by omega,Zk,by simp[A6],by simp[k10],g1',g2⟩⟩
   .have g2':∀j (hj:j<R.length),mid<=j->0<=H6 R[j] t:=λj hj hjm=>by
     rcases A0i hjm with q|q
     .rcases Int.lt_or_le (H6 R[j] t) 0 with p|p
      .exact absurd (GZ (hR.get hmid hj q) p) hc
      .exact p
     .subst q;omega
    generalize R[mid]=x at *
    simp[R9,A6,k0,k2,k4,k9,k10,hlti,hw1,hw2,hw3,hb,hx,hC,hc];exact⟨mid-lo,by omega,hJ _ _ _ ⟨by simp,lo,mid,by omega,by omega,by simp[k9],by simp[A6],g1,g2'⟩⟩
  .have hn0:n=0:=by omega
   have hlh:hi=lo:=by omega
   subst hlh;simp[R9,A6,k9,k10];exact hΦ _ _ _ ⟨rfl,by simp,hi,by simp[k9],Zk,g1,g2⟩
 .rintro e D5 Cv ⟨K,rfl,rfl,i,k9,hi,g1,g2⟩;have A6:D5.length=49:=K.1.trans (by simp[hl]);have k0:=A8 K 0 (by simp[h0]:_=sl m 4 (A4 R));have k2:=A8 K 2 (by simp[h2]:_=AV.fn C3 []);have k4:=A8 K 4 (by simp[hl]:_=AV.ptr 0 0);have k8:=A8 K 8 (by simp[hl]:_=AV.int .i64 R.length);clear K;have hh:=qw hR t i g1 g2;by_cases A7:i<R.length
  .have hx:=H9 A7;have hC:=j7 _ R[i] t (A0W _) (hs _ (A0Q A7)) ht;have e:decide (H6 R[i] t=0)=J8 R t:=by
    rw[A0U,decide_eq_true_iff,hh];exact⟨λh=>⟨A7,h⟩,λ⟨_,h⟩=>h⟩
   simp[A6,k0,k2,k4,k8,k9,A7,hx,hC];exact hΨ _ ⟨i,by rw[e],hi,g1,g2⟩
  .have e:J8 R t=false:=by
    rw[A0b];intro h;obtain⟨h,-⟩:=hh.1 h;omega
   simp[A6,k8,k9,A7];exact hΨ _ ⟨i,by rw[e],hi,g1,g2⟩
theorem om (m:I7) (u:Tm) (hu:OkT u):pc Q HI [sl m 5 [OM u 1]]=some (.int .i64 0):=by
 have hV:=HS u (by have:=hu.size;omega);rw[(u7 hu.valid).1]at hV;have hS:=aH u hu.nm;have h01:IntKind.i64.wrap 1=1:=by decide
 refine H5 Kr λfr hl h0=>?_;simp[Kr]at hl h0;simp[Kr,hl,h0];refine M1 ?_;simp[NS,hl,hV,hS,h01];refine M1 ?_;simp[hl]
theorem jW:pc Q Au [sl (true,false) 1 []]=some (sl (true,false) 1 []):=by
 refine H5 BB λfr hl h0=>?_;simp[BB]at hl h0;simp[BB,hl,h0,Td];rfl
theorem fQ (a b:Tm) (h:a.size<=1099511627776) (h':b.size<=1099511627776):pc Q AS [B9 a,B9 b]=some (.bool (decide (H6 a b=0))):=by
 have hC:=j7 _ a b (A0W _) h h';refine O9 Gq λfr hl h0 h1=>?_;simp[Gq]at hl h0 h1;simp[Gq,hl,h0,h1,hC]
theorem jd (m m2:I7) (u:Tm) (hu:u.size<=1048576):∃m',pc Q w7 [sl m 1 [sl m2 5 [OM u 1]]]=some (sl m' 4 [B9 u]):=by
 have h01:IntKind.i64.wrap 1=1:=by decide
 have hr:H2=140737488355328:=rfl;have hm:maxLen=9223372036854775807:=rfl;have hmu:Yu w7=true:=rfl;obtain⟨l',hp,-,hS⟩:=UU 0 ⟨[[.int .i64 u.kind,.str u.name,.int .i64 u.sort,sl u.cm 4 (A4 u.kids),.int .i64 1]],[⟨A4 [u],4,true⟩]⟩ [u] rfl (by simp) (by simp;omega) (by simp);have hl':l'=[u]:=A0h.1 hp;subst hl';have hcm:VZ AS [u]:=⟨rfl,λa ha b hb=>by
  rw[A0V]at ha hb;exact fQ a b (by rw[ha];omega) (by rw[hb];omega)⟩
 obtain⟨Z,hZ,hZR,hK⟩:=NJ AS [u] hcm 0 ⟨[[.int .i64 u.kind,.str u.name,.int .i64 u.sort,sl u.cm 4 (A4 u.kids),.int .i64 1]],[⟨A4 [u],4,true⟩]⟩ rfl (by simp);have hZ1:Z=[u]:=by
  have:(S5 [u])=[u]:=rfl;rw[this]at hZR;rw[←hZR,A0f (by simp[hZ])]
 subst hZ1;simp only[show S5 [u]=[u] from rfl,show A4 [u]=[B9 u] from rfl,A0Y,List.set_cons_zero]at hS hK
 suffices h:∃v,pc Q w7 [sl m 1 [sl m2 5 [OM u 1]]]=some v/\∃q:Bool×Bool,v=sl q 4 [B9 u] by
  obtain⟨v,h1,q,rfl⟩:=h;exact⟨q,h1⟩
 refine GU Ip λΨ hΨ fr hl h0=>?_;simp[Ip]at hl h0;simp[Ip,hl,h0];refine M1 ?_;simp[KP,hl];refine M1 ?_;simp[Lk,hl,A5,h01,hr,hm,hmu];refine M1 ?_;simp[hl,h01];refine M1 ?_;simp[hl,hS,hK];exact hΨ _ ⟨(false,true),rfl⟩
@[simp] theorem xe (k:IntKind) (i:Int) (cs:G3):(AV.int k i).reform cs=cs.head?:=rfl
@[simp] theorem wN (b:Bool) (cs:G3):(AV.bool b).reform cs=cs.head?:=rfl
theorem lR (m:I7) (u:Tm) (hu:u.size<=1048576):pc Q J6 [sl m 4 [B9 u],B9 u,.fn C3 []]=some (.tup [.int .i64 0,.bool true]):=by
 obtain⟨i,hi,g1,-,hB⟩:=yC m [u] u (List.pairwise_singleton _ _) (by simp) (by simp;omega) (by omega);have hi0:i=0:=by
  rcases Nat.eq_zero_or_pos i with h|h
  .exact h
  .have:=g1 0 (by simp) h;simp[PG]at this
 subst hi0;have hh:J8 [u] u=true:=by simp[J8,JK,PG]
 rw[hh]at hB;exact hB
theorem fb (m m2:I7) (u:Tm) (hu:u.size<=1048576):∃m',pc Q BG [sl m 4 [B9 u],sl m2 5 [OM u 1]]=some (sl m' 1 [.int .i64 1]):=by
 have h01:IntKind.i64.wrap 1=1:=by decide
 have hr:H2=140737488355328:=rfl;have hm:maxLen=9223372036854775807:=rfl;have hB:=lR m u hu
 suffices h:∃v,pc Q BG [sl m 4 [B9 u],sl m2 5 [OM u 1]]=some v/\∃q:Bool×Bool,v=sl q 1 [.int .i64 1] by
  obtain⟨v,h1,q,rfl⟩:=h;exact⟨q,h1⟩
 refine Sp Hn λΨ hΨ fr hl h0 h1=>?_;simp[Hn]at hl h0 h1;simp[Hn,hl,h0,h1,hr,hm];refine M1 ?_;simp[KQ,hl,h0,hB,h01];refine M1 ?_;simp[hl];exact hΨ _ ⟨(false,true),rfl⟩
theorem jv (m:I7) (u:Tm) (xs:List Fam) (B C:List (List AV)) (p:AV) :
  rc Q M6 [.ptr B.length 0,.int .i64 0] ⟨B++[sl m 4 [B9 u],.vs true 0 [],p,.bool false]::C,xs⟩=some (C5,⟨B++[sl m 4 [B9 u],.vs true 0 [],p,.bool false]::C,xs⟩):=by
 suffices hq:∃v h',rc Q M6 [.ptr B.length 0,.int .i64 0] ⟨B++[sl m 4 [B9 u],.vs true 0 [],p,.bool false]::C,xs⟩=some (v,h')/\(v=C5/\h'=⟨B++[sl m 4 [B9 u],.vs true 0 [],p,.bool false]::C,xs⟩) by
  obtain⟨v,h',h1,rfl,rfl⟩:=hq;exact h1
 have hb:(B++[sl m 4 [B9 u],.vs true 0 [],p,.bool false]::C)[B.length]?=some [sl m 4 [B9 u],.vs true 0 [],p,.bool false]:=by simp
 generalize B++[sl m 4 [B9 u],.vs true 0 [],p,.bool false]::C=X at *
 refine Hl AX λfr hl h0 h1=>?_;simp[AX]at hl h0 h1;simp[AX];refine M1 ?_;simp[Dl,hl,h0,hb];refine M1 ?_;simp[Dk,hl]
theorem tL (m2:I7) (u:Tm) (hu:OkT u) (B:List (List AV)) (F:List Fam) :
  ∃(m m':Bool×Bool) (k:Nat) (h':AH),rc Q w8 [sl (true,false) 1 [],sl m2 5 [OM u 1]] ⟨B,F⟩=some (.tup [.ptr B.length 0,.ptr (B.length+1) 0,.int .i64 0],h') /\
   h'.boxes=B++[[sl m 4 [B9 u],.vs true 0 [],.sl k 1 0 1,.bool false],[sl m' 1 [.int .i64 1],sl (true,true) 1 [],.bool false]]/\h'.fams[k]?=some ⟨[.int .i64 (-1)],1,false⟩:=by
 have hs:=hu.size;have h01:IntKind.i64.wrap 1=1:=by decide
 have hr:H2=140737488355328:=rfl;have hm:maxLen=9223372036854775807:=rfl;have hV:=om m2 u hu;have hC:=jW;obtain⟨m,hCo⟩:=jd (false,true) m2 u (by omega);obtain⟨m',hP⟩:=fb m m2 u (by omega);have hcol:=jv m u
 suffices hq:∃v h',rc Q w8 [sl (true,false) 1 [],sl m2 5 [OM u 1]] ⟨B,F⟩=some (v,h')/\∃k,v=.tup [.ptr B.length 0,.ptr (B.length+1) 0,.int .i64 0]/\h'.boxes=B++[[sl m 4 [B9 u],.vs true 0 [],.sl k 1 0 1,.bool false],[sl m' 1 [.int .i64 1],sl (true,true) 1 [],.bool false]]/\h'.fams[k]?=some ⟨[.int .i64 (-1)],1,false⟩ by
  obtain⟨v,h',h1,k,rfl,h2,h3⟩:=hq;exact⟨m,m',k,h',h1,h2,h3⟩
 refine Hl Kq λfr hl h0 h1=>?_;simp[Kq]at hl h0 h1;simp[Kq,hl,h0];refine M1 ?_;simp[NR,hl];have hmu:Yu w8=false:=rfl;have ht:∀B':List (List AV),CM ⟨B',F++[⟨[sl m2 5 [OM u 1]],1,false⟩]⟩ (.sl F.length 1 0 1)=true:=by intro B';simp[CM,KO]
 simp[hl,h0,h1,hV,hC,hCo,A5,hr,hm,GY,D2,E6,hmu,ht];refine M1 ?_;simp[NQ,hl];refine M1 ?_;simp[NP,hl,A5,hr,hm,hmu,h01];refine M1 ?_;simp[hl];refine M1 ?_;simp[NO,hl,hcol,h01];refine M1 ?_;simp[hl,h0,h1,hP,jO,hr,hm,D2,E6];exact⟨F.length+1,⟨rfl,rfl⟩,by simp⟩
theorem ph (m m':I7) (u:Tm) (B:List (List AV)) (F:List Fam) (k:Nat) (a b:Nat) (co:AV)
  (ha:B[a]?=some [sl m 4 [B9 u],.vs true 0 [],.sl k 1 0 1,.bool false]) (hb:B[b]?=some [sl m' 1 [.int .i64 1],co,.bool false]) (hk:F[k]?=some ⟨[.int .i64 (-1)],1,false⟩) :
  rc Q M7 [.ptr a 0,.ptr b 0] ⟨B,F⟩=some (.int .i64 0,⟨B,F⟩):=by
 suffices hq:∃v h',rc Q M7 [.ptr a 0,.ptr b 0] ⟨B,F⟩=some (v,h')/\(v=.int .i64 0/\h'=⟨B,F⟩) by
  obtain⟨v,h',h1,rfl,rfl⟩:=hq;exact h1
 refine Hl AY λfr hl h0 h1=>?_;simp[AY]at hl h0 h1;simp[AY,hl,h0,ha];refine M1 ?_;simp[Dm,hl,h0,h1,ha,hb,hk]
theorem nv (m2:I7) (u:Tm) (hu:OkT u):pc Q JU [sl (true,false) 1 [],sl m2 5 [OM u 1]]=some (.tup [sl (true,false) 1 [],.int .i64 4]):=by
 obtain⟨m,m',k,⟨B',F'⟩,hS,hB,hk⟩:=tL m2 u hu [] [];simp only[A0d,A0o]at hB hS hk;subst hB;have hR:=ph m m' u [[sl m 4 [B9 u],.vs true 0 [],.sl k 1 0 1,.bool false],[sl m' 1 [.int .i64 1],sl (true,true) 1 [],.bool false]] F' k 0 1 _ rfl rfl hk;have hV:rc Q BV [sl (true,false) 1 [],sl m2 5 [OM u 1]] ⟨[],[]⟩=some (.tup [.ptr 0 0,.ptr 1 0,.int .i64 0,.int .i64 0],⟨[[sl m 4 [B9 u],.vs true 0 [],.sl k 1 0 1,.bool false],[sl m' 1 [.int .i64 1],sl (true,true) 1 [],.bool false]],F'⟩):=by
  suffices hq:∃v h',rc Q BV [sl (true,false) 1 [],sl m2 5 [OM u 1]] ⟨[],[]⟩=some (v,h')/\(v=.tup [.ptr 0 0,.ptr 1 0,.int .i64 0,.int .i64 0]/\h'=⟨[[sl m 4 [B9 u],.vs true 0 [],.sl k 1 0 1,.bool false],[sl m' 1 [.int .i64 1],sl (true,true) 1 [],.bool false]],F'⟩) by
   obtain⟨v,h',h1,rfl,rfl⟩:=hq;exact h1
  refine Hl Ko λfr hl h0 h1=>?_;simp[Ko]at hl h0 h1;simp[Ko,hl,h0,h1,hS,hR]
 refine O9 Jq λfr hl h0 h1=>?_;simp[Jq]at hl h0 h1;simp[Jq,hl,h0,h1,hV]
theorem XT (m:I7) (S:G7) (B8:S.length<=1048576) (hs:∀x∈S,OkT x) (fr:Fr) (h:AH) (h5:A0 fr 5=.vs true 0 []) (hl:fr.length=46) (h18:A0 fr 18=sl m 4 (A4 S)) (h19:A0 fr 19=.int .i64 S.length) (h20:A0 fr 20=.int .i64 0) :
  B7 (lp (A2 (K8 Q) (D6 V2) R7) (fr,h)) λe C4 h'=>Kp R7.wr fr C4/\(e=.exit 0/\A0 C4 5=.vs true 0 []):=by
 refine B4 rfl fr (λn fr h'=>∃(i:Nat),i+n=S.length/\A0 fr 20=.int .i64 (i:Nat)/\A0 fr 5=.vs true 0 []) ?_ S.length h ⟨0,by omega,h20,h5⟩;rintro J Φ hJ hΦ n D5 H1 K ⟨i,hi,k20,hr⟩;have A6:=K.1.trans hl;have k18:=A8 K 18 h18;have k19:=A8 K 19 h19;clear K;by_cases A7:i<S.length
 .have L4:=C6 i (by omega);have hx:=H9 A7;have hP:=fa S[i] (hs _ (A0Q A7)).nm;obtain⟨bx,F⟩:=H1;generalize S[i]=s at *
  simp[R7,A6,k18,k19,k20,A7,L4,hx,hP];exact E9 hJ ⟨i+1,by omega,by simp[A6],by simp[hr]⟩
 .simp[R7,A6,k19,k20,A7];exact hΦ _ _ _ ⟨rfl,by simp[hr]⟩
theorem cN (mm m:I7) (S:G7) (hS:X9 S) (B8:S.length<=1048576) (hs:∀x∈S,OkT x) (u:Tm) (hu:OkT u) (hn:J8 S u=false) :
  pc Q V2 [sl m 4 (A4 S),sl mm 5 [OM u 1]]=some (.bool false):=by
 have hU:=jr mm m S hS B8 (λx hx=>by have:=(hs x hx).size;omega) u (by have:=hu.size;omega) hn;have hM:=nv (false,true) u hu;refine O9 CO λfr hl h0 h1=>?_;simp[CO]at hl h0 h1;simp[CO,hl,h0,h1,hU];refine B7.mono (XT m S B8 hs _ _ ?_ ?_ ?_ ?_ ?_) ?_<;>first|(simp[hl];done)|skip
 rintro e D5 Cv ⟨K,rfl,k5⟩;have J0:D5.length=46:=K.1.trans (by simp[hl]);have FS:A0 D5 1=sl (false,true) 5 [OM u 1]:=A8 K 1 (by simp[hl]);clear K;simp[J0,FS,k5,hM]
theorem Yz (m:I7) (S:G7) (hS:X9 S) (B8:S.length<=1048576) (hs:∀x∈S,OkT x) (u:Tm) (hu:OkT u) (hn:J8 S u=false) :
  pc Q Bm [sl m 4 (A4 S),B9 u]=some (.bool false):=by
 obtain⟨u',hO,he⟩:=pc_Of u hu;have hn':J8 S u'=false:=by rw[WW he];exact hn
 have hG:=cN (false,true) m S hS B8 hs u' (hu.er he) hn';refine O9 Bw λfr hl h0 h1=>?_;simp[Bw]at hl h0 h1;simp[Bw,hl,h0,h1,hO,hG]
theorem Tm.kind_mk (k:Int) (nm:J2) (s:Int) (m:I7) (l:G7):(Tm.mk k nm s m l).kind=k:=rfl
theorem Tm.name_mk (k:Int) (nm:J2) (s:Int) (m:I7) (l:G7):(Tm.mk k nm s m l).name=nm:=rfl
theorem Tm.sort_mk (k:Int) (nm:J2) (s:Int) (m:I7) (l:G7):(Tm.mk k nm s m l).sort=s:=rfl
theorem fM (t:Tm) (hb:t.size<=1048576):∃t',pc Q NA [B9 t,sl (true,false) 1 [],B9 t]=some (.tup [B9 t',.int .i64 0])/\E3 t'=E3 t:=by
 obtain⟨t',hC,hE⟩:=Xr _ t (A0W _) (by omega);refine⟨t',?_,hE⟩;refine FX Ni λfr hl h0 h1 h2=>?_;simp[Ni]at hl h0 h1 h2;simp[Ni,hl,h0,h1,h2,hC];refine M1 ?_;simp[Pa,hl,hC]
theorem rn (m:I7) (l:G7) (k:Nat) (B8:l.length<=1048576) (Z:G7) (hZ:Z.length=l.length) (J4:∀t∈l,t.size<=1048576) (IH:∀t∈l,∃(K:G7) (m':I7),pc Q JA [sl t.cm 4 (A4 t.kids)]=some (sl m' 4 (A4 K))/\H4 K=H4 t.kids) (fr:Fr) (h:AH) (hfam:h.fams[k]?=some ⟨A4 Z,4,true⟩) (hl:fr.length=42) (h3:A0 fr 3=.sl k l.length 0 l.length) (h9:A0 fr 9=sl m 4 (A4 l)) (h10:A0 fr 10=.int .i64 l.length) (h11:A0 fr 11=.int .i64 0) :
  B7 (lp (A2 (K8 Q) (D6 JA) HD) (fr,h)) λe C4 h'=>Kp HD.wr fr C4/\e=.exit 0/\∃(B:List (List AV)) (done:List Tm),h'=⟨B,h.fams.set k ⟨A4 done,4,true⟩⟩/\H4 done=H4 l/\done.length=l.length:=by
 refine B4 rfl fr (λn fr h'=>∃(i:Nat),i+n=l.length/\A0 fr 11=.int .i64 (i:Nat)/\(∃(B:List (List AV)) (done:List Tm) (X:List AV),X=(done++Z.drop i).map B9/\h'=⟨B,h.fams.set k ⟨X,4,true⟩⟩/\H4 done=H4 (l.take i)/\done.length=i)) ?_ l.length h ⟨0,by omega,h11,⟨h.boxes,[],A4 Z,by simp[D0],by rw[DH hfam],by simp[H4],rfl⟩⟩;rintro J Φ hJ hΦ n D5 H1 K ⟨i,hi,k11,hr⟩;have A6:=K.1.trans hl;have k3:=A8 K 3 h3;have k9:=A8 K 9 h9;have k10:=A8 K 10 h10;clear K;by_cases A7:i<l.length
 .have L4:=C6 i (by omega);obtain⟨B,done,X,hX,rfl,hd,Di⟩:=hr;have hltZ:i<Z.length:=by omega
  obtain⟨t1,hR,ht1⟩:=fM l[i] (J4 _ (A0Q A7));obtain⟨K,mk,hO,hK⟩:=IH l[i] (A0Q A7);have hx:=H9 A7;obtain⟨q1,q2',q3⟩:=SW B9 done Z hltZ Di;have q4:=λt'=>SX B9 done Z hltZ Di t';rw[←hX]at q1 q3 q4;rw[hZ]at q3;have q2:X[i]'q1=B9 Z[i]:=by subst hX;exact q2'
  clear q2';have e2:∀t',E3 t'=E3 l[i]->H4 (done++[t'])=H4 (l.take (i+1)):=λt' ht=>by
   rw[A0X A7,E4,A0a,←E4,hd,E4,E4,A0a,A0S,A0T,A0S,A0T,ht]
  have Do:=H3 hfam;clear hd;generalize l[i]=s at *
  obtain⟨d1,d2,d3,d4⟩:=MP ht1;have hag:AV.agg [.int .i64 t1.kind,.str t1.name,.int .i64 t1.sort,sl mk 4 (A4 K)]=B9 (.mk t1.kind t1.name t1.sort mk K):=rfl;have her:E3 (.mk t1.kind t1.name t1.sort mk K)=E3 s:=by
   obtain⟨k0,nm0,s0,m0,l0⟩:=s;simp only[Tm.kind,Tm.name,Tm.sort,Tm.kids]at d1 d2 d3 hK;simp only[E3,hK,Tm.mk.injEq];exact⟨d1,d2,d3,trivial,trivial⟩
  by_cases hk0:s.kids=[]
  .have hag2:AV.agg [.int .i64 t1.kind,.str t1.name,.int .i64 t1.sort,sl (true,false) 1 []]=B9 (.mk t1.kind t1.name t1.sort (true,false) []):=rfl;have her2:E3 (.mk t1.kind t1.name t1.sort (true,false) [])=E3 s:=by
    rw[←her];have:K=[]:=by
     rw[hk0]at hK;cases K with
     |nil=>rfl
     |cons a K=>simp[H4]at hK
    simp only[E3,this]
   have hkn:s.kids.length=0:=by rw[hk0];rfl
   have q5:=q4 (.mk t1.kind t1.name t1.sort (true,false) []);have e3:=e2 _ her2;generalize hY:(done++[Tm.mk t1.kind t1.name t1.sort (true,false) []]++Z.drop (i+1)).map B9=Y at *
   clear hX;simp[HD,A6,k3,k9,k10,k11,A7,L4,hR,hO,hx,q2,q3,Do,hag,hkn,hag2,q5,Tm.kind_mk,Tm.name_mk,Tm.sort_mk];exact E9 hJ ⟨i+1,by omega,by simp[A6],_,_,Y,hY.symm,rfl,e3,by simp[Di]⟩
  .have hkn:s.kids.length≠0:=by
    intro h;exact hk0 (List.eq_nil_of_length_eq_zero h)
   have q5:=q4 (.mk t1.kind t1.name t1.sort mk K);have e3:=e2 _ her;generalize hY:(done++[Tm.mk t1.kind t1.name t1.sort mk K]++Z.drop (i+1)).map B9=Y at *
   simp[HD,A6,k3,k9,k10,k11,A7,L4,hR,hO,hx,q2,q3,Do,hag,hkn,q5];exact E9 hJ ⟨i+1,by omega,by simp[A6],_,_,Y,hY.symm,rfl,e3,by simp[Di]⟩
 .obtain⟨B,done,X,hX,rfl,hd,Di⟩:=hr;have e:i=l.length:=by omega
  subst e;rw[A0m]at hd;rw[List.drop_of_length_le (by omega),A0n,←D0]at hX;simp[HD,A6,k10,k11];exact hΦ _ _ _ ⟨rfl,B,done,by rw[hX],hd,Di⟩
theorem vn:∀(n:Nat) (l:G7),Tm.sizes l<=n->Tm.sizes l<=1048576->∀m:Bool×Bool,∃(l':G7) (m':I7),pc Q JA [sl m 4 (A4 l)]=some (sl m' 4 (A4 l'))/\H4 l'=H4 l:=by
 intro n
 induction n with
 |zero =>
  intro l h _ m;have hl0:l=[]:=by
   cases l with
   |nil=>rfl
   |cons a l =>
    have:=a.size_pos;simp only[Tm.sizes]at h;omega
  subst hl0
  suffices h:∃v,pc Q JA [sl m 4 (A4 [])]=some v/\∃q:Bool×Bool,v=sl q 4 (A4 []) by
   obtain⟨v,h1,q,rfl⟩:=h;exact⟨[],q,h1,rfl⟩
  have hr:H2=140737488355328:=rfl;have hm:maxLen=9223372036854775807:=rfl;have hn:A4 []=[]:=rfl;refine GU Ml λΨ hΨ fr hl h0=>?_;simp[Ml]at hl h0;simp[Ml,hl,h0,hr,hm,hn];refine M1 ?_;simp[HD,hl];exact hΨ _ ⟨(false,true),rfl⟩
 |succ n ih =>
  intro l hn hb m;have hll:=Tm.length_le l;have hlv:(A4 l).length=l.length:=by rw[D0,A0Z]
  have hr:(l.length:Int)*56<=H2/\(l.length:Int)<=maxLen:=by
   have e1:H2=140737488355328:=rfl;have e2:maxLen=9223372036854775807:=rfl;omega
  have hz:A0g l.length (AV.agg [.int .i64 0,.str (bs []),.int .i64 0,.vs true 0 []])=A4 (A0g l.length gr):=by
   rw[uB,D0,List.map_replicate]
  suffices h:∃v,pc Q JA [sl m 4 (A4 l)]=some v/\∃q:List Tm×(Bool×Bool),v=sl q.2 4 (A4 q.1)/\H4 q.1=H4 l by
   obtain⟨v,h1,q,rfl,h2⟩:=h;exact⟨q.1,q.2,h1,h2⟩
  have GW:=rn m l 0 (by omega) (A0g l.length gr) (by simp) (λt ht=>by have:=Tm.size_le ht;omega) (λt ht=>by
   have h1:=Tm.size_le ht;have h2:=t.kids_size;obtain⟨K,m',a,b⟩:=ih t.kids (by omega) (by omega) t.cm;exact⟨K,m',a,b⟩)
  clear ih;refine GU Ml λΨ hΨ fr hl h0=>?_;simp[Ml]at hl h0;simp[Ml,hl,h0,hr,hz];refine B7.mono (GW _ _ ?_ ?_ ?_ ?_ ?_ ?_) ?_<;>first|(simp[hl];done)|skip
  rintro e D5 h1 ⟨K,rfl,B,done,rfl,hd,Di⟩;have J0:D5.length=42:=K.1.trans (by simp[hl]);have OE:A0 D5 3=.sl 0 l.length 0 l.length:=A8 K 3 (by simp[hl]);clear K;have hf:∀B',Ej ⟨B',[⟨A4 done,4,true⟩]⟩ true (.sl 0 l.length 0 l.length)=some (sl (false,true) 4 (A4 done)):=λB'=>JQ (b:=true) rfl (by rw[D0,A0Z,Di]);simp[J0,OE,hf];exact hΨ _ ⟨(done,(false,true)),rfl,hd⟩
theorem ew (m:I7) (l:G7) (B8:l.length<=1048576) (hv:∀t∈l,OkT t) (fr:Fr) (h:AH) (hl:fr.length=26) (h14:A0 fr 14=sl m 4 (A4 l)) (h15:A0 fr 15=.int .i64 l.length) (h16:A0 fr 16=.int .i64 0) :
  B7 (lp (A2 (K8 Q) (D6 Lh) IV) (fr,h)) λe C4 h'=>Kp IV.wr fr C4/\e=.exit 0:=by
 refine B4 rfl fr (λn fr h'=>∃(i:Nat),i+n=l.length/\A0 fr 16=.int .i64 (i:Nat)/\True) ?_ l.length h ⟨0,by omega,h16,trivial⟩;rintro J Φ hJ hΦ n D5 H1 K ⟨i,hi,k16,hr⟩;have A6:=K.1.trans hl;have k14:=A8 K 14 h14;have k15:=A8 K 15 h15;clear K;by_cases A7:i<l.length
 .have L4:=C6 i (by omega);have hx:=H9 A7;have ho:=hv l[i] (A0Q A7);have hV:=HS l[i] (by have:=ho.size;omega);rw[(u7 ho.valid).1]at hV;obtain⟨bx,F⟩:=H1;generalize l[i]=s at *
  simp[IV,A6,k14,k15,k16,A7,L4,hx,hV];exact E9 hJ ⟨i+1,by omega,by simp[A6],trivial⟩
 .simp[IV,A6,k15,k16,A7];exact hΦ _ _ _ rfl
theorem aN (u:Tm) (hu:OkT u):pc Q Lh [sl (true,false) 1 [],sl (true,true) 4 [B9 u]]=some (.int .i64 0):=by
 have hfl:(([((true,false),[]),((true,true),[u])]:List ML).flatMap λq=>q.2)=[u]:=by simp
 obtain⟨mc,hC⟩:=aB (true,true) [((true,false),[]),((true,true),[u])] (by simp) (by unfold Ns;rw[hfl];simp);rw[hfl]at hC;simp only[A0S,A0T,jP,show A4 []=[] from rfl,show A4 [u]=[B9 u] from rfl,l9 (true,false) rfl 4 1]at hC;refine O9 SF λfr hl h0 h1=>?_;simp[SF]at hl h0 h1;simp[SF,hl,h0,h1,hC,A5];refine B7.mono (ew mc [u] (by simp) (λt ht=>by rw[A0V.1 ht];exact hu) _ _ ?_ ?_ ?_ ?_) ?_<;>first|(simp[hl,show A4 [u]=[B9 u] from rfl];done)|skip
 rintro e D5 Cv ⟨K,rfl⟩;have A6:D5.length=26:=K.1.trans (by simp[hl]);simp[A6]
theorem Rf (u:Tm) (hf:u.kind=3->u.name∈AQ):pc Q ED [B9 u]=some (sl (true,true) 4 [B9 u]):=by
 by_cases hk:u.kind=3
 .obtain⟨-,-,-,-,-,-,n7,-,-,-,-,n12,-⟩:=LY (hf hk);have hag:AV.agg [.int .i64 3,.str u.name,.int .i64 u.sort,sl u.cm 4 (A4 u.kids)]=B9 u:=by rw[←hk];exact Yb u
  refine H5 Ei λfr hl h0=>?_;simp[Ei]at hl h0;simp[Ei,hl,h0,hk,hag,n7,n12,A5]
 .refine H5 Ei λfr hl h0=>?_;simp[Ei]at hl h0;simp[Ei,hl,h0,hk,A5]
theorem sK (u:Tm) (hu:OkT u):∃(u':Tm) (m':I7),pc Q OJ [B9 u]=some (.tup [sl m' 4 [B9 u'],.int .i64 0])/\E3 u'=E3 u:=by
 have hR:=aN u hu;have hS:=Rf u hu.nm;obtain⟨l',m',hO,he⟩:=vn _ [u] (A0W _) (by have:=hu.size;simp only[Tm.sizes];omega) (true,true);obtain⟨u',rfl⟩:∃u',l'=[u']:=by
  have hl:l'.length=1:=by
   have:=congrArg List.length he;simpa[E4]using this
  match l',hl with
  | [a],_=>exact⟨a,rfl⟩
 have he':E3 u'=E3 u:=by simpa[H4]using he
 rw[show A4 [u]=[B9 u] from rfl,show A4 [u']=[B9 u'] from rfl]at hO;refine⟨u',m',?_,he'⟩;refine H5 SE λfr hl h0=>?_;simp[SE]at hl h0;simp[SE,hl,h0,hR,hS,hO,A5]
@[simp] theorem mp_isTup (b:Nat):(AV.mp b).isTup=false:=rfl
@[simp] theorem mp_cells (b:Nat):(AV.mp b).cells=[.mp b]:=rfl
theorem tJ (k:Nat) (h:AH) (u:Tm) (hu:u.size<=1048576) (hk:h.fams[k]?=some ⟨[B9 u],4,true⟩):rc Q D9 [.sl k 1 0 1,.fn C3 []] h=some (C5,h):=by
 obtain⟨l',hp,-,hS⟩:=UU k h [u] hk (by simp) (by simp;omega) (by simp);have hl':l'=[u]:=A0h.1 hp;subst hl';rw[show A4 [u]=[B9 u] from rfl,DH hk]at hS;exact hS
theorem gF (g:FuncId) (k:Nat) (h:AH) (u:Tm) (hg:VZ g [u]) (hk:h.fams[k]?=some ⟨[B9 u],4,true⟩):rc Q D4 [.sl k 1 0 1,.fn g []] h=some (.sl k 1 0 1,h):=by
 obtain⟨Z,hZ,hZR,hK⟩:=NJ g [u] hg k h hk (by simp);have hZ1:Z=[u]:=by
  have:(S5 [u])=[u]:=rfl;rw[this]at hZR;rw[←hZR,A0f (by simp[hZ])]
 subst hZ1;rw[show A4 [u]=[B9 u] from rfl,DH hk]at hK;exact hK
theorem pT (a b:Tm) (h:a.size<=1099511627776) (h':b.size<=1099511627776):pc Q DG [B9 a,B9 b]=some (.bool (decide (H6 a b=0))):=by
 have hC:=j7 _ a b (A0W _) h h';refine O9 KE λfr hl h0 h1=>?_;simp[KE]at hl h0 h1;simp[KE,hl,h0,h1,hC]
theorem gD (B:List (List AV)) (F:List Fam):rc Q I2 [sl (true,false) 1 []] ⟨B,F⟩=some (.vs true 0 [],⟨B,F⟩):=by
 suffices hq:∃v h',rc Q I2 [sl (true,false) 1 []] ⟨B,F⟩=some (v,h')/\(v=.vs true 0 []/\h'=⟨B,F⟩) by
  obtain⟨v,h',h1,rfl,rfl⟩:=hq;exact h1
 refine gC R2 λfr hl h0=>?_;simp[R2]at hl h0;simp[R2,hl,h0,Td]
theorem vw (u:Tm) (hu:OkT u) (B:List (List AV)) (F:List Fam) :
  ∃(k:Nat) (h':AH) (a b:AV) (B':List (List AV)),rc Q r7 [sl (true,false) 1 [],B9 u] ⟨B,F⟩=some (.ptr (B.length+3) 0,h') /\
   h'.boxes=B++[(B9 u).cells]++[[.mbox [] []],[.mbox [] []],[.sl k 1 0 1,.int .i64 0,.mp (B.length+1),.mp (B.length+2),.vs true 0 []]]++B'/\h'.fams[k]?=some ⟨[B9 u],4,true⟩:=by
 have hs:=hu.size;have hS:=Rf u hu.nm;have hC:=gD;have hr:H2=140737488355328:=rfl;have hm:maxLen=9223372036854775807:=rfl;have hmu:Yu r7=true:=rfl;have h01:IntKind.i64.wrap 1=1:=by decide
 have hcm:VZ DG [u]:=⟨rfl,λa ha b hb=>by
  rw[A0V]at ha hb;exact pT a b (by rw[ha];omega) (by rw[hb];omega)⟩
 have hso:∀B',rc Q D9 [.sl (F.length+1) 1 0 1,.fn C3 []] ⟨B',F++[⟨[B9 u],4,true⟩,⟨[B9 u],4,true⟩]⟩=some (C5,⟨B',F++[⟨[B9 u],4,true⟩,⟨[B9 u],4,true⟩]⟩):=λB'=>tJ _ _ u (by omega) (by simp);have hco:∀B',rc Q D4 [.sl (F.length+1) 1 0 1,.fn DG []] ⟨B',F++[⟨[B9 u],4,true⟩,⟨[B9 u],4,true⟩]⟩=some (.sl (F.length+1) 1 0 1,⟨B',F++[⟨[B9 u],4,true⟩,⟨[B9 u],4,true⟩]⟩):=λB'=>gF _ _ _ u hcm (by simp)
 suffices hq:∃v h',rc Q r7 [sl (true,false) 1 [],B9 u] ⟨B,F⟩=some (v,h')/\∃(k:Nat) (B':List (List AV)),v=.ptr (B.length+3) 0 /\
   h'.boxes=B++[(B9 u).cells]++[[.mbox [] []],[.mbox [] []],[.sl k 1 0 1,.int .i64 0,.mp (B.length+1),.mp (B.length+2),.vs true 0 []]]++B'/\h'.fams[k]?=some ⟨[B9 u],4,true⟩ by
  obtain⟨v,h',h1,k,B',rfl,h2,h3⟩:=hq;exact⟨k,h',.nilp,.nilp,B',h1,h2,h3⟩
 refine Hl MN λfr hl h0 h1=>?_;simp[MN]at hl h0 h1;simp[MN,hl,h0,h1,D2,E6,hC,A5,hr,hm,hmu];refine M1 ?_;simp[Nm,hl,hS,hr,hm,hmu,h01];refine M1 ?_;simp[hl,h0,hso,hco];refine M1 ?_;simp[OS,hl]
theorem pW:pc Q HO [sl (false,true) 1 [.int .u64 1],.int .i64 1]=some (.int .i64 0):=by
 have hH:pc Q Gk [sl (false,true) 1 [.int .u64 1],.int .i64 0]=some (.bool true):=by
  have e1:G5 .quo (.int .i64 0) (.int .i64 64)=some (.int .i64 0):=by rfl
  have e2:G5 .rem (.int .i64 0) (.int .i64 64)=some (.int .i64 0):=by rfl
  have e3:G5 .shr (.int .u64 1) (.int .i64 0)=some (.int .u64 1):=by rfl
  have e4:G5 .and (.int .u64 1) (.int .u64 1)=some (.int .u64 1):=by rfl
  refine O9 Nl λfr hl h0 h1=>?_;simp[Nl]at hl h0 h1;simp[Nl,hl,h0,h1,e1,e2,e3,e4]
 refine O9 LC λfr hl h0 h1=>?_;simp[LC]at hl h0 h1;simp[LC,h1];refine M1 ?_;simp[Nk,hl,h0,hH]
theorem tH (k:Nat) (h:AH) (hk:h.fams[k]?=some ⟨[.int .u64 0],1,true⟩):rc Q Ay [.sl k 1 0 1,.int .i64 0] h=some (C5,⟨h.boxes,h.fams.set k ⟨[.int .u64 1],1,true⟩⟩):=by
 have Do:=H3 hk
 suffices hq:∃v h',rc Q Ay [.sl k 1 0 1,.int .i64 0] h=some (v,h')/\(v=C5/\h'=⟨h.boxes,h.fams.set k ⟨[.int .u64 1],1,true⟩⟩) by
  obtain⟨v,h',h1,rfl,rfl⟩:=hq;exact h1
 have e1:G5 .quo (.int .i64 0) (.int .i64 64)=some (.int .i64 0):=by rfl
 have e2:G5 .rem (.int .i64 0) (.int .i64 64)=some (.int .i64 0):=by rfl
 have e3:G5 .shl (.int .u64 1) (.int .i64 0)=some (.int .u64 1):=by rfl
 have e4:G5 .xor (.int .u64 0) (.int .u64 1)=some (.int .u64 1):=by rfl
 refine Hl MM λfr hl h0 h1=>?_;simp[MM]at hl h0 h1;simp[MM,hl,h0,h1,e1,e2,e3,e4,hk]
theorem yU (u:Tm) (hu:OkT u) (a k:Nat) (B:List (List AV)) (F:List Fam) (c1 c2 c3 c4:AV) (ha:B[a]?=some [.sl k 1 0 1,c1,c2,c3,c4]) (hk:F[k]?=some ⟨[B9 u],4,true⟩) :
  ∃B',rc Q x5 [.ptr a 0,B9 u] ⟨B,F⟩=some (.sl F.length 1 0 1,⟨B++B',F++[⟨[.int .u64 1],1,true⟩]⟩):=by
 have hs:=hu.size;have hS:=Rf u hu.nm;have hr:H2=140737488355328:=rfl;have hm:maxLen=9223372036854775807:=rfl;have h01:IntKind.i64.wrap 1=1:=by decide
 have e1:G5 .quo (.int .i64 1) (.int .i64 64)=some (.int .i64 0):=by rfl
 have Do:=H3 hk;have hal:=H3 ha;have hBST:=lR (false,true) u (by omega);have hcol:∀(B2:List (List AV)) (F2:List Fam),B2[a]?=some [.sl k 1 0 1,c1,c2,c3,c4]->F2[k]?=some ⟨[B9 u],4,true⟩->rc Q p9 [.ptr a 0,B9 u] ⟨B2,F2⟩=some (.int .i64 0,⟨B2++[(B9 u).cells],F2⟩):=by
  intro B2 F2 hB2 hF2
  suffices hq:∃v h',rc Q p9 [.ptr a 0,B9 u] ⟨B2,F2⟩=some (v,h')/\(v=.int .i64 0/\h'=⟨B2++[(B9 u).cells],F2⟩) by
   obtain⟨v,h',h1,rfl,rfl⟩:=hq;exact h1
  have hB3:(B2++[(B9 u).cells])[a]?=some [.sl k 1 0 1,c1,c2,c3,c4]:=by rw[A0R (H3 hB2)];exact hB2
  have hz:∀B',Ej ⟨B',F2⟩ true (.sl k 1 0 1)=some (sl (false,true) 4 [B9 u]):=λB'=>JQ hF2 rfl;simp only[I1]at hB3;refine Hl Hs λfr hl h0 h1=>?_;simp[Hs]at hl h0 h1;simp[Hs,hl,h0,h1,hB3,hz,hBST]
 suffices hq:∃v h',rc Q x5 [.ptr a 0,B9 u] ⟨B,F⟩=some (v,h')/\∃B',v=.sl F.length 1 0 1/\h'=⟨B++B',F++[⟨[.int .u64 1],1,true⟩]⟩ by
  obtain⟨v,h',h1,B',rfl,rfl⟩:=hq;exact⟨B',h1⟩
 have ha1:(B++[(B9 u).cells])[a]?=some [.sl k 1 0 1,c1,c2,c3,c4]:=by rw[A0R hal];exact ha
 have ha2:(B++[(B9 u).cells,(B9 u).cells])[a]?=some [.sl k 1 0 1,c1,c2,c3,c4]:=by rw[A0R hal];exact ha
 have hk1:(F++[⟨[.int .u64 0],1,true⟩])[k]?=some ⟨[B9 u],4,true⟩:=by rw[A0R Do];exact hk
 have hc:=hcol _ _ ha2 hk1;have hf:=tH F.length ⟨B++[(B9 u).cells,(B9 u).cells,(B9 u).cells],F++[⟨[.int .u64 0],1,true⟩]⟩ (by simp);simp only[I1,A0j,A0l,A0d]at ha1 hc hf;refine Hl LD λfr hl h0 h1=>?_;simp[LD]at hl h0 h1;simp[LD,hl,h0,h1,ha1,e1,h01,hr,hm,hS];refine M1 ?_;simp[Nn,hl,h0,hc,hf,h01];refine M1 ?_;simp[hl]
theorem jy (u:Tm) (a k k2 x:Nat) (B:List (List AV)) (F:List Fam) (c3 c4:AV) (ha:B[a]?=some [.sl k 1 0 1,.int .i64 0,.mp x,c3,c4]) (hx:B[x]?=some [.mbox [] []]) (hk:F[k]?=some ⟨[B9 u],4,true⟩) :
  rc Q V6 [.ptr a 0,.sl k2 1 0 1] ⟨B,F⟩=some (.tup [.sl k2 1 0 1,.sl F.length 1 0 1],⟨B,F++[⟨[.int .u64 0],1,true⟩]⟩):=by
 have hr:H2=140737488355328:=rfl;have hm:maxLen=9223372036854775807:=rfl;have h01:IntKind.i64.wrap 1=1:=by decide
 have e1:G5 .quo (.int .i64 0) (.int .i64 64)=some (.int .i64 0):=by rfl
 suffices hq:∃v h',rc Q V6 [.ptr a 0,.sl k2 1 0 1] ⟨B,F⟩=some (v,h')/\(v=.tup [.sl k2 1 0 1,.sl F.length 1 0 1]/\h'=⟨B,F++[⟨[.int .u64 0],1,true⟩]⟩) by
  obtain⟨v,h',h1,rfl,rfl⟩:=hq;exact h1
 have hml:∀F' z,Gb false true z ⟨B,F'⟩ (.mp x) (.int .i64 0)=some (.tup [z,.bool false],⟨B,F'⟩):=by
  intro F' z;have e:GL ⟨B,F'⟩ (.mp x)=some ([],[]):=by simp only[GL,hx]
  simp only[Gb,e];rfl
 refine Hl Ht λfr hl h0 h1=>?_;simp[Ht]at hl h0 h1;simp[Ht,hl,h0,ha,e1,h01,hr,hm];refine M1 ?_;simp[KR,hl,h0,ha,hml,h01];refine M1 ?_;simp[hl,h1]
theorem vU (u:Tm) (hu:OkT u):∃v,pc Q Tb [sl (true,false) 1 [],B9 u]=some (.tup [v,.int .i64 4]):=by
 obtain⟨k,⟨B1,F1⟩,-,-,B',hE,hB,hk⟩:=vw u hu [(B9 u).cells] [];simp only at hB hk;subst hB;have hR:=aN u hu;obtain⟨B2,hW⟩:=yU u hu 4 k ((B9 u).cells::(B9 u).cells::[AV.mbox [] []]::[AV.mbox [] []]::[AV.sl k 1 0 1,.int .i64 0,.mp 2,.mp 3,.vs true 0 []]::B') F1 _ _ _ _ rfl hk;have hD:=jy u 4 k F1.length 2 (((B9 u).cells::(B9 u).cells::[AV.mbox [] []]::[AV.mbox [] []]::[AV.sl k 1 0 1,.int .i64 0,.mp 2,.mp 3,.vs true 0 []]::B')++B2) (F1++[⟨[.int .u64 1],1,true⟩]) _ _ rfl rfl (by rw[A0R (H3 hk)];exact hk);have hF:=pW;have hz:∀B',Ej ⟨B',F1++[⟨[.int .u64 1],1,true⟩]++[⟨[.int .u64 0],1,true⟩]⟩ true (.sl F1.length 1 0 1)=some (sl (false,true) 1 [.int .u64 1]):=λB'=>JQ (b:=true) (by simp) rfl;simp only[A0Y,Nat.reduceAdd,A0l,A0d,A0j,I1]at hE hW hD hz;refine⟨sl (true,false) 1 [],?_⟩;refine O9 Tn λfr hl h0 h1=>?_;simp[Tn]at hl h0 h1;simp[Tn,hl,h0,h1,hR,A5,hE,hW,hD,hz,hF]
theorem bq (m:I7) (S:G7) (B8:S.length<=1048576) (hs:∀x∈S,OkT x) (p:AV) (C:G3) (fr:Fr) (h:AH) (h5:A0 fr 5=p) (hB:∃B,h.boxes=C::B) (hl:fr.length=69) (h22:A0 fr 22=sl m 4 (A4 S)) (h23:A0 fr 23=.int .i64 S.length) (h24:A0 fr 24=.int .i64 0) :
  B7 (lp (A2 (K8 Q) (D6 f9) X1) (fr,h)) λe C4 h'=>Kp X1.wr fr C4/\(e=.exit 0/\A0 C4 5=p/\∃B,h'.boxes=C::B):=by
 refine B4 rfl fr (λn fr h'=>∃(i:Nat),i+n=S.length/\A0 fr 24=.int .i64 (i:Nat)/\(A0 fr 5=p/\∃B,h'.boxes=C::B)) ?_ S.length h ⟨0,by omega,h24,h5,hB⟩;rintro J Φ hJ hΦ n D5 H1 K ⟨i,hi,k24,hr⟩;have A6:=K.1.trans hl;have k22:=A8 K 22 h22;have k23:=A8 K 23 h23;clear K;by_cases A7:i<S.length
 .have L4:=C6 i (by omega);obtain⟨hr,B,hB⟩:=hr;have hx:=H9 A7;have hX:=Rc S[i] (bs [120,111,114]);rw[XO (hs _ (A0Q A7)).nm (by decide)]at hX;obtain⟨bx,F⟩:=H1;simp only at hB;subst hB;generalize S[i]=s at *
  simp[X1,A6,k22,k23,k24,A7,L4,hx,hX,A5];exact E9 hJ ⟨i+1,by omega,by simp[A6],by simp[hr],_,rfl⟩
 .obtain⟨hr,hB⟩:=hr;simp[X1,A6,k23,k24,A7];exact hΦ _ _ _ ⟨rfl,by simp[hr],hB⟩
theorem bp (m mr:I7) (S R:G7) (B8:S.length<=1048576) (hs:∀x∈S,OkT x) (hR:X9 R) (hRl:R.length<=1048576) (hRs:∀x∈R,x.size<=1048576) (hn:∀x∈S,J8 R x=false) (C:G3) (fr:Fr) (h:AH) (h12:A0 fr 12=.vs true 0 []) (hB:∃B,h.boxes=C::B) (hl:fr.length=69) (h11:A0 fr 11=sl mr 4 (A4 R)) (h42:A0 fr 42=sl m 4 (A4 S)) (h43:A0 fr 43=.int .i64 S.length) (h44:A0 fr 44=.int .i64 0) :
  B7 (lp (A2 (K8 Q) (D6 f9) X0) (fr,h)) λe C4 h'=>Kp X0.wr fr C4/\(e=.exit 2/\A0 C4 12=.vs true 0 []/\∃B,h'.boxes=C::B):=by
 refine B4 rfl fr (λn fr h'=>∃(i:Nat),i+n=S.length/\A0 fr 44=.int .i64 (i:Nat)/\(A0 fr 12=.vs true 0 []/\∃B,h'.boxes=C::B)) ?_ S.length h ⟨0,by omega,h44,h12,hB⟩;rintro J Φ hJ hΦ n D5 H1 K ⟨i,hi,k44,hr⟩;have A6:=K.1.trans hl;have k11:=A8 K 11 h11;have k42:=A8 K 42 h42;have k43:=A8 K 43 h43;clear K;by_cases A7:i<S.length
 .have L4:=C6 i (by omega);obtain⟨hr,B,hB⟩:=hr;have hx:=H9 A7;have ho:=hs _ (A0Q A7);have hX:=Rc S[i] (bs [120,111,114]);rw[XO ho.nm (by decide)]at hX;have hH:=Kg mr R S[i] hR (by omega) (λx hx=>by have:=hRs x hx;omega) (by have:=ho.size;omega);rw[hn _ (A0Q A7)]at hH;obtain⟨bx,F⟩:=H1;simp only at hB;subst hB;generalize S[i]=s at *
  simp[X0,A6,k11,k42,k43,k44,A7,L4,hx,hX,hH,A5];exact E9 hJ ⟨i+1,by omega,by simp[A6],by simp[hr],_,rfl⟩
 .obtain⟨hr,hB⟩:=hr;simp[X0,A6,k43,k44,A7];exact hΦ _ _ _ ⟨rfl,by simp[hr],hB⟩
theorem pH (m:I7) (S:G7) (B8:S.length<=1048576) (hs:∀x∈S,OkT x) (u:Tm) (hu:OkT u) (hn:J8 S u=false) :
  pc Q f9 [sl m 4 (A4 S),B9 u]=some (.bool false):=by
 obtain⟨u',m',hP,he⟩:=sK u hu;obtain⟨R,mr,hO,Z8,hsub,hRl⟩:=YD m' [u'] (λt ht=>by rw[A0V.1 ht];have:=(hu.er he).size;omega) (by simp);rw[show A4 [u']=[B9 u'] from rfl]at hO;obtain⟨v,hSp⟩:=vU u hu;have hnR:∀x∈S,J8 R x=false:=by
  intro x hx;rw[mF Z8];have h1:=Zj hn hx;have:JK u' x=JK u x:=by
   unfold JK;rw[A0U,decide_eq_true_iff,decide_eq_true_iff,V0,V0,he]
  simp[J8,this,h1]
 refine O9 FH λfr hl h0 h1=>?_;simp[FH]at hl h0 h1;simp[FH,hl,h0,h1,hP];refine B7.mono (bq m S B8 hs (sl m' 4 [B9 u']) (B9 u).cells _ _ ?_ ?_ ?_ ?_ ?_ ?_) ?_<;>first|(simp[hl];done)|skip
 rintro e D5 ⟨bx,F⟩ ⟨K,rfl,k5,B,hB⟩;simp only at hB;subst hB;have J0:D5.length=69:=K.1.trans (by simp[hl]);have Ms:A0 D5 0=sl m 4 (A4 S):=A8 K 0 (by simp[h0]);have OE:A0 D5 3=.ptr 0 0:=A8 K 3 (by simp[hl]);clear K;simp[J0,Ms,k5,hO];refine B7.mono (bp m mr S R B8 hs Z8.1 (by simp only[A0Y]at hRl;omega) (λx hx=>by rw[A0V.1 (hsub x hx)];have:=(hu.er he).size;omega) hnR (B9 u).cells _ _ ?_ ?_ ?_ ?_ ?_ ?_ ?_) ?_<;>first|(simp[J0];done)|skip
 rintro e R1 ⟨bx,F2⟩ ⟨K,rfl,k12,B2,hB⟩;simp only at hB;subst hB;have CK:R1.length=69:=K.1.trans (by simp[J0]);have k3:A0 R1 3=.ptr 0 0:=A8 K 3 (by simp[OE]);clear K;simp[CK,k12,k3,hSp]
def Dj (S:List Tm) (u:Tm):Bool:=OF u||Fm S u||Md S u
theorem vj (m:I7) (S:G7) (hS:X9 S) (B8:S.length<=1048576) (hs:∀x∈S,OkT x) (u:Tm) (hu:OkT u) (hn:J8 S u=false) :
  pc Q Gc [sl m 4 (A4 S),B9 u]=some (.bool (Dj S u)):=by
 have hs2:∀x∈S,x.size<=1099511627776:=λx hx=>by have:=(hs x hx).size;omega
 have husz:=hu.size;have q0:=Kg m S u hS (by omega) hs2 (by omega);rw[hn]at q0;have q1:=oD u hu.nm hu.ow;have q2:=fR m S hS B8 hs2 u (by omega);have q3:=ol m S hS B8 hs u (by omega);have q4:=pH m S B8 hs u hu hn;have q5:=oq m S B8 hs u hu hn;have q6:=Yz m S hS B8 hs u hu hn;unfold Dj;generalize OF u=c1 at *
 generalize Fm S u=c2 at *
 generalize Md S u=c3 at *
 cases c1 with
 |true =>
  refine O9 I9 λfr hl h0 h1=>?_;simp[I9]at hl h0 h1;simp[I9,hl,h0,h1,q0,q1]
 |false =>
  cases c2 with
  |true =>
   refine O9 I9 λfr hl h0 h1=>?_;simp[I9]at hl h0 h1;simp[I9,hl,h0,h1,q0,q1,q2]
  |false =>
   cases c3 with
   |true =>
    refine O9 I9 λfr hl h0 h1=>?_;simp[I9]at hl h0 h1;simp[I9,hl,h0,h1,q0,q1,q2,q3]
   |false =>
    refine O9 I9 λfr hl h0 h1=>?_;simp[I9]at hl h0 h1;simp[I9,hl,h0,h1,q0,q1,q2,q3,q4,q5,q6]
end Go.Abs.Q
