/- A part of the proof. -/
import Derived.Test.YtohjdamplbhdpaaGreatDoorSG23
set_option linter.all false
open List renaming getElem_mem->xk,map_cons->xm,map_nil->xn,drop_eq_getElem_cons->xq,drop_eq_nil_of_le->xr,length_map->xw,map_append->xy,any_cons->yA,any_nil->yB
open Bool renaming eq_iff_iff->xl,eq_false_iff->xp,and_eq_true->xu,or_false->xz
open Nat renaming le_refl->xo,lt_or_eq_of_le->xt
namespace Go.Abs.Q
open Go.Proofs
attribute [local simp] D0 D1 fin I1 E7 K8 I3 N6 P4
@[simp] theorem ve (h:AH) (am:Bool) (cs:E6):frz h am (.pv cs)=some (.pv cs):=rfl
@[simp] theorem uZ (h:AH) (am:Bool) (g:FuncId) (caps:E6):frz h am (.fn g caps)=if caps.all AV.flat=true then some (.fn g caps)else none:=rfl
@[simp] theorem tg (h:AH) (g:FuncId) (caps:E6):tame h (.fn g caps)=true:=rfl
@[simp] theorem vK (h:AH) (cs:E6):tame h (.pv cs)=true:=rfl
@[simp] theorem rM (k:IntKind) (i:Int):AV.flat (.int k i)=true:=rfl
@[simp] theorem rN (s:H7):AV.flat (.str s)=true:=rfl
@[simp] theorem uV (cs:E6):AV.flat (.pv cs)=true:=rfl
theorem XU (m:I8) (l:I2) (g:FuncId) (caps:E6) (p:Tm->Bool) (hg:C4 g=false) (C2:l.length<=1048576) (hfl:∀(h:AH) (x:Tm),f8 h true (B8 x::caps)=some (B8 x::caps)) (htm:∀h:AH,caps.all (tame h)=true) (hp:∀x∈l,pc Q g (B8 x::caps)=some (.bool (p x))) (fr:Fr) (h:AH) (hl:fr.length=19) (h0:A0 fr 0=sl m 4 (A3 l)) (h1:A0 fr 1=.fn g caps) (h7:A0 fr 7=.int .i64 l.length) (h8:A0 fr 8=.int .i64 0) :
  C8 (lp (A1 (Q8 Q) (G7 U5) N0) (fr,h)) λe D4 h'=>Kp N0.wr fr D4/\(e=.exit 0/\idx p l=-1\/e=.ret/\A0 D4 4=.int .i64 (idx p l)):=by
 refine C3 rfl fr (λn fr h'=>∃(i:Nat),i+n=l.length/\A0 fr 8=.int .i64 (i:Nat)/\R8 p i (l.drop i)=idx p l) ?_ l.length h ⟨0,by omega,h8,rfl⟩;rintro J Φ hJ hΦ n G9 H1 K ⟨i,hi,k8,hr⟩;have B4:=K.1.trans hl;have k0:=A5 K 0 h0;have k1:=A5 K 1 h1;have k7:=A5 K 7 h7;clear K;by_cases A6:i<l.length
 .have V7:=E5 i (by omega);have hx:=S4 A6;have hP:=hp l[i] (xk A6);have hF:=λh=>hfl h l[i];rw[xq A6]at hr;simp only[R8]at hr;generalize l[i]=s at *
  by_cases hc:p s=true
  .rw[if_pos hc]at hr;rw[hc]at hP;simp[N0,B4,k0,k1,k7,k8,A6,hx,hP,hF,htm,hg];exact hΦ _ _ _ (.inr ⟨rfl,by simp[B4,hr]⟩)
  .have hc':p s=false:=by simpa using hc
   rw[if_neg hc]at hr;rw[hc']at hP;simp[N0,B4,k0,k1,k7,k8,A6,V7,hx,hP,hF,htm,hg];exact O4 hJ ⟨i+1,by omega,by simp[B4],hr⟩
 .rw[xr (by omega)]at hr;simp[N0,B4,k7,k8,A6];exact hΦ _ _ _ (.inl ⟨rfl,hr.symm⟩)
theorem PE (m:I8) (l:I2) (g:FuncId) (caps:E6) (p:Tm->Bool) (hg:C4 g=false) (C2:l.length<=1048576)
  (hfl:∀(h:AH) (x:Tm),f8 h true (B8 x::caps)=some (B8 x::caps)) (htm:∀h:AH,caps.all (tame h)=true) (hca:caps.all AV.flat=true) (hp:∀x∈l,pc Q g (B8 x::caps)=some (.bool (p x))) :
  pc Q W6 [sl m 4 (A3 l),.fn g caps]=some (.bool (l.any p)):=by
 have hI:pc Q U5 [sl m 4 (A3 l),.fn g caps]=some (.int .i64 (idx p l)):=by
  refine Q6 Bw λfr hl h0 h1=>?_;simp[Bw]at hl h0 h1;simp[Bw,hl,h0];refine C8.mono (XU m l g caps p hg C2 hfl htm hp _ _ ?_ ?_ ?_ ?_ ?_) ?_<;>first|(simp[hl,h0,h1];done)|skip
  rintro e G9 Jb ⟨K,⟨rfl,he⟩|⟨rfl,k4⟩⟩
  .have B4:G9.length=19:=K.1.trans (by simp[hl]);simp[B4,he]
  .simp[k4]
 have he:decide (0<=idx p l)=l.any p:=by
  rw[xl,decide_eq_true_iff,idx,CL]
 refine Q6 AZ λfr hl h0 h1=>?_;simp[AZ]at hl h0 h1;simp[AZ,hl,h0,h1,hI,hca];exact he
theorem XT (m:I8) (l:I2) (g:FuncId) (caps:E6) (p:Tm->Bool) (hg:C4 g=false) (C2:l.length<=1048576) (hfl:∀(h:AH) (x:Tm),f8 h true (B8 x::caps)=some (B8 x::caps)) (htm:∀h:AH,caps.all (tame h)=true) (hp:∀x∈l,pc Q g (B8 x::caps)=some (.bool (p x))) (fr:Fr) (h:AH) (hl:fr.length=19) (h0:A0 fr 0=sl m 4 (A3 l)) (h1:A0 fr 1=.fn g caps) (h7:A0 fr 7=.int .i64 l.length) (h8:A0 fr 8=.int .i64 0) :
  C8 (lp (A1 (Q8 Q) (G7 O2) K3) (fr,h)) λe D4 h'=>Kp K3.wr fr D4/\(e=.exit 0/\idx p l=-1\/e=.ret/\A0 D4 4=.int .i64 (idx p l)):=by
 refine C3 rfl fr (λn fr h'=>∃(i:Nat),i+n=l.length/\A0 fr 8=.int .i64 (i:Nat)/\R8 p i (l.drop i)=idx p l) ?_ l.length h ⟨0,by omega,h8,rfl⟩;rintro J Φ hJ hΦ n G9 H1 K ⟨i,hi,k8,hr⟩;have B4:=K.1.trans hl;have k0:=A5 K 0 h0;have k1:=A5 K 1 h1;have k7:=A5 K 7 h7;clear K;by_cases A6:i<l.length
 .have V7:=E5 i (by omega);have hx:=S4 A6;have hP:=hp l[i] (xk A6);have hF:=λh=>hfl h l[i];rw[xq A6]at hr;simp only[R8]at hr;generalize l[i]=s at *
  by_cases hc:p s=true
  .rw[if_pos hc]at hr;rw[hc]at hP;simp[K3,B4,k0,k1,k7,k8,A6,hx,hP,hF,htm,hg];exact hΦ _ _ _ (.inr ⟨rfl,by simp[B4,hr]⟩)
  .have hc':p s=false:=by simpa using hc
   rw[if_neg hc]at hr;rw[hc']at hP;simp[K3,B4,k0,k1,k7,k8,A6,V7,hx,hP,hF,htm,hg];exact O4 hJ ⟨i+1,by omega,by simp[B4],hr⟩
 .rw[xr (by omega)]at hr;simp[K3,B4,k7,k8,A6];exact hΦ _ _ _ (.inl ⟨rfl,hr.symm⟩)
theorem PD (m:I8) (l:I2) (g:FuncId) (caps:E6) (p:Tm->Bool) (hg:C4 g=false) (C2:l.length<=1048576)
  (hfl:∀(h:AH) (x:Tm),f8 h true (B8 x::caps)=some (B8 x::caps)) (htm:∀h:AH,caps.all (tame h)=true) (hca:caps.all AV.flat=true) (hp:∀x∈l,pc Q g (B8 x::caps)=some (.bool (p x))) :
  pc Q Q5 [sl m 4 (A3 l),.fn g caps]=some (.bool (l.any p)):=by
 have hI:pc Q O2 [sl m 4 (A3 l),.fn g caps]=some (.int .i64 (idx p l)):=by
  refine Q6 x9 λfr hl h0 h1=>?_;simp[x9]at hl h0 h1;simp[x9,hl,h0];refine C8.mono (XT m l g caps p hg C2 hfl htm hp _ _ ?_ ?_ ?_ ?_ ?_) ?_<;>first|(simp[hl,h0,h1];done)|skip
  rintro e G9 Jb ⟨K,⟨rfl,he⟩|⟨rfl,k4⟩⟩
  .have B4:G9.length=19:=K.1.trans (by simp[hl]);simp[B4,he]
  .simp[k4]
 have he:decide (0<=idx p l)=l.any p:=by
  rw[xl,decide_eq_true_iff,idx,CL]
 refine Q6 Z9 λfr hl h0 h1=>?_;simp[Z9]at hl h0 h1;simp[Z9,hl,h0,h1,hI,hca];exact he
def tO:List ByteArray:=[bs [112,97,105,114],bs [101,110,99],bs [97,101,110,99],bs [112,107],bs [115,105,103,110],bs [104,97,115,104]]
def FK (S:List Tm) (u:Tm):Bool:=Ie u tO&&u.kids.all (P2 S)
theorem Vo (m:I8) (S:I2) (hS:d9 S) (C2:S.length<=1048576) (hs:∀x∈S,x.size<=1099511627776) (x:Tm) (hx:x.size<=1099511627776) :
  pc Q W2 [B8 x,.pv [sl m 4 (A3 S)]]=some (.bool (!P2 S x)):=by
 have hH:=Ge m S x hS (by omega) hs hx;refine Q6 AT λfr hl h0 h1=>?_;simp[AT]at hl h0 h1;simp[AT,hl,h0,h1,hH]
theorem Xp (m:I8) (S:I2) (hS:d9 S) (C2:S.length<=1048576) (hs:∀x∈S,x.size<=1099511627776) (u:Tm) (hu:u.size<=1048576) :
  pc Q S2 [sl m 4 (A3 S),B8 u]=some (.bool (FK S u)):=by
 have K4:=u.kids_size;have CI:=Tm.length_le u.kids;have hI:=Py u (true,true) tO (by decide);simp only[GP,tO,xm,xn]at hI;change pc Q H6 _=some (.bool (Ie u tO))at hI;have hC:=PE u.cm u.kids W2 [.pv [sl m 4 (A3 S)]] (λx=>!P2 S x) rfl (by omega) (λh x=>by simp) (λh=>rfl) rfl
  (λx hx=>Vo m S hS C2 hs x (by have:=Tm.size_le hx;omega))
 have he:(!(u.kids.any λx=>!P2 S x))=u.kids.all (P2 S):=by simp[List.all_eq_not_any_not]
 unfold FK;rw[←he];generalize u.kids.any (λx=>!P2 S x)=b at *
 generalize Ie u tO=c at *
 cases c with
 |false =>
  refine Q6 N8 λfr hl h0 h1=>?_;simp[N8]at hl h0 h1;simp[N8,hl,h0,h1,hI,A4]
 |true =>
  refine Q6 N8 λfr hl h0 h1=>?_;simp[N8]at hl h0 h1;simp[N8,hl,h0,h1,hI,A4,hC,Ak]
def IV (S:List Tm) (u t:Tm):Bool :=
 if Ct t (bs [112,97,105,114])then GW (N3 t 0) u||GW (N3 t 1) u
 else if Ct t (bs [115,105,103,110])then GW (N3 t 0) u
 else match NX t with
  |some k=>GW (N3 t 0) u&&P2 S k
  |none=>false
def Hw (S:List Tm) (u:Tm):Bool:=S.any (IV S u)
theorem ZU (t:Tm) (nm:H7):Ie t [nm]=Ct t nm:=by
 unfold Ie Ct;simp only[yA,yB,xz];congr 1;rw[xl,Ek,decide_eq_true_iff]
theorem nD (t:Tm) (a b:H7):Ie t [a,b]=(Ct t a||Ct t b):=by
 rw[←ZU,←ZU];unfold Ie;simp only[yA,yB,xz];cases decide (t.kind=3)<;>simp
theorem Md (t:Tm) (nm:H7):pc Q H6 [B8 t,sl (true,true) 1 [.str nm]]=some (.bool (Ct t nm)):=by
 have hI:=Py t (true,true) [nm] (by simp);change pc Q H6 _=some (.bool (Ie t [nm]))at hI;rw[ZU]at hI;simpa only[GP,xm,xn]using hI
theorem iM (t:Tm) (a b:H7):pc Q H6 [B8 t,sl (true,true) 1 [.str a,.str b]]=some (.bool (Ct t a||Ct t b)):=by
 have hI:=Py t (true,true) [a,b] (by simp);change pc Q H6 _=some (.bool (Ie t [a,b]))at hI;rw[nD]at hI;simpa only[GP,xm,xn]using hI
theorem Zo (m:I8) (S:I2) (hS:d9 S) (C2:S.length<=1048576) (hs:∀x∈S,x.size<=1099511627776) (u t:Tm) (hu:u.size<=1048576) (ht:OkT t) :
  pc Q b8 [B8 t,.pv (B8 u).cells,.pv [sl m 4 (A3 S)]]=some (.bool (IV S u t)):=by
 have hP:=Md t (bs [112,97,105,114]);have hG:=Md t (bs [115,105,103,110]);have hE:=iM t (bs [101,110,99]) (bs [97,101,110,99]);have hts:=ht.size;have K4:=t.kids_size;unfold IV;by_cases hp:Ct t (bs [112,97,105,114])=true
 .obtain⟨a,b,hk⟩:=Gz ht hp (.inl rfl);rw[hk]at K4;simp only[Tm.sizes]at K4;have hx0:IU (A3 t.kids) 0=some (B8 a):=by rw[hk];rfl
  have hx1:IU (A3 t.kids) 1=some (B8 b):=by rw[hk];rfl
  have e0:N3 t 0=a:=by simp[N3,hk]
  have e1:N3 t 1=b:=by simp[N3,hk]
  have q0:=Me a u (by omega) (by omega);have q1:=Me b u (by omega) (by omega);rw[if_pos hp,e0,e1];rw[hp]at hP;generalize GW a u=c0 at *
  generalize GW b u=c1 at *
  cases c0 with
  |true =>
   refine IW B7 λfr hl h0 h1 h2=>?_;simp[B7]at hl h0 h1 h2;simp[B7,hl,h0,h1,hP,hx0,q0,A4]
  |false =>
   refine IW B7 λfr hl h0 h1 h2=>?_;simp[B7]at hl h0 h1 h2;simp[B7,hl,h0,h1,hP,hx0,hx1,q0,q1,A4]
 .have hp':Ct t (bs [112,97,105,114])=false:=by simpa using hp
  rw[if_neg hp];rw[hp']at hP;by_cases hg:Ct t (bs [115,105,103,110])=true
  .obtain⟨a,b,hk⟩:=Gz ht hg (.inr (.inr (.inr (.inl rfl))));rw[hk]at K4;simp only[Tm.sizes]at K4;have hx0:IU (A3 t.kids) 0=some (B8 a):=by rw[hk];rfl
   have e0:N3 t 0=a:=by simp[N3,hk]
   have q0:=Me a u (by omega) (by omega);rw[if_pos hg,e0];rw[hg]at hG;refine IW B7 λfr hl h0 h1 h2=>?_;simp[B7]at hl h0 h1 h2;simp[B7,hl,h0,h1,hP,hG,hx0,q0,A4]
  .have DG:Ct t (bs [115,105,103,110])=false:=by simpa using hg
   rw[if_neg hg];rw[DG]at hG;by_cases he:Ct t (bs [101,110,99])=true\/Ct t (bs [97,101,110,99])=true
   .obtain⟨a,b,hk⟩:∃a b,t.kids=[a,b]:=by
     rcases he with he|he
     .exact Gz ht he (.inr (.inl rfl))
     .exact Gz ht he (.inr (.inr (.inl rfl)))
    rw[hk]at K4;simp only[Tm.sizes]at K4;have hx0:IU (A3 t.kids) 0=some (B8 a):=by rw[hk];rfl
    have e0:N3 t 0=a:=by simp[N3,hk]
    have q0:=Me a u (by omega) (by omega);have heE:(Ct t (bs [101,110,99])||Ct t (bs [97,101,110,99]))=true:=by simpa using he
    rw[heE]at hE;rcases nX t ht he with ⟨k,k',hk1,hk2,hK⟩|⟨hk1,hK⟩
    .have hkz:k'.size<=1099511627776:=by
      rw[So hk2];have:k.size<=t.size:=by
       unfold NX at hk1;have hb1:N3 t 1=b:=by simp[N3,hk]
       by_cases q1:Ct t (bs [101,110,99])=true
       .rw[if_pos q1,hb1]at hk1;cases hk1;omega
       .rw[if_neg q1,hb1]at hk1;by_cases q2:(Ct t (bs [97,101,110,99])&&Ct b (bs [112,107]))=true
        .rw[if_pos q2]at hk1;cases hk1;have hb:OkT b:=ht.kid (by rw[hk];simp);rw[xu]at q2;obtain⟨p1,p2⟩:=JM.1 q2.2;obtain⟨c,hc⟩:=hb.one p1 (by rw[p2];exact .inl rfl);have hsz2:=b.kids_size;rw[hc]at hsz2;simp only[Tm.sizes]at hsz2;have:N3 b 0=c:=by simp[N3,hc]
         rw[this];omega
        .rw[if_neg q2]at hk1;cases hk1
      omega
     have hH:=Ge m S k' hS (by omega) hs hkz;rw[RD hk2]at hH;rw[hk1,e0];generalize GW a u=c0 at *
     cases c0 with
     |true =>
      refine IW B7 λfr hl h0 h1 h2=>?_;simp[B7]at hl h0 h1 h2;simp[B7,hl,h0,h1,h2,hP,hG,hE,hx0,q0,hK,hH,A4]
     |false =>
      refine IW B7 λfr hl h0 h1 h2=>?_;simp[B7]at hl h0 h1 h2;simp[B7,hl,h0,h1,hP,hG,hE,hx0,q0,hK,A4]
    .rw[hk1];refine IW B7 λfr hl h0 h1 h2=>?_;simp[B7]at hl h0 h1 h2;simp[B7,hl,h0,hP,hG,hE,hK,A4]
   .have heE:(Ct t (bs [101,110,99])||Ct t (bs [97,101,110,99]))=false:=by
     rw[xp,ne_eq,Bool.or_eq_true];exact he
    rw[heE]at hE;have hkn:NX t=none:=by
     unfold NX;rw[if_neg (λh=>he (.inl h)),if_neg];rw[xu];exact λh=>he (.inr h.1)
    rw[hkn];refine IW B7 λfr hl h0 h1 h2=>?_;simp[B7]at hl h0 h1 h2;simp[B7,hl,h0,hP,hG,hE,A4]
theorem eE (m:I8) (S:I2) (hS:d9 S) (C2:S.length<=1048576) (hs:∀x∈S,OkT x) (u:Tm) (hu:u.size<=1048576) :
  pc Q W3 [sl m 4 (A3 S),B8 u]=some (.bool (Hw S u)):=by
 have hs2:∀x∈S,x.size<=1099511627776:=λx hx=>by have:=(hs x hx).size;omega
 have hC:=PD m S b8 [.pv (B8 u).cells,.pv [sl m 4 (A3 S)]] (IV S u) rfl C2 (λh x=>by simp) (λh=>rfl) rfl
  (λx hx=>Zo m S hS C2 hs2 u x hu (hs x hx))
 rw[show S.any (IV S u)=Hw S u from rfl]at hC;simp only[H3]at hC;refine Q6 CU λfr hl h0 h1=>?_;simp[CU]at hl h0 h1;simp[CU,hl,h0,h1,hC,Ak]
theorem Rs {t:Tm} (h:t.kind=3->t.name∈AG) {nm:H7} (hn:∀y∈AG,y≠nm):Ct t nm=false:=dj h hn
theorem bW (t:Tm) (h:OkT t):pc Q Dq [B8 t]=some (.tup [B8 t,sl (true,false) 1 []]):=by
 have hI:=Md t (bs [101,120,112]);rw[Rs h.nm (by decide)]at hI;refine N4 Gl λfr hl h0=>?_;simp[Gl]at hl h0;simp[Gl,hl,h0,hI,A4]
theorem Zq (u t:Tm) (ht:OkT t) (hu:OkT u) (M5:GW u t=false) (m:I8) (S:I2):pc Q S3 [B8 t,.pv (B8 u).cells,.pv [sl (true,false) 1 []],.pv [sl m 4 (A3 S)]]=some (.bool false):=by
 have hB:=bW t ht;have hS:=Me u t (by have:=hu.size;omega) (by have:=ht.size;omega);rw[M5]at hS;refine WM Ia rfl (by simp[d6]) λfr hl ha=>?_;have h0:=ha 0;have h1:=ha 1;have h2:=ha 2;have h3:=ha 3;clear ha;simp[d6]at hl h0 h1 h2 h3;simp[d6,hl,h0,h1,hB,hS]
theorem fw (a b:Tm):GW a b=GW b a:=by
 unfold GW;rw[xl,decide_eq_true_iff,decide_eq_true_iff];exact KG.2
theorem UN {S:I2} {u:Tm} (h:P2 S u=false) {t:Tm} (ht:t∈S):GW u t=false:=by
 rw[fw,xp];intro he;have:P2 S u=true:=List.any_eq_true.2 ⟨t,ht,he⟩;rw[h]at this;cases this
theorem eG (m:I8) (S:I2) (C2:S.length<=1048576) (hs:∀x∈S,OkT x) (u:Tm) (hu:OkT u) (hn:P2 S u=false) :
  pc Q W4 [sl m 4 (A3 S),B8 u]=some (.bool false):=by
 have hB:=bW u hu;have hC:=PD m S S3 [.pv (B8 u).cells,.pv [sl (true,false) 1 []],.pv [sl m 4 (A3 S)]] (λ_=>false) rfl C2 (λh x=>by simp) (λh=>rfl) rfl
  (λx hx=>Zq u x (hs x hx) hu (UN hn hx) m S)
 rw[show (S.any λ_=>false)=false from by simp]at hC;simp only[H3]at hC;refine Q6 CW λfr hl h0 h1=>?_;simp[CW]at hl h0 h1;simp[CW,hl,h0,h1,hB,hC,Ak]
end Go.Abs.Q
namespace Go.Abs
def tz (step:St->Option (Ex×St)) (Ψ:Ex->Fr->AH->Prop):Ex->Fr->AH->Prop
 | .normal,fr,h=>C8 (lp step (fr,h)) Ψ
 |e,fr,h=>Ψ e fr h
@[simp] theorem wx (step:St->Option (Ex×St)) (Ψ:Ex->Fr->AH->Prop) (fr:Fr) (h:AH):tz step Ψ .normal fr h=C8 (lp step (fr,h)) Ψ:=_root_.id rfl
@[simp] theorem ww (step:St->Option (Ex×St)) (Ψ:Ex->Fr->AH->Prop) (i:Nat) (fr:Fr) (h:AH):tz step Ψ (.exit i) fr h=Ψ (.exit i) fr h:=_root_.id rfl
@[simp] theorem wy (step:St->Option (Ex×St)) (Ψ:Ex->Fr->AH->Prop) (fr:Fr) (h:AH):tz step Ψ .ret fr h=Ψ .ret fr h:=_root_.id rfl
theorem J4 {step:St->Option (Ex×St)} {fr:Fr} {h:AH} {Ψ:Ex->Fr->AH->Prop} (H:C8 (step (fr,h)) (tz step Ψ)):C8 (lp step (fr,h)) Ψ:=by
 cases hs:step (fr,h)with
 |none=>rw[hs]at H;exact H.elim
 |some x =>
  obtain⟨e,D4,h'⟩:=x;rw[hs]at H;cases e with
  |normal =>
   change C8 (lp step (D4,h')) Ψ at H;cases hl:lp step (D4,h')with
   |none=>rw[hl]at H;exact H.elim
   |some y =>
    rw[lm hs hl];rw[hl]at H;exact H
  |exit i=>rw[bG hs];exact H
  |ret=>rw[gq hs];exact H
end Go.Abs
namespace Go.Abs.Q
open Go.Proofs
attribute [local simp] D0 D1 fin I1 E7 K8 I3 N6 P4
theorem XW (w:AV) (l:I2) (k:Nat) (C2:l.length<=1048576) (x0 x1 x2:AV) (C:E6) (hw:w=.sl k l.length 0 l.length) (IH:∀t∈l,∃t',pc Q U3 [B8 t]=some (B8 t')/\D5 t'=D5 t) (fr:Fr) (h:AH) (hh:h.boxes=[[x0,x1,x2,w],C]) (hfam:h.fams[k]?=some ⟨A3 l,4,true⟩) (hl:fr.length=25) (h1:A0 fr 1=.ptr 0 0) (h10:A0 fr 10=w) (h11:A0 fr 11=.int .i64 l.length) (h12:A0 fr 12=.int .i64 0) :
  C8 (lp (A1 (Q8 Q) (G7 U3) Z5) (fr,h)) λe D4 h'=>Kp Z5.wr fr D4/\e=.exit 0/\∃(B:List (List AV)) (done:List Tm),h'=⟨[x0,x1,x2,w]::C::B,h.fams.set k ⟨A3 done,4,true⟩⟩/\G8 done=G8 l/\done.length=l.length:=by
 refine C3 rfl fr (λn fr h'=>∃(i:Nat),i+n=l.length/\A0 fr 12=.int .i64 (i:Nat)/\(∃(B:List (List AV)) (done:List Tm) (X:List AV),X=(done++l.drop i).map B8/\h'=⟨[x0,x1,x2,w]::C::B,h.fams.set k ⟨X,4,true⟩⟩/\G8 done=G8 (l.take i)/\done.length=i)) ?_ l.length h ⟨0,by omega,h12,⟨[],[],A3 l,by simp[D7],by rw[Ck hfam,←hh],by simp[G8],rfl⟩⟩;rintro J Φ hJ hΦ n G9 H1 K ⟨i,hi,k12,hr⟩;have B4:=K.1.trans hl;have k1:=A5 K 1 h1;have k10:=A5 K 10 h10;have k11:=A5 K 11 h11;clear K;by_cases A6:i<l.length
 .have V7:=E5 i (by omega);obtain⟨B,done,X,hX,rfl,hd,EF⟩:=hr;subst hw;obtain⟨t',hI,ht⟩:=IH l[i] (xk A6);obtain⟨q1,q2,q3⟩:=NM B8 done l A6 EF;have q4:=NN B8 done l A6 EF t';have e2:G8 (done++[t'])=G8 (l.take (i+1)):=by
   rw[List.take_succ_eq_append_getElem A6,D3,xy,←D3,hd,D3,D3,xy,xm,xn,xm,xn,ht]
  have CI:=J0 hfam;rw[←hX]at q1 q3 q4;have hq2:X[i]'q1=B8 l[i]:=by subst hX;exact q2
  clear hd ht q2 hX hh;generalize hY:(done++[t']++l.drop (i+1)).map B8=Y at *
  generalize l[i]=s at *
  simp[Z5,B4,k1,k10,k11,k12,A6,V7,hI,hq2,q3,q4,CI];exact O4 hJ ⟨i+1,by omega,by simp[B4],_,done++[t'],Y,hY.symm,rfl,e2,by simp[EF]⟩
 .obtain⟨B,done,X,hX,rfl,hd,EF⟩:=hr;have e:i=l.length:=by omega
  subst e;rw[List.take_length]at hd;rw[List.drop_length,List.append_nil,←D7]at hX;simp[Z5,B4,k11,k12];exact hΦ _ _ _ ⟨rfl,B,done,by rw[hX],hd,EF⟩
theorem eA:∀(n:Nat) (t:Tm),t.size<=n->t.size<=1048576->∃t',pc Q U3 [B8 t]=some (B8 t')/\D5 t'=D5 t:=by
 intro n
 induction n with
 |zero=>intro t h;have:=t.size_pos;omega
 |succ n ih =>
  intro t hn hb;obtain⟨k,nm,s,m,kids⟩:=t;have K4:Tm.size (.mk k nm s m kids)=1+Tm.sizes kids:=rfl;have C2:=Tm.length_le kids;have hlv:(A3 kids).length=kids.length:=by rw[D7,xw]
  have hih:∀t∈kids,∃t',pc Q U3 [B8 t]=some (B8 t')/\D5 t'=D5 t:=λt ht=>ih t (by have:=Tm.size_le ht;omega) (by have:=Tm.size_le ht;omega);clear ih
  suffices h:∃v,pc Q U3 [B8 (.mk k nm s m kids)]=some v/\∃t',v=B8 t'/\D5 t'=D5 (.mk k nm s m kids) by
   obtain⟨v,h1,t',rfl,h2⟩:=h;exact⟨t',h1,h2⟩
  obtain⟨w,⟨B0,F⟩,hC,hg,hb0,hf⟩:=LK m (A3 kids) (by omega) ⟨[[.int .i64 k,.str nm,.int .i64 s,sl m 4 (A3 kids)],[.int .i64 0,.str (bs []),.int .i64 0,.vs true 0 []]],[]⟩;simp only at hb0;subst hb0;obtain⟨c1,c2,c3⟩:=Pb hg;have hlenW:=VA hg;rw[hlv]at hlenW;simp only[List.length_nil]at hg;rcases hg with ⟨hl0,b,rfl⟩|⟨M5,rfl,hk⟩
  .have:kids=[]:=by rw[D7]at hl0;exact List.map_eq_nil_iff.1 hl0
   subst this;refine Jk AC λΨ hΨ fr hl h0=>?_;simp[AC,B8]at hl h0;simp[AC,hl,h0,hC];refine J4 ?_;simp[Z5,hl];exact hΨ _ ⟨.mk k nm s (true,b) [],rfl,rfl⟩
  .rw[hlv]at hC hlenW c1 c2 c3;simp only at hk;have Pk:=XW (.sl 0 kids.length 0 kids.length) kids 0 (by omega) (.int .i64 k) (.str nm) (.int .i64 s) [.int .i64 0,.str (bs []),.int .i64 0,.vs true 0 []] rfl hih;refine Jk AC λΨ hΨ fr hl h0=>?_;simp[AC,B8]at hl h0;simp[AC,hl,h0,hC,hlenW];refine C8.mono (Pk _ _ ?_ ?_ ?_ ?_ ?_ ?_ ?_) ?_<;>first|exact hk|(simp[hl];done)|skip
   rintro e G9 ⟨bx,F2⟩ ⟨K,rfl,B,done,hB,hd,EF⟩;cases hB;have M7:G9.length=25:=K.1.trans (by simp[hl]);have GN:A0 G9 1=.ptr 0 0:=A5 K 1 (by simp[hl]);have FM:A0 G9 2=.ptr 1 0:=A5 K 2 (by simp[hl]);clear K;have CI:=J0 hk;have hz:∀B',y8 ⟨B',F.set 0 ⟨A3 done,4,true⟩⟩ true (.sl 0 kids.length 0 kids.length)=some (sl (false,true) 4 (A3 done)):=λB'=>Ho (b:=true) (by simp[CI]) (by rw[D7,xw,EF]);simp[M7,GN,FM,hz];exact hΨ _ ⟨.mk k nm s (false,true) done,rfl,by simp[D5,hd]⟩
end Go.Abs.Q
namespace Go.Abs.Q
open Go.Proofs
attribute [local simp] D0 D1 fin I1 E7 K8 I3 N6 P4
def JU (t:Tm) (n:Int):AV:=.agg [.int .i64 t.kind,.str t.name,.int .i64 t.sort,sl t.cm 4 (A3 t.kids),.int .i64 n]
@[simp] theorem uz (t:Tm) (n:Int):AV.agg [.int .i64 t.kind,.str t.name,.int .i64 t.sort,sl t.cm 4 (A3 t.kids),.int .i64 n]=JU t n:=rfl
@[simp] theorem qB (t:Tm) (n:Int):(JU t n).cells=[.int .i64 t.kind,.str t.name,.int .i64 t.sort,sl t.cm 4 (A3 t.kids),.int .i64 n]:=rfl
@[simp] theorem qC (t:Tm) (n:Int):(JU t n).isTup=false:=rfl
@[simp] theorem vA (h:AH) (am:Bool) (t:Tm) (n:Int):frz h am (JU t n)=some (JU t n):=rfl
@[simp] theorem tC (h:AH) (t:Tm) (n:Int):tame h (JU t n)=true:=rfl
theorem kh (u:Tm):pc Q I7 [sl (true,false) 1 [],B8 u,.fn EI []]=some (.tup [.int .i64 0,.bool false]):=by
 refine IW M6 λfr hl h0 h1 h2=>?_;simp[M6]at hl h0 h1 h2;simp[M6,hl,h0,h1];refine J4 ?_;simp[T8,hl]
theorem Zy (u:Tm) (hu:u.size<=1048576) (B:List (List AV)) (F:List Fam) :
  ∃(u':Tm) (k:Nat) (h':AH),rc Q l8 [.vs true 0 [],JU u 1] ⟨B,F⟩=some (.sl k 1 0 1,h')/\h'.fams[k]?=some ⟨[JU u' 1],5,true⟩/\D5 u'=D5 u/\∃B',h'.boxes=B++B':=by
 obtain⟨u',hC,he⟩:=eA _ u (xo _) hu;have hB:=kh u;have hI:∀B2:List (List AV),rc Q L9 [.vs true 0 [],.int .i64 0,sl (true,true) 5 [JU u' 1]] ⟨B2,F⟩=some (.sl F.length 1 0 1,⟨B2,F++[⟨[JU u' 1],5,true⟩]⟩):=by
  intro B2;refine JV (s:=az 5 64) rfl rfl ?_;rw[show sl (true,true) 5 [JU u' 1]=.vs true 5 [JU u' 1] from by simp[sl]];change Ov 5 64 [.vs true 0 [],.int .i64 0,.vs true 5 [JU u' 1]] _=_;simp only[Ov,Ku];rw[if_pos ⟨trivial,rfl⟩,if_pos (by decide)]
 suffices hq:∃v h',rc Q l8 [.vs true 0 [],JU u 1] ⟨B,F⟩=some (v,h')/\∃k,v=.sl k 1 0 1/\h'.fams[k]?=some ⟨[JU u' 1],5,true⟩/\∃B',h'.boxes=B++B' by
  obtain⟨v,h',h1,k,rfl,h2,h3⟩:=hq;exact⟨u',k,h',h1,h2,he,h3⟩
 refine FT Fy λfr hl h0 h1=>?_;simp[Fy]at hl h0 h1;simp[Fy,hl,h0,h1,hB,hC,hI,A4,D2,E8]
theorem Uc (t:Tm) (h:t.kind=3->t.name∈AG):pc Q DI [B8 t]=some (.bool false):=by
 by_cases hk:t.kind=3
 .obtain⟨-,-,-,-,-,-,-,n8,n9,n10,-⟩:=Om (h hk);refine N4 m7 λfr hl h0=>?_;simp[m7]at hl h0;simp[m7,hl,h0,hk,n8,n9,n10]
 .refine N4 m7 λfr hl h0=>?_;simp[m7]at hl h0;simp[m7,hl,h0,hk]
theorem Zw (u:Tm) (hu:u.size<=1048576) (hf:u.kind=3->u.name∈AG) (B:List (List AV)) (F:List Fam) :
  ∃(u':Tm) (k:Nat) (h':AH),rc Q T9 [.vs true 0 [],B8 u,.int .i64 1] ⟨B,F⟩=some (.tup [.sl k 1 0 1,.bool true],h')/\h'.fams[k]?=some ⟨[JU u' 1],5,true⟩/\D5 u'=D5 u/\∃B',h'.boxes=B++B':=by
 obtain⟨u',k,⟨B1,F1⟩,hI,hk,he,⟨B',hB'⟩⟩:=Zy u hu (B++[(B8 u).cells]) F;simp only at hB' hk;subst hB';have hS:=Uc u hf
 suffices hq:∃v h',rc Q T9 [.vs true 0 [],B8 u,.int .i64 1] ⟨B,F⟩=some (v,h')/\∃k,v=.tup [.sl k 1 0 1,.bool true]/\h'.fams[k]?=some ⟨[JU u' 1],5,true⟩/\∃B',h'.boxes=B++B' by
  obtain⟨v,h',h1,k,rfl,h2,h3⟩:=hq;exact⟨u',k,h',h1,h2,he,h3⟩
 simp only[H3]at hI;refine lI Ey λfr hl h0 h1 h2=>?_;simp[Ey]at hl h0 h1 h2;simp[Ey,hl,h0,h1,h2,hS,hI,D2,E8];exact hk
theorem sw (u:Tm) (hu:OkT u):∃u',pc Q BW [B8 u]=some (.tup [sl (false,true) 5 [JU u' 1],.int .i64 0])/\D5 u'=D5 u:=by
 have hs:=hu.size;have hV:=Dv u (by omega);rw[(Ed hu.valid).1]at hV;obtain⟨u',k,⟨B1,F1⟩,hI,hk,he,⟨B',hB'⟩⟩:=Zw u (by omega) hu.nm [(B8 u).cells] [];simp only at hB' hk;subst hB';have hz:∀B',y8 ⟨B',F1⟩ true (.sl k 1 0 1)=some (sl (false,true) 5 [JU u' 1]):=λB'=>Ho hk rfl;refine⟨u',?_,he⟩;simp only[H3]at hI;refine N4 Jr λfr hl h0=>?_;simp[Jr]at hl h0;simp[Jr,hl,h0,hV,hI,hz]
theorem YD (m:I8) (S:I2) (hS:d9 S) (C2:S.length<=1048576) (hs:∀x∈S,x.size<=1099511627776) (u:Tm) (hu:u.size<=1099511627776) (hn:P2 S u=false) :
  pc Q M9 [JU u 1,.pv [sl m 4 (A3 S)]]=some (.bool false):=by
 have hH:=Ge m S u hS (by omega) hs hu;rw[hn]at hH;refine Q6 Ao λfr hl h0 h1=>?_;simp[Ao]at hl h0 h1;simp[Ao,hl,h0,h1,hH]
theorem Xj (mm m:I8) (S:I2) (hS:d9 S) (C2:S.length<=1048576) (hs:∀x∈S,x.size<=1099511627776) (u:Tm) (hu:u.size<=1099511627776) (hn:P2 S u=false) :
  pc Q b9 [sl mm 5 [JU u 1],.fn M9 [.pv [sl m 4 (A3 S)]]]=some (.int .i64 (-1)):=by
 have hP:=YD m S hS C2 hs u hu hn;have h01:IntKind.i64.wrap 1=1:=by decide
 refine Q6 Bc λfr hl h0 h1=>?_;simp[Bc]at hl h0 h1;simp[Bc,hl,h0];refine J4 ?_;simp[Di,hl,h0,h1,hP,h01];refine J4 ?_;simp[hl]
theorem Zt (mm m:I8) (S:I2) (hS:d9 S) (C2:S.length<=1048576) (hs:∀x∈S,x.size<=1099511627776) (u:Tm) (hu:u.size<=1099511627776) (hn:P2 S u=false) :
  pc Q P0 [sl m 4 (A3 S),sl mm 5 [JU u 1]]=some (sl (false,true) 5 [JU u 1]):=by
 have hC:∀(B:List (List AV)),rc Q K9 [sl mm 5 [JU u 1]] ⟨B,[]⟩=some (.sl 0 1 0 1,⟨B,[⟨[JU u 1],5,true⟩]⟩):=by
  intro B
  suffices hq:∃v h',rc Q K9 [sl mm 5 [JU u 1]] ⟨B,[]⟩=some (v,h')/\(v=.sl 0 1 0 1/\h'=⟨B,[⟨[JU u 1],5,true⟩]⟩) by
   obtain⟨v,h',h1,rfl,rfl⟩:=hq;exact h1
  have hr:G4=140737488355328:=rfl;have hm:maxLen=9223372036854775807:=rfl;refine YL Dg λfr hl h0=>?_;simp[Dg]at hl h0;simp[Dg,hl,h0,OG,FX,A4,show TU K9=true from rfl,hr,hm]
 have hI:=Xj (false,true) m S hS C2 hs u hu hn;have hD:∀(B:List (List AV)),rc Q K5 [.sl 0 1 0 1,.fn M9 [.pv [sl m 4 (A3 S)]]] ⟨B,[⟨[JU u 1],5,true⟩]⟩=some (.sl 0 1 0 1,⟨B,[⟨[JU u 1],5,true⟩]⟩):=by
  intro B
  suffices hq:∃v h',rc Q K5 [.sl 0 1 0 1,.fn M9 [.pv [sl m 4 (A3 S)]]] ⟨B,[⟨[JU u 1],5,true⟩]⟩=some (v,h')/\(v=.sl 0 1 0 1/\h'=⟨B,[⟨[JU u 1],5,true⟩]⟩) by
   obtain⟨v,h',h1,rfl,rfl⟩:=hq;exact h1
  refine FT Ap λfr hl h0 h1=>?_;simp[Ap]at hl h0 h1;simp[Ap,hl,h0,h1,hI]
 refine Q6 Bu λfr hl h0 h1=>?_;simp[Bu]at hl h0 h1;simp[Bu,hl,h0,h1,hC,hD,Ak]
theorem nV (m:I8) (R:I2) (t:Tm) (hR:d9 R) (C2:R.length<=1099511627776) (hs:∀x∈R,x.size<=1099511627776) (ht:t.size<=1099511627776) :
  ∃i:Nat,i<=R.length/\(∀j (hj:j<R.length),j<i->H0 R[j] t<0)/\(∀j (hj:j<R.length),i<=j->0<=H0 R[j] t) /\
   pc Q I0 [sl m 4 (A3 R),B8 t,.fn A8 []]=some (.tup [.int .i64 (i:Nat),.bool (P2 R t)]):=by
 suffices h:∃v,pc Q I0 [sl m 4 (A3 R),B8 t,.fn A8 []]=some v/\∃i:Nat,v=.tup [.int .i64 (i:Nat),.bool (P2 R t)]/\i<=R.length/\(∀j (hj:j<R.length),j<i->H0 R[j] t<0)/\(∀j (hj:j<R.length),i<=j->0<=H0 R[j] t) by
  obtain⟨v,h1,i,rfl,h2,h3,h4⟩:=h;exact⟨i,h2,h3,h4,h1⟩
 refine YF Z8 λΨ hΨ fr hl h0 h1 h2=>?_;simp[Z8]at hl h0 h1 h2;simp[Z8,hl,h0,h1];refine(C3 (Ψ:=λe D4 h'=>e=.exit 0/\h'=⟨[(B8 t).cells],[]⟩/\∃i:Nat,A0 D4 9=.int .i64 (i:Nat)/\i<=R.length/\(∀j (hj:j<R.length),j<i->H0 R[j] t<0)/\(∀j (hj:j<R.length),i<=j->0<=H0 R[j] t)) rfl _
  (λn D4 h'=>h'=⟨[(B8 t).cells],[]⟩/\∃lo hi:Nat,hi=lo+n/\hi<=R.length/\A0 D4 9=.int .i64 (lo:Nat)/\A0 D4 10=.int .i64 (hi:Nat)/\(∀j (hj:j<R.length),j<lo->H0 R[j] t<0)/\(∀j (hj:j<R.length),hi<=j->0<=H0 R[j] t)) ?_ R.length _
  ⟨by simp,0,R.length,by omega,xo _,by simp[hl],by simp[hl],λj _ h=>absurd h (Nat.not_lt_zero _),λj hj h=>by omega⟩).mono ?_
 .rintro J Φ hJ hΦ n G9 H1 K ⟨rfl,lo,hi,hn,UO,k9,k10,g1,g2⟩;have B4:G9.length=49:=K.1.trans (by simp[hl]);have k0:=A5 K 0 (by simp[h0]:_=sl m 4 (A3 R));have k2:=A5 K 2 (by simp[h2]:_=AV.fn A8 []);have k4:=A5 K 4 (by simp[hl]:_=AV.ptr 0 0);clear K;by_cases A6:0<n
  .have hlti:(lo:Int)<(hi:Int):=by omega
   have hw1:IntKind.i64.wrap ((lo:Int)+(hi:Int))=(lo:Int)+(hi:Int):=M3 (by omega) (by omega);have hw2:IntKind.u64.wrap ((lo:Int)+(hi:Int))=(lo:Int)+(hi:Int):=jN (by omega) (by omega);obtain⟨mid,hmd⟩:∃mid,mid=(lo+hi) / 2:=⟨_,rfl⟩;have hb:=Wg (lo+hi);rw[←hmd,Int.natCast_add]at hb;have hm1:lo<=mid:=by omega
   have hm2:mid<hi:=by omega
   have hw3:IntKind.i64.wrap (mid:Int)=(mid:Int):=M3 (by omega) (by omega);have hw4:=E5 mid (by omega);have hmid:mid<R.length:=by omega
   have hx:=S4 hmid;have hC:=Z4 _ R[mid] t (xo _) (hs _ (xk hmid)) ht;by_cases hc:H0 R[mid] t<0
   .have g1':∀j (hj:j<R.length),j<mid+1->H0 R[j] t<0:=λj hj hjm=>by
     rcases xt (Nat.le_of_lt_succ hjm)with q|q
     .exact Ep (hR.get hj hmid q) hc
     .subst q;exact hc
    generalize R[mid]=x at *
    simp[O7,B4,k0,k2,k4,k9,k10,hlti,hw1,hw2,hw3,hw4,hb,hx,hC,hc];exact⟨hi-(mid+1),by omega,hJ _ _ _ ⟨by simp,mid+1,hi,by omega,UO,by simp[B4],by simp[k10],g1',g2⟩⟩
   .have g2':∀j (hj:j<R.length),mid<=j->0<=H0 R[j] t:=λj hj hjm=>by
     rcases xt hjm with q|q
     .rcases Int.lt_or_le (H0 R[j] t) 0 with p|p
      .exact absurd (Ep (hR.get hmid hj q) p) hc
      .exact p
     .subst q;omega
    generalize R[mid]=x at *
    simp[O7,B4,k0,k2,k4,k9,k10,hlti,hw1,hw2,hw3,hb,hx,hC,hc];exact⟨mid-lo,by omega,hJ _ _ _ ⟨by simp,lo,mid,by omega,by omega,by simp[k9],by simp[B4],g1,g2'⟩⟩
  .have hn0:n=0:=by omega
   have hlh:hi=lo:=by omega
   subst hlh;simp[O7,B4,k9,k10];exact hΦ _ _ _ ⟨rfl,by simp,hi,by simp[k9],UO,g1,g2⟩
 .rintro e G9 Jb ⟨K,rfl,rfl,i,k9,hi,g1,g2⟩;have B4:G9.length=49:=K.1.trans (by simp[hl]);have k0:=A5 K 0 (by simp[h0]:_=sl m 4 (A3 R));have k2:=A5 K 2 (by simp[h2]:_=AV.fn A8 []);have k4:=A5 K 4 (by simp[hl]:_=AV.ptr 0 0);have k8:=A5 K 8 (by simp[hl]:_=AV.int .i64 R.length);clear K;have hh:=gG hR t i g1 g2;by_cases A6:i<R.length
  .have hx:=S4 A6;have hC:=Z4 _ R[i] t (xo _) (hs _ (xk A6)) ht;have e:decide (H0 R[i] t=0)=P2 R t:=by
    rw[xl,decide_eq_true_iff,hh];exact⟨λh=>⟨A6,h⟩,λ⟨_,h⟩=>h⟩
   simp[B4,k0,k2,k4,k8,k9,A6,hx,hC];exact hΨ _ ⟨i,by rw[e],hi,g1,g2⟩
  .have e:P2 R t=false:=by
    rw[xp];intro h;obtain⟨h,-⟩:=hh.1 h;omega
   simp[B4,k8,k9,A6];exact hΨ _ ⟨i,by rw[e],hi,g1,g2⟩
theorem eF (m:I8) (u:Tm) (hu:OkT u):pc Q Dp [sl m 5 [JU u 1]]=some (.int .i64 0):=by
 have hV:=Dv u (by have:=hu.size;omega);rw[(Ed hu.valid).1]at hV;have hS:=Uc u hu.nm;have h01:IntKind.i64.wrap 1=1:=by decide
 refine N4 Gk λfr hl h0=>?_;simp[Gk]at hl h0;simp[Gk,hl,h0];refine J4 ?_;simp[Ij,hl,hV,hS,h01];refine J4 ?_;simp[hl]
theorem Zi:pc Q q7 [sl (true,false) 1 []]=some (sl (true,false) 1 []):=by
 refine N4 r9 λfr hl h0=>?_;simp[r9]at hl h0;simp[r9,hl,h0,OG];rfl
theorem Xo (a b:Tm) (h:a.size<=1099511627776) (h':b.size<=1099511627776):pc Q f9 [B8 a,B8 b]=some (.bool (decide (H0 a b=0))):=by
 have hC:=Z4 _ a b (xo _) h h';refine Q6 De λfr hl h0 h1=>?_;simp[De]at hl h0 h1;simp[De,hl,h0,h1,hC]
theorem Zn (m m2:I8) (u:Tm) (hu:u.size<=1048576):∃m',pc Q Y9 [sl m 1 [sl m2 5 [JU u 1]]]=some (sl m' 4 [B8 u]):=by
 have h01:IntKind.i64.wrap 1=1:=by decide
 have hr:G4=140737488355328:=rfl;have hm:maxLen=9223372036854775807:=rfl;have hmu:TU Y9=true:=rfl;obtain⟨l',hp,-,hS⟩:=PI 0 ⟨[[.int .i64 u.kind,.str u.name,.int .i64 u.sort,sl u.cm 4 (A3 u.kids),.int .i64 1]],[⟨A3 [u],4,true⟩]⟩ [u] rfl (by simp) (by simp;omega) (by simp);have hl':l'=[u]:=List.perm_singleton.1 hp;subst hl';have hcm:QL f9 [u]:=⟨rfl,λa ha b hb=>by
  rw[List.mem_singleton]at ha hb;exact Xo a b (by rw[ha];omega) (by rw[hb];omega)⟩
 obtain⟨Z,hZ,hZR,hK⟩:=IZ f9 [u] hcm 0 ⟨[[.int .i64 u.kind,.str u.name,.int .i64 u.sort,sl u.cm 4 (A3 u.kids),.int .i64 1]],[⟨A3 [u],4,true⟩]⟩ rfl (by simp);have hZ1:Z=[u]:=by
  have:(P3 [u])=[u]:=rfl;rw[this]at hZR;rw[←hZR,List.take_of_length_le (by simp[hZ])]
 subst hZ1;simp only[show P3 [u]=[u] from rfl,show A3 [u]=[B8 u] from rfl,List.length_singleton,List.set_cons_zero]at hS hK
 suffices h:∃v,pc Q Y9 [sl m 1 [sl m2 5 [JU u 1]]]=some v/\∃q:Bool×Bool,v=sl q 4 [B8 u] by
  obtain⟨v,h1,q,rfl⟩:=h;exact⟨q,h1⟩
 refine Jk Ez λΨ hΨ fr hl h0=>?_;simp[Ez]at hl h0;simp[Ez,hl,h0];refine J4 ?_;simp[GR,hl];refine J4 ?_;simp[HT,hl,A4,h01,hr,hm,hmu];refine J4 ?_;simp[hl,h01];refine J4 ?_;simp[hl,hS,hK];exact hΨ _ ⟨(false,true),rfl⟩
end Go.Abs.Q
