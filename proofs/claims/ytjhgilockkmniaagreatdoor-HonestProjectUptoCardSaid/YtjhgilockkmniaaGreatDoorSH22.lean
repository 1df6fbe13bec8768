/- A part of the proof. -/
import Derived.Test.YtjhgilockkmniaaGreatDoorSH21
set_option linter.all false
open List renaming drop_eq_getElem_cons->zf0z,drop_eq_nil_of_le->zf1z,getElem_mem->zf2z,getElem?_eq_getElem->zf3z,mem_cons->zf5z
open Nat renaming le_refl->zf4z
namespace Go.Abs.Q
open Go.Proofs
attribute [local simp] D3 D6 fin H4 G2
def B9 {α:Type} (g:α->Int):List α->Int
 | []=>0
 |a::l=>if g a≠0 then g a else B9 g l
theorem Dz {α:Type} {g:α->Int}:∀{l:List α},B9 g l=0->∀a∈l,g a=0
 | [],_,a,ha=>by cases ha
 |b::l,h,a,ha=>by
  simp only[B9]at h;by_cases hb:g b=0
  .rw[if_neg (by simp[hb])]at h;rcases zf5z.1 ha with rfl|ha
   .exact hb
   .exact Dz h a ha
  .rw[if_pos hb]at h;exact absurd h hb
mutual
def Jp:Tm->Int
 | .mk k nm s _ l=>if k=1\/s≠0 then 10 else if K4 nm=false then 2 else Hh l
def Hh:List Tm->Int
 | []=>0
 |t::l=>if Jp t≠0 then Jp t else Hh l
end
def HI (t:Tm):Int:=if Az t≠0 then Az t else Jp t
def DT (t:Tm):Int:=if HI t≠0 then HI t else if 40<t.size then 3 else 0
theorem Do {k:Int} {nm:Q1} {s:Int} {m:W8} {l:Hm} (h:N0 (.mk k nm s m l)=0):Aj k s nm l.length=0/\W4 l=0:=by
 have e:N0 (.mk k nm s m l)=if Aj k s nm l.length≠0 then Aj k s nm l.length else W4 l:=rfl
 rw[e]at h;by_cases hz:Aj k s nm l.length=0
 .rw[if_neg (by simp[hz])]at h;exact⟨hz,h⟩
 .rw[if_pos hz]at h;exact absurd h hz
theorem Y3:∀{l:Hm},W4 l=0->∀t∈l,N0 t=0
 | [],_,t,ht=>by cases ht
 |b::l,h,t,ht=>by
  simp only[W4]at h;by_cases hb:N0 b=0
  .rw[if_neg (by simp[hb])]at h;rcases zf5z.1 ht with rfl|ht
   .exact hb
   .exact Y3 h t ht
  .rw[if_pos hb]at h;exact absurd h hb
theorem Iv {k s:Int} {nm:Q1} {n:Nat} (h:Aj k s nm n=0):j9 nm=true/\(k=1\/k=2->n=0)/\(k=1\/k=2\/k=3)/\n<=8:=by
 unfold Aj at h;split at h
 .omega
 .rename_i hb;split at h
  .omega
  .rename_i hn;split at h
   .omega
   .exact⟨by simpa using hn,by omega,by omega,by omega⟩
theorem WA {s:Q1} (h:j9 s=true):s.size<=24:=(KI h).2.1
theorem br (m:W8) (kids:Hm) (IH:∀t∈kids,pc Q AP [H2 t]=some (.int .i64 (Jp t))) (C4:kids.length<=1099511627776)
  (fr:Fr) (h:AH) (hl:fr.length=31) (h19:A2 fr 19=sl m 4 (D0 kids)) (h20:A2 fr 20=.int .i64 kids.length) (h21:A2 fr 21=.int .i64 0) :
  C3 (lp (A4 (M3 Q) (B8 AP) BK) (fr,h)) λe fr' h'=>Kp BK.wr fr fr'/\(e=.exit 0/\Hh kids=0\/e=.ret/\A2 fr' 2=.int .i64 (Hh kids)):=by
 refine C1 rfl fr (λn fr h'=>∃(i:Nat),i+n=kids.length/\A2 fr 21=.int .i64 (i:Nat)/\Hh (kids.drop i)=Hh kids) ?_ kids.length h ⟨0,by omega,h21,rfl⟩;rintro J Φ hJ hΦ n E3 U1 K ⟨i,hi,k21,hr⟩;have A6:=K.1.trans hl;have k19:=C0 K 19 h19;have k20:=C0 K 20 h20;by_cases A9:i<kids.length
 .have hx:=Eh A9;have hw:=C8 i (by omega);have hI:=IH kids[i] (zf2z A9);rw[zf0z A9]at hr;simp only[Hh]at hr;generalize kids[i]=t at *
  obtain⟨tk,tn,ts,tm,tl⟩:=t;simp only[H2]at hI hx;generalize Jp (.mk tk tn ts tm tl)=e at *
  by_cases hz:e=0
  .rw[if_neg (by simp[hz])]at hr;simp[BK,A6,k19,k20,k21,A9,hx,hI,hw,hz];exact F7 hJ ⟨i+1,by omega,by simp[A6],hr⟩
  .rw[if_pos hz]at hr;simp[BK,A6,k19,k20,k21,A9,hx,hI,hw,hz];exact hΦ _ _ _ (.inr ⟨rfl,by simp[A6,hr]⟩)
 .rw[zf1z (by omega)]at hr;simp[BK,A6,k19,k20,k21,A9];exact hΦ _ _ _ (.inl ⟨rfl,hr.symm⟩)
theorem jc:∀(n:Nat) (t:Tm),t.size<=n->t.size<=1099511627776->N0 t=0->pc Q AP [H2 t]=some (.int .i64 (Jp t)):=by
 intro n
 induction n with
 |zero=>intro t h;have:=t.size_pos;omega
 |succ n ih =>
  intro t hn hb S6;obtain⟨k,nm,s,m,kids⟩:=t;have K3:Tm.size (.mk k nm s m kids)=1+Tm.sizes kids:=rfl;have C4:=Tm.length_le kids;obtain⟨hne1,hne2⟩:=Do S6;have hnb:=(Iv hne1).1;have hN:=Gc nm (by have:=WA hnb;omega);have hnE:Jp (.mk k nm s m kids)=if k=1\/s≠0 then 10 else if K4 nm=false then 2 else Hh kids:=rfl
  have IQ:=br m kids (λt ht=>ih t (by have:=Tm.size_le ht;omega) (by have:=Tm.size_le ht;omega) (Y3 hne2 t ht)) (by omega);refine Zq PB rfl (by simp[Bf]) λfr hl ha=>?_;have h0:=ha 0;clear ha ih;simp[Bf,H2]at hl h0;generalize Jp (.mk k nm s m kids)=v at *
  by_cases hk:k=1
  .rw[if_pos (.inl hk)]at hnE;subst hnE;simp[Bf,hl,h0,A7 hk]
  by_cases hs:s=0
  .rw[if_neg (by simp[hk,hs])]at hnE;cases hn:K4 nm with
   |false =>
    rw[hn]at hN;rw[if_pos hn]at hnE;subst hnE;simp[Bf,hl,h0,A0 hk,A7 hs,hN]
   |true =>
    rw[hn]at hN;rw[if_neg (by simp[hn])]at hnE;simp[Bf,hl,h0,A0 hk,A7 hs,hN];refine C3.mono (IQ _ _ ?_ ?_ ?_ ?_) ?_<;>first|(simp[hl];done)|skip
    rintro e E3 h1 ⟨K,⟨rfl,hz⟩|⟨rfl,k2⟩⟩
    .have A6:E3.length=31:=K.1.trans (by simp[hl]);simp[A6,hnE,hz]
    .simp[k2,hnE]
  .rw[if_pos (.inr hs)]at hnE;subst hnE;simp[Bf,hl,h0,A0 hk,A0 hs]
theorem Tj (B:C6) (m:W8) (kids:Hm) (hB:∃a b c,B=[a,b,c,sl m 4 (D0 kids)]) (IH:∀t∈kids,pc Q BO [H2 t]=some (.int .i64 (Jp t))) (C4:kids.length<=1099511627776)
  (fr:Fr) (h:AH) (hh:h=⟨[B],[]⟩) (hl:fr.length=33) (h1:A2 fr 1=.ptr 0 0) (h3:A2 fr 3=.int .i64 0) :
  C3 (lp (A4 (M3 Q) (B8 BO) CE) (fr,h)) λe fr' h'=>Kp CE.wr fr fr'/\(e=.exit 0/\Hh kids=0\/e=.ret/\A2 fr' 2=.int .i64 (Hh kids)):=by
 obtain⟨b0,b1,b2,rfl⟩:=hB;refine C1 rfl fr (λn fr h'=>∃(i:Nat),i+n=kids.length/\A2 fr 3=.int .i64 (i:Nat)/\h'=⟨[[b0,b1,b2,sl m 4 (D0 kids)]],[]⟩/\Hh (kids.drop i)=Hh kids) ?_ kids.length h ⟨0,by omega,h3,hh,rfl⟩;rintro J Φ hJ hΦ n E3 U1 K ⟨i,hi,k3,rfl,hr⟩;have A6:=K.1.trans hl;have k1:=C0 K 1 h1;by_cases A9:i<kids.length
 .have hx:=Eh A9;have hw:=C8 i (by omega);have hI:=IH kids[i] (zf2z A9);rw[zf0z A9]at hr;simp only[Hh]at hr;generalize kids[i]=t at *
  obtain⟨tk,tn,ts,tm,tl⟩:=t;simp only[H2]at hI hx;generalize Jp (.mk tk tn ts tm tl)=e at *
  by_cases hz:e=0
  .rw[if_neg (by simp[hz])]at hr;simp[CE,A6,k1,k3,A9,hx,hI,hw,hz];exact F7 hJ ⟨i+1,by omega,by simp[A6],rfl,hr⟩
  .rw[if_pos hz]at hr;simp[CE,A6,k1,k3,A9,hx,hI,hw,hz];exact hΦ _ _ _ (.inr ⟨rfl,by simp[A6,hr]⟩)
 .rw[zf1z (by omega)]at hr;simp[CE,A6,k1,k3,A9];exact hΦ _ _ _ (.inl ⟨rfl,hr.symm⟩)
theorem ZK:∀(n:Nat) (t:Tm),t.size<=n->t.size<=1099511627776->pc Q BO [H2 t]=some (.int .i64 (Jp t)):=by
 intro n
 induction n with
 |zero=>intro t h;have:=t.size_pos;omega
 |succ n ih =>
  intro t hn hb;obtain⟨k,nm,s,m,kids⟩:=t;have K3:Tm.size (.mk k nm s m kids)=1+Tm.sizes kids:=rfl;have C4:=Tm.length_le kids;have hN:=El nm;have hnE:Jp (.mk k nm s m kids)=if k=1\/s≠0 then 10 else if K4 nm=false then 2 else Hh kids:=rfl
  have IQ:=Tj [.int .i64 k,.str nm,.int .i64 s,sl m 4 (D0 kids)] m kids ⟨_,_,_,rfl⟩ (λt ht=>ih t (by have:=Tm.size_le ht;omega) (by have:=Tm.size_le ht;omega)) (by omega);refine Zq Pp rfl (by simp[Cm]) λfr hl ha=>?_;have h0:=ha 0;clear ha ih;simp[Cm,H2]at hl h0;generalize Jp (.mk k nm s m kids)=v at *
  by_cases hk:k=1
  .rw[if_pos (.inl hk)]at hnE;subst hnE;simp[Cm,hl,h0,A7 hk]
  by_cases hs:s=0
  .rw[if_neg (by simp[hk,hs])]at hnE;cases hn:K4 nm with
   |false =>
    rw[hn]at hN;rw[if_pos hn]at hnE;subst hnE;simp[Cm,hl,h0,A0 hk,A7 hs,hN]
   |true =>
    rw[hn]at hN;rw[if_neg (by simp[hn])]at hnE;simp[Cm,hl,h0,A0 hk,A7 hs,hN];refine C3.mono (IQ _ _ ?_ ?_ ?_ ?_) ?_<;>first|(simp[hl,hs];done)|skip
    rintro e E3 h1 ⟨K,⟨rfl,hz⟩|⟨rfl,k2⟩⟩
    .have A6:E3.length=33:=K.1.trans (by simp[hl]);simp[A6,hnE,hz]
    .simp[k2,hnE]
  .rw[if_pos (.inr hs)]at hnE;subst hnE;simp[Cm,hl,h0,A0 hk,A0 hs]
theorem WL (t:Tm) (hb:t.size<=1099511627776):pc Q Cu [H2 t]=some (.int .i64 (HI t)):=by
 have hV:=Lg t hb;have hR:=λh=>jc _ t (zf4z _) hb h;have hz:Az t=0->N0 t=0:=by
  unfold Az;split
  .rename_i h;exact λk=>absurd k h
  .rename_i h;exact λ_=>by simpa using h
 refine BN DC λfr hl h0=>?_;have hv:HI t=if Az t≠0 then Az t else Jp t:=rfl
 generalize HI t=v at *
 generalize Az t=w at *
 generalize Jp t=y at *
 generalize N0 t=z at *
 obtain⟨k,nm,s,m,kids⟩:=t;simp[DC,H2]at hl h0 hV hR;by_cases hw:w=0
 .subst hw;rw[if_neg (by simp)]at hv;subst hv;have hR':=hR (hz rfl);simp[DC,hl,h0,hV,hR']
 .rw[if_pos hw]at hv;subst hv;simp[DC,hl,h0,hV,hw]
theorem ZJ (t:Tm) (hb:t.size<=1099511627776):pc Q Hf [H2 t]=some (.int .i64 (HI t)):=by
 have hV:=NH t hb;have hR:=ZK _ t (zf4z _) hb;refine BN Hj λfr hl h0=>?_;have hv:HI t=if Az t≠0 then Az t else Jp t:=rfl
 generalize HI t=v at *
 generalize Az t=w at *
 generalize Jp t=y at *
 obtain⟨k,nm,s,m,kids⟩:=t;simp[Hj,H2]at hl h0 hV hR;by_cases hw:w=0
 .subst hw;rw[if_neg (by simp)]at hv;subst hv;simp[Hj,hl,h0,hV,hR]
 .rw[if_pos hw]at hv;subst hv;simp[Hj,hl,h0,hV,hw]
theorem Oj (t:Tm) (hb:t.size<=1099511627776):pc Q l8 [H2 t]=some (.int .i64 (DT t)):=by
 have hV:=WL t hb;have hS:=Rt _ t (zf4z _) hb;refine BN BJ λfr hl h0=>?_;have hv:DT t=if HI t≠0 then HI t else if 40<t.size then 3 else 0:=rfl
 generalize DT t=v at *
 generalize HI t=w at *
 generalize t.size=z at *
 obtain⟨k,nm,s,m,kids⟩:=t;simp[BJ,H2]at hl h0 hV hS;by_cases hw:w=0
 .subst hw;rw[if_neg (by simp)]at hv;by_cases h4:(40:Int)<(z:Int)
  .rw[if_pos (by omega)]at hv;subst hv;simp[BJ,hl,h0,hV,hS,A7 h4]
  .rw[if_neg (by omega)]at hv;subst hv;simp[BJ,hl,h0,hV,hS,A0 h4]
 .rw[if_pos hw]at hv;subst hv;simp[BJ,hl,h0,hV,hw]
theorem KZ (t:Tm) (hb:t.size<=1099511627776):pc Q v8 [H2 t]=some (.int .i64 (DT t)):=by
 have hV:=ZJ t hb;have hS:=Iz _ t (zf4z _) hb;refine BN Bq λfr hl h0=>?_;have hv:DT t=if HI t≠0 then HI t else if 40<t.size then 3 else 0:=rfl
 generalize DT t=v at *
 generalize HI t=w at *
 generalize t.size=z at *
 obtain⟨k,nm,s,m,kids⟩:=t;simp[Bq,H2]at hl h0 hV hS;by_cases hw:w=0
 .subst hw;rw[if_neg (by simp)]at hv;by_cases h4:(40:Int)<(z:Int)
  .rw[if_pos (by omega)]at hv;subst hv;simp[Bq,hl,h0,hV,hS,A7 h4]
  .rw[if_neg (by omega)]at hv;subst hv;simp[Bq,hl,h0,hV,hS,A0 h4]
 .rw[if_pos hw]at hv;subst hv;simp[Bq,hl,h0,hV,hw]
structure Gol where
 kind:Int
 role:ByteArray
 wth:ByteArray
 dm:Bool×Bool
 data:List Tm
 line:Int
def Bz (g:Gol):AV:=.agg [.int .i64 g.kind,.str g.role,.str g.wth,sl g.dm 4 (D0 g.data),.int .i64 g.line]
def HX (g:Gol):Bool:=decide (g.kind=2)||decide (g.kind=3)
def GY (g:Gol):Int :=
 if g.kind<1\/5<g.kind then 10 else if K4 g.role=false\/HX g=true/\K4 g.wth=false then 2 else if HX g=false/\g.wth≠bs []then 1
 else if g.data.length<1\/4<g.data.length\/HX g=false/\1<g.data.length then 6 else B9 DT g.data
theorem Ru (g:Gol):pc Q Q5 [Bz g]=some (.bool (HX g)):=by
 refine BN Be λfr hl h0=>?_;simp[Be,Bz]at hl h0;unfold HX;by_cases h2:g.kind=2
 .simp[Be,hl,h0,A7 h2]
 .simp[Be,hl,h0,A0 h2]
theorem NI (g:Gol):pc Q Z3 [Bz g]=some (.bool (HX g)):=by
 refine BN CR λfr hl h0=>?_;simp[CR,Bz]at hl h0;unfold HX;by_cases h2:g.kind=2
 .simp[CR,hl,h0,A7 h2]
 .simp[CR,hl,h0,A0 h2]
theorem Yg (m:W8) (kids:Hm) (IH:∀t∈kids,pc Q l8 [H2 t]=some (.int .i64 (DT t))) (C4:kids.length<=1099511627776)
  (fr:Fr) (h:AH) (hl:fr.length=76) (h19:A2 fr 64=sl m 4 (D0 kids)) (h20:A2 fr 65=.int .i64 kids.length) (h21:A2 fr 66=.int .i64 0) :
  C3 (lp (A4 (M3 Q) (B8 DU) z8) (fr,h)) λe fr' h'=>Kp z8.wr fr fr'/\(e=.exit 1/\B9 DT kids=0\/e=.ret/\A2 fr' 2=.int .i64 (B9 DT kids)):=by
 refine C1 rfl fr (λn fr h'=>∃(i:Nat),i+n=kids.length/\A2 fr 66=.int .i64 (i:Nat)/\B9 DT (kids.drop i)=B9 DT kids) ?_ kids.length h ⟨0,by omega,h21,rfl⟩;rintro J Φ hJ hΦ n E3 U1 K ⟨i,hi,k21,hr⟩;have A6:=K.1.trans hl;have k19:=C0 K 64 h19;have k20:=C0 K 65 h20;by_cases A9:i<kids.length
 .have hx:=Eh A9;have hw:=C8 i (by omega);have hI:=IH kids[i] (zf2z A9);rw[zf0z A9]at hr;simp only[B9]at hr;generalize kids[i]=t at *
  generalize DT t=e at *
  obtain⟨tk,tn,ts,tm,tl⟩:=t;simp only[H2]at hI hx;by_cases hz:e=0
  .rw[if_neg (by simp[hz])]at hr;simp[z8,A6,k19,k20,k21,A9,hx,hI,hw,hz];exact F7 hJ ⟨i+1,by omega,by simp[A6],hr⟩
  .rw[if_pos hz]at hr;simp[z8,A6,k19,k20,k21,A9,hx,hI,hw,hz];exact hΦ _ _ _ (.inr ⟨rfl,by simp[A6,hr]⟩)
 .rw[zf1z (by omega)]at hr;simp[z8,A6,k19,k20,k21,A9];exact hΦ _ _ _ (.inl ⟨rfl,hr.symm⟩)
theorem Rh (B:C6) (m:W8) (kids:Hm) (hB:∃a b c d,B=[a,b,c,sl m 4 (D0 kids),d]) (IH:∀t∈kids,pc Q v8 [H2 t]=some (.int .i64 (DT t))) (C4:kids.length<=1099511627776)
  (fr:Fr) (h:AH) (hh:h=⟨[B],[]⟩) (hl:fr.length=72) (h1:A2 fr 1=.ptr 0 0) (h3:A2 fr 3=.int .i64 0) :
  C3 (lp (A4 (M3 Q) (B8 Ed) BE) (fr,h)) λe fr' h'=>Kp BE.wr fr fr'/\(e=.exit 0/\B9 DT kids=0\/e=.ret/\A2 fr' 2=.int .i64 (B9 DT kids)):=by
 obtain⟨b0,b1,b2,b3,rfl⟩:=hB;refine C1 rfl fr (λn fr h'=>∃(i:Nat),i+n=kids.length/\A2 fr 3=.int .i64 (i:Nat)/\h'=⟨[[b0,b1,b2,sl m 4 (D0 kids),b3]],[]⟩/\B9 DT (kids.drop i)=B9 DT kids) ?_ kids.length h ⟨0,by omega,h3,hh,rfl⟩;rintro J Φ hJ hΦ n E3 U1 K ⟨i,hi,k3,rfl,hr⟩;have A6:=K.1.trans hl;have k1:=C0 K 1 h1;by_cases A9:i<kids.length
 .have hx:=Eh A9;have hw:=C8 i (by omega);have hI:=IH kids[i] (zf2z A9);rw[zf0z A9]at hr;simp only[B9]at hr;generalize kids[i]=t at *
  generalize DT t=e at *
  obtain⟨tk,tn,ts,tm,tl⟩:=t;simp only[H2]at hI hx;by_cases hz:e=0
  .rw[if_neg (by simp[hz])]at hr;simp[BE,A6,k1,k3,A9,hx,hI,hw,hz];exact F7 hJ ⟨i+1,by omega,by simp[A6],rfl,hr⟩
  .rw[if_pos hz]at hr;simp[BE,A6,k1,k3,A9,hx,hI,hw,hz];exact hΦ _ _ _ (.inr ⟨rfl,by simp[A6,hr]⟩)
 .rw[zf1z (by omega)]at hr;simp[BE,A6,k1,k3,A9];exact hΦ _ _ _ (.inl ⟨rfl,hr.symm⟩)
theorem WN (g:Gol) (hr:g.role.size<=1099511627776) (hw:g.wth.size<=1099511627776) (hd:Tm.sizes g.data<=1099511627776):pc Q DU [Bz g]=some (.int .i64 (GY g)):=by
 have hA:=Ru g;have hR:=Gc g.role hr;have hW:=Gc g.wth hw;have C4:=Tm.length_le g.data;have IQ:=Yg g.dm g.data (λt ht=>Oj t (by have:=Tm.size_le ht;omega)) (by omega);refine BN N7 λfr hl h0=>?_;have hv:GY g=if g.kind<1\/5<g.kind then 10 else if K4 g.role=false\/HX g=true/\K4 g.wth=false then 2 else if HX g=false/\g.wth≠bs []then 1
  else if g.data.length<1\/4<g.data.length\/HX g=false/\1<g.data.length then 6 else B9 DT g.data:=rfl
 generalize GY g=v at *
 obtain⟨k,r,w,m,d,ln⟩:=g;simp only[Bz]at *
 generalize HX ⟨k,r,w,m,d,ln⟩=ag at *
 generalize K4 r=rb at *
 generalize K4 w=wb at *
 generalize B9 DT d=fe at *
 simp[N7]at hl h0;by_cases c1:k<1
 .rw[if_pos (.inl c1)]at hv;subst hv;simp[N7,hl,h0,A7 c1]
 by_cases c2:5<k
 .rw[if_pos (.inr c2)]at hv;subst hv;simp[N7,hl,h0,A0 c1,A7 c2]
 rw[if_neg (by omega)]at hv;cases rb with
 |false =>
  rw[if_pos (.inl rfl)]at hv;subst hv;simp[N7,hl,h0,A0 c1,A0 c2,hR]
 |true =>
  have eW:decide (w.toList=(bs []).toList)=decide (w=bs []):=Bc _ _;cases ag with
  |true =>
   cases wb with
   |false =>
    rw[if_pos (.inr ⟨rfl,rfl⟩)]at hv;subst hv;simp[N7,hl,h0,A0 c1,A0 c2,hR,hA,hW]
   |true =>
    rw[if_neg (by simp),if_neg (by simp)]at hv;by_cases n1:(d.length:Int)<1
    .rw[if_pos (.inl (by omega))]at hv;subst hv;simp[N7,hl,h0,A0 c1,A0 c2,hR,hA,hW,A7 n1]
    .by_cases n4:(4:Int)<(d.length:Int)
     .rw[if_pos (.inr (.inl (by omega)))]at hv;subst hv;simp[N7,hl,h0,A0 c1,A0 c2,hR,hA,hW,A0 n1,A7 n4]
     .rw[if_neg (by rintro(q|q|q);omega;omega;simp at q)]at hv;simp[N7,hl,h0,A0 c1,A0 c2,hR,hA,hW,A0 n1,A0 n4];refine C3.mono (IQ _ _ ?_ ?_ ?_ ?_) ?_<;>first|(simp[hl];done)|skip
      rintro e E3 h1 ⟨K,⟨rfl,hz⟩|⟨rfl,k2⟩⟩
      .have A6:E3.length=76:=K.1.trans (by simp[hl]);simp[A6,hv,hz]
      .simp[k2,hv]
  |false =>
   rw[if_neg (by simp)]at hv;by_cases cw:w=bs []
   .rw[if_neg (by simp[cw])]at hv;by_cases n1:(d.length:Int)=1
    .rw[if_neg (by rintro(q|q|q);omega;omega;omega)]at hv;simp[N7,hl,h0,A0 c1,A0 c2,hR,hA,eW,A7 cw,A7 n1];refine C3.mono (IQ _ _ ?_ ?_ ?_ ?_) ?_<;>first|(simp[hl];done)|skip
     rintro e E3 h1 ⟨K,⟨rfl,hz⟩|⟨rfl,k2⟩⟩
     .have A6:E3.length=76:=K.1.trans (by simp[hl]);simp[A6,hv,hz]
     .simp[k2,hv]
    .rw[if_pos (by
      by_cases q:d.length<1
      .exact .inl q
      .exact .inr (.inr ⟨rfl,by omega⟩))]at hv
     subst hv;simp[N7,hl,h0,A0 c1,A0 c2,hR,hA,eW,A7 cw,A0 n1]
   .rw[if_pos ⟨rfl,cw⟩]at hv;subst hv;simp[N7,hl,h0,A0 c1,A0 c2,hR,hA,eW,A0 cw]
theorem WM (g:Gol) (hd:Tm.sizes g.data<=1099511627776):pc Q Ed [Bz g]=some (.int .i64 (GY g)):=by
 have hA:=NI g;have hR:=El g.role;have hW:=El g.wth;have C4:=Tm.length_le g.data;have IQ:=Rh [.int .i64 g.kind,.str g.role,.str g.wth,sl g.dm 4 (D0 g.data),.int .i64 g.line] g.dm g.data ⟨_,_,_,_,rfl⟩ (λt ht=>KZ t (by have:=Tm.size_le ht;omega)) (by omega);refine BN M2 λfr hl h0=>?_;have hv:GY g=if g.kind<1\/5<g.kind then 10 else if K4 g.role=false\/HX g=true/\K4 g.wth=false then 2 else if HX g=false/\g.wth≠bs []then 1
  else if g.data.length<1\/4<g.data.length\/HX g=false/\1<g.data.length then 6 else B9 DT g.data:=rfl
 generalize GY g=v at *
 obtain⟨k,r,w,m,d,ln⟩:=g;simp only[Bz]at *
 generalize HX ⟨k,r,w,m,d,ln⟩=ag at *
 generalize K4 r=rb at *
 generalize K4 w=wb at *
 generalize B9 DT d=fe at *
 simp[M2]at hl h0;by_cases c1:k<1
 .rw[if_pos (.inl c1)]at hv;subst hv;simp[M2,hl,h0,A7 c1]
 by_cases c2:5<k
 .rw[if_pos (.inr c2)]at hv;subst hv;simp[M2,hl,h0,A0 c1,A7 c2]
 rw[if_neg (by omega)]at hv;cases rb with
 |false =>
  rw[if_pos (.inl rfl)]at hv;subst hv;simp[M2,hl,h0,A0 c1,A0 c2,hR]
 |true =>
  have eW:decide (w.toList=(bs []).toList)=decide (w=bs []):=Bc _ _;cases ag with
  |true =>
   cases wb with
   |false =>
    rw[if_pos (.inr ⟨rfl,rfl⟩)]at hv;subst hv;simp[M2,hl,h0,A0 c1,A0 c2,hR,hA,hW]
   |true =>
    rw[if_neg (by simp),if_neg (by simp)]at hv;by_cases n1:(d.length:Int)<1
    .rw[if_pos (.inl (by omega))]at hv;subst hv;simp[M2,hl,h0,A0 c1,A0 c2,hR,hA,hW,A7 n1]
    .by_cases n4:(4:Int)<(d.length:Int)
     .rw[if_pos (.inr (.inl (by omega)))]at hv;subst hv;simp[M2,hl,h0,A0 c1,A0 c2,hR,hA,hW,A0 n1,A7 n4]
     .rw[if_neg (by rintro(q|q|q);omega;omega;simp at q)]at hv;simp[M2,hl,h0,A0 c1,A0 c2,hR,hA,hW,A0 n1,A0 n4];refine C3.mono (IQ _ _ rfl ?_ ?_ ?_) ?_<;>first|(simp[hl];done)|skip
      rintro e E3 h1 ⟨K,⟨rfl,hz⟩|⟨rfl,k2⟩⟩
      .have A6:E3.length=72:=K.1.trans (by simp[hl]);simp[A6,hv,hz]
      .simp[k2,hv]
  |false =>
   rw[if_neg (by simp)]at hv;by_cases cw:w=bs []
   .rw[if_neg (by simp[cw])]at hv;by_cases n1:(d.length:Int)<1
    .rw[if_pos (.inl (by omega))]at hv;subst hv;simp[M2,hl,h0,A0 c1,A0 c2,hR,hA,eW,A7 cw,A7 n1]
    .by_cases n4:(4:Int)<(d.length:Int)
     .rw[if_pos (.inr (.inl (by omega)))]at hv;subst hv;simp[M2,hl,h0,A0 c1,A0 c2,hR,hA,eW,A7 cw,A0 n1,A7 n4]
     .by_cases n2:(1:Int)<(d.length:Int)
      .rw[if_pos (.inr (.inr ⟨rfl,by omega⟩))]at hv;subst hv;simp[M2,hl,h0,A0 c1,A0 c2,hR,hA,eW,A7 cw,A0 n1,A0 n4,A7 n2]
      .rw[if_neg (by rintro(q|q|q);omega;omega;omega)]at hv;simp[M2,hl,h0,A0 c1,A0 c2,hR,hA,eW,A7 cw,A0 n1,A0 n4,A0 n2];refine C3.mono (IQ _ _ ?_ ?_ ?_ ?_) ?_<;>first|(simp[hl,cw];done)|skip
       rintro e E3 h1 ⟨K,⟨rfl,hz⟩|⟨rfl,k2⟩⟩
       .have A6:E3.length=72:=K.1.trans (by simp[hl]);simp[A6,hv,hz]
       .simp[k2,hv]
   .rw[if_pos ⟨rfl,cw⟩]at hv;subst hv;simp[M2,hl,h0,A0 c1,A0 c2,hR,hA,eW,A0 cw]
theorem IY (s:Q1) (hs:s.size<=1099511627776):pc Q I7 [.str s]=some (.bool (!K4 s)):=by
 have hN:=Gc s hs;refine BN HU λfr hl h0=>?_;simp[HU]at hl h0;simp[HU,hl,h0,hN]
def Eo (s:ByteArray):Bool:=!K4 s
theorem OW (m:W8) (l:List ByteArray) (hs:∀s∈l,s.size<=1099511627776) (C4:l.length<=1099511627776) (fr:Fr) (h:AH) (hl:fr.length=19)
  (h0:A2 fr 0=sl m 1 (l.map AV.str)) (h1:A2 fr 1=.fn I7 []) (h7:A2 fr 7=.int .i64 l.length) (h8:A2 fr 8=.int .i64 0) :
  C3 (lp (A4 (M3 Q) (B8 J6) H8) (fr,h)) λe fr' h'=>Kp H8.wr fr fr'/\(e=.exit 0/\idx Eo l=-1\/e=.ret/\A2 fr' 4=.int .i64 (idx Eo l)):=by
 refine C1 rfl fr (λn fr h=>∃i,i+n=l.length/\A2 fr 8=.int .i64 (i:Nat)/\i6 Eo i (l.drop i)=idx Eo l) ?_ l.length h ⟨0,by omega,h8,rfl⟩;rintro J Φ hJ hΦ n E3 U1 K ⟨i,hi,k8,hr⟩;have A6:=K.1.trans hl;have k0:=C0 K 0 h0;have k1:=C0 K 1 h1;have k7:=C0 K 7 h7;by_cases A9:i<l.length
 .have hx:=D5 (f:=AV.str) (zf3z A9);have hw:=C8 i (by omega);have hW:=IY l[i] (hs _ (zf2z A9));rw[zf0z A9]at hr;simp only[i6]at hr;generalize l[i]=a at *
  have hwe:Eo a=!K4 a:=rfl;rw[←hwe]at hW;generalize Eo a=b at *
  cases b with
  |true =>
   rw[if_pos rfl]at hr;simp[H8,A6,k0,k1,k7,k8,A9,hx,hw,hW];exact hΦ _ _ _ (.inr ⟨rfl,by simp[A6];exact hr⟩)
  |false =>
   rw[if_neg (by simp)]at hr;simp[H8,A6,k0,k1,k7,k8,A9,hx,hw,hW];exact F7 hJ ⟨i+1,by omega,by simp[A6],hr⟩
 .rw[zf1z (by omega)]at hr;simp[H8,A6,k7,k8,A9];exact hΦ _ _ _ (.inl ⟨rfl,hr.symm⟩)
theorem Pi (m:W8) (l:List ByteArray) (hs:∀s∈l,s.size<=1099511627776) (C4:l.length<=1099511627776):pc Q J6 [EL m l,.fn I7 []]=some (.int .i64 (idx Eo l)):=by
 refine Ez u6 λfr hl h0 h1=>?_;simp[u6,EL]at hl h0 h1;simp[u6,hl,h0];refine(OW m l hs C4 _ _ (by simp[hl]) (by simp[hl,h0]) (by simp[hl,h1]) (by simp[hl]) (by simp[hl])).mono ?_;rintro e fr' h' ⟨K,⟨rfl,he⟩|⟨rfl,h4⟩⟩
 .have hl':fr'.length=19:=K.1.trans (by simp[hl]);simp[hl',he]
 .simp[h4]
theorem Lb (m:W8) (l:List ByteArray) (hs:∀s∈l,s.size<=1099511627776) (C4:l.length<=1099511627776):pc Q K7 [EL m l,.fn I7 []]=some (.bool (l.any Eo)):=by
 have hI:=Pi m l hs C4;have he:decide (0<=idx Eo l)=l.any Eo:=by
  rw[Bool.eq_iff_iff,decide_eq_true_iff,idx,FF]
 refine Ez b9 λfr hl h0 h1=>?_;simp[b9,EL]at hl h0 h1 hI;simp[b9,hl,h0,h1,hI];exact he
theorem Vo (m:W8) (l:List ByteArray) (C4:l.length<=1099511627776) (fr:Fr) (h:AH) (hl:fr.length=16) (h0:A2 fr 0=sl m 1 (l.map AV.str)) (h3:A2 fr 3=.int .i64 0) :
  C3 (lp (A4 (M3 Q) (B8 V9) x7) (fr,h)) λe fr' h'=>Kp x7.wr fr fr'/\(e=.exit 0/\l.any Eo=false\/e=.ret/\A2 fr' 2=.bool false/\l.any Eo=true):=by
 refine C1 rfl fr (λn fr h=>∃i,i+n=l.length/\A2 fr 3=.int .i64 (i:Nat)/\(l.drop i).any Eo=l.any Eo) ?_ l.length h ⟨0,by omega,h3,rfl⟩;rintro J Φ hJ hΦ n E3 U1 K ⟨i,hi,k3,hr⟩;have A6:=K.1.trans hl;have k0:=C0 K 0 h0;by_cases A9:i<l.length
 .have hx:=D5 (f:=AV.str) (zf3z A9);have hw:=C8 i (by omega);have hN:=El l[i];rw[zf0z A9,List.any_cons]at hr;generalize l[i]=a at *
  have hwe:Eo a=!K4 a:=rfl;rw[hwe]at hr;generalize K4 a=b at *
  generalize hq:l.any Eo=q at *
  cases b with
  |false =>
   simp[x7,A6,k0,k3,A9,hx,hw,hN];exact hΦ _ _ _ (.inr ⟨rfl,by simp[A6],by rw[←hr];rfl⟩)
  |true =>
   simp only[Bool.not_true,Bool.false_or]at hr;simp[x7,A6,k0,k3,A9,hx,hw,hN];exact F7 hJ ⟨i+1,by omega,by simp[A6],hr⟩
 .rw[zf1z (by omega)]at hr;simp[x7,A6,k0,k3,A9];exact hΦ _ _ _ (.inl ⟨rfl,hr.symm⟩)
theorem Ol (m:W8) (l:List ByteArray) (C4:l.length<=1099511627776):pc Q V9 [EL m l]=some (.bool (!l.any Eo)):=by
 refine BN IE λfr hl h0=>?_;simp[IE,EL]at hl h0;have IQ:=Vo m l C4;generalize l.any Eo=b at *
 simp[IE,hl];refine(IQ _ _ (by simp[hl]) (by simp[hl,h0]) (by simp[hl])).mono ?_;rintro e fr' h' ⟨K,⟨rfl,he⟩|⟨rfl,h2,he⟩⟩
 .have hl':fr'.length=16:=K.1.trans (by simp[hl]);simp[hl',he]
 .simp[h2,he]
structure Fre where
 role:ByteArray
 name:ByteArray
 sort:Int
def Hp (f:Fre):AV:=.agg [.str f.role,.str f.name,.int .i64 f.sort]
structure Ste where
 frm:ByteArray
 to:ByteArray
 msg:Tm
 line:Int
def P3 (s:Ste):AV:=.agg ([.str s.frm,.str s.to]++(H2 s.msg).cells++[.int .i64 s.line])
structure Nar where
 name:ByteArray
 rm:Bool×Bool
 roles:List ByteArray
 fm:Bool×Bool
 fresh:List Fre
 tm:Bool×Bool
 tags:List ByteArray
 sm:Bool×Bool
 steps:List Ste
 gm:Bool×Bool
 goals:List Gol
def D1 (n:Nar):AV:=.agg [.str n.name,sl n.rm 1 (n.roles.map .str),sl n.fm 3 (n.fresh.map Hp),sl n.tm 1 (n.tags.map .str),sl n.sm 7 (n.steps.map P3),sl n.gm 5 (n.goals.map Bz)]
def GW (f:Fre):Int:=if K4 f.role=false\/K4 f.name=false then 2 else if f.sort<2\/4<f.sort then 10 else 0
def FA (s:Ste):Int:=if K4 s.frm=false\/K4 s.to=false then 2 else DT s.msg
def Jk (n:Nar):Int :=
 if n.roles.length<2 then 8 else if 4<n.roles.length\/12<n.fresh.length\/8<n.tags.length then 3 else if n.steps.length=0 then 8 else if 8<n.steps.length\/8<n.goals.length then 3 else 0
def GP (n:Nar):Int :=
 if K4 n.name=false then 2 else if Jk n≠0 then Jk n else if n.roles.any Eo=true then 2 else if B9 GW n.fresh≠0 then B9 GW n.fresh else if n.tags.any Eo=true then 2 else 0
def JN (n:Nar):Int:=if GP n≠0 then GP n else if B9 FA n.steps≠0 then B9 FA n.steps else B9 GY n.goals
structure Fine (n:Nar):Prop where
 name:n.name.size<=1099511627776
 roles:∀s∈n.roles,s.size<=1099511627776
 rolesL:n.roles.length<=1099511627776
 fresh:∀f∈n.fresh,f.role.size<=1099511627776/\f.name.size<=1099511627776
 freshL:n.fresh.length<=1099511627776
 tags:∀s∈n.tags,s.size<=1099511627776
 tagsL:n.tags.length<=1099511627776
 steps:∀s∈n.steps,s.frm.size<=1099511627776/\s.to.size<=1099511627776/\s.msg.size<=1099511627776
 stepsL:n.steps.length<=1099511627776
 goals:∀g∈n.goals,g.role.size<=1099511627776/\g.wth.size<=1099511627776/\Tm.sizes g.data<=1099511627776
 goalsL:n.goals.length<=1099511627776
theorem Yk (m:W8) (l:List Fre) (hs:∀f∈l,f.role.size<=1099511627776/\f.name.size<=1099511627776) (C4:l.length<=1099511627776) (B:C6)
  (fr:Fr) (h:AH) (hh:h=⟨[B],[]⟩) (hl:fr.length=80) (h19:A2 fr 52=sl m 3 (l.map Hp)) (h20:A2 fr 53=.int .i64 l.length) (h21:A2 fr 54=.int .i64 0) :
  C3 (lp (A4 (M3 Q) (B8 DV) Q0) (fr,h)) λe fr' h'=>Kp Q0.wr fr fr'/\(∃bx,h'=⟨B::bx,[]⟩)/\(e=.exit 1/\B9 GW l=0\/e=.ret/\A2 fr' 2=.int .i64 (B9 GW l)/\B9 GW l≠0):=by
 refine C1 rfl fr (λn fr h'=>∃(i:Nat),i+n=l.length/\A2 fr 54=.int .i64 (i:Nat)/\(∃bx,h'=⟨B::bx,[]⟩)/\B9 GW (l.drop i)=B9 GW l) ?_ l.length h ⟨0,by omega,h21,⟨[],hh⟩,rfl⟩;rintro J Φ hJ hΦ n E3 U1 K ⟨i,hi,k21,⟨bx,rfl⟩,hr⟩;have A6:=K.1.trans hl;have k19:=C0 K 52 h19;have k20:=C0 K 53 h20;by_cases A9:i<l.length
 .have hx:=D5 (f:=Hp) (zf3z A9);have hw:=C8 i (by omega);obtain⟨s1,s2⟩:=hs _ (zf2z A9);have hR:=IY l[i].role s1;have hN:=IY l[i].name s2;rw[zf0z A9]at hr;simp only[B9]at hr;generalize l[i]=f at *
  have hfe:GW f=if K4 f.role=false\/K4 f.name=false then 2 else if f.sort<2\/4<f.sort then 10 else 0:=rfl
  generalize GW f=e at *
  obtain⟨r,nm,so⟩:=f;simp only[Hp]at *
  generalize K4 r=rb at *
  generalize K4 nm=nb at *
  generalize B9 GW l=tot at *
  have fin2:e≠0->e=tot:=λq=>by rw[if_pos q]at hr;exact hr
  cases rb with
  |false =>
   rw[if_pos (.inl rfl)]at hfe;have:=fin2 (by omega);simp[Q0,A6,k19,k20,k21,A9,hx,hw,hR];exact hΦ _ _ _ ⟨⟨_,rfl⟩,.inr ⟨rfl,by simp[A6];omega,by omega⟩⟩
  |true =>
   cases nb with
   |false =>
    rw[if_pos (.inr rfl)]at hfe;have:=fin2 (by omega);simp[Q0,A6,k19,k20,k21,A9,hx,hw,hR,hN];exact hΦ _ _ _ ⟨⟨_,rfl⟩,.inr ⟨rfl,by simp[A6];omega,by omega⟩⟩
   |true =>
    rw[if_neg (by simp)]at hfe;by_cases c1:so<2
    .rw[if_pos (.inl c1)]at hfe;have:=fin2 (by omega);simp[Q0,A6,k19,k20,k21,A9,hx,hw,hR,hN,A7 c1];exact hΦ _ _ _ ⟨⟨_,rfl⟩,.inr ⟨rfl,by simp[A6];omega,by omega⟩⟩
    .by_cases c2:4<so
     .rw[if_pos (.inr c2)]at hfe;have:=fin2 (by omega);simp[Q0,A6,k19,k20,k21,A9,hx,hw,hR,hN,A0 c1,A7 c2];exact hΦ _ _ _ ⟨⟨_,rfl⟩,.inr ⟨rfl,by simp[A6];omega,by omega⟩⟩
     .rw[if_neg (by omega)]at hfe;rw[if_neg (by simp[hfe])]at hr;simp[Q0,A6,k19,k20,k21,A9,hx,hw,hR,hN,A0 c1,A0 c2];exact F7 hJ ⟨i+1,by omega,by simp[A6],⟨_,rfl⟩,hr⟩
 .rw[zf1z (by omega)]at hr;simp[Q0,A6,k19,k20,k21,A9];exact hΦ _ _ _ ⟨⟨_,rfl⟩,.inl ⟨rfl,hr.symm⟩⟩
theorem fX (n:Nar) (F:Fine n):pc Q DV [D1 n]=some (.int .i64 (GP n)):=by
 have hN:=IY n.name F.name;have hR:=Lb n.rm n.roles F.roles F.rolesL;have hT:=Lb n.tm n.tags F.tags F.tagsL;have IQ:=Yk n.fm n.fresh F.fresh F.freshL;refine BN N8 λfr hl h0=>?_;have hv:GP n=if K4 n.name=false then 2 else if Jk n≠0 then Jk n else if n.roles.any Eo=true then 2 else if B9 GW n.fresh≠0 then B9 GW n.fresh else if n.tags.any Eo=true then 2 else 0:=rfl
 have hq:Jk n=if n.roles.length<2 then 8 else if 4<n.roles.length\/12<n.fresh.length\/8<n.tags.length then 3 else if n.steps.length=0 then 8 else if 8<n.steps.length\/8<n.goals.length then 3 else 0:=rfl
 generalize GP n=v at *
 generalize Jk n=q at *
 clear F;obtain⟨name,rm,roles,fm,fresh,tm,tags,sm,steps,gm,goals⟩:=n;simp only[D1,EL]at *
 generalize K4 name=nb at *
 generalize roles.any Eo=rb at *
 generalize tags.any Eo=tb at *
 generalize B9 GW fresh=fe at *
 simp[N8]at hl h0;cases nb with
 |false =>
  rw[if_pos rfl]at hv;subst hv;simp[N8,hl,h0,hN]
 |true =>
  rw[if_neg (by simp)]at hv;by_cases c1:(roles.length:Int)<2
  .rw[if_pos (by omega)]at hq;rw[if_pos (by omega)]at hv;subst hv hq;simp[N8,hl,h0,hN,A7 c1]
  rw[if_neg (by omega)]at hq;by_cases c2:(4:Int)<(roles.length:Int)
  .rw[if_pos (.inl (by omega))]at hq;rw[if_pos (by omega)]at hv;subst hv hq;simp[N8,hl,h0,hN,A0 c1,A7 c2]
  by_cases c3:(12:Int)<(fresh.length:Int)
  .rw[if_pos (.inr (.inl (by omega)))]at hq;rw[if_pos (by omega)]at hv;subst hv hq;simp[N8,hl,h0,hN,A0 c1,A0 c2,A7 c3]
  by_cases c4:(8:Int)<(tags.length:Int)
  .rw[if_pos (.inr (.inr (by omega)))]at hq;rw[if_pos (by omega)]at hv;subst hv hq;simp[N8,hl,h0,hN,A0 c1,A0 c2,A0 c3,A7 c4]
  rw[if_neg (by omega)]at hq;by_cases c5:(steps.length:Int)=0
  .rw[if_pos (by omega)]at hq;rw[if_pos (by omega)]at hv;subst hv hq;have c5':steps=[]:=List.eq_nil_of_length_eq_zero (by omega);subst c5';simp[N8,hl,h0,hN,A0 c1,A0 c2,A0 c3,A0 c4]
  rw[if_neg (by omega)]at hq;have c5n:¬steps=[]:=λe=>c5 (by rw[e];rfl);by_cases c6:(8:Int)<(steps.length:Int)
  .rw[if_pos (.inl (by omega))]at hq;rw[if_pos (by omega)]at hv;subst hv hq;simp[N8,hl,h0,hN,A0 c1,A0 c2,A0 c3,A0 c4,c5n,A7 c6]
  by_cases c7:(8:Int)<(goals.length:Int)
  .rw[if_pos (.inr (by omega))]at hq;rw[if_pos (by omega)]at hv;subst hv hq;simp[N8,hl,h0,hN,A0 c1,A0 c2,A0 c3,A0 c4,c5n,A0 c6,A7 c7]
  rw[if_neg (by omega)]at hq;rw[if_neg (by omega)]at hv;cases rb with
  |true =>
   rw[if_pos rfl]at hv;subst hv;simp[N8,hl,h0,hN,A0 c1,A0 c2,A0 c3,A0 c4,c5n,A0 c6,A0 c7,hR]
  |false =>
   rw[if_neg (by simp)]at hv;simp[N8,hl,h0,hN,A0 c1,A0 c2,A0 c3,A0 c4,c5n,A0 c6,A0 c7,hR];refine C3.mono (IQ _ _ _ rfl ?_ ?_ ?_ ?_) ?_<;>first|(simp[hl];done)|skip
   rintro e E3 h1 ⟨K,⟨bx,rfl⟩,⟨rfl,hz⟩|⟨rfl,k2,hz⟩⟩
   .have A6:E3.length=80:=K.1.trans (by simp[hl]);have k1:A2 E3 1=.ptr 0 0:=C0 K 1 (by simp[hl]);rw[if_neg (by omega)]at hv;cases tb with
    |true =>
     rw[if_pos rfl]at hv;subst hv;simp[A6,k1,hT]
    |false =>
     rw[if_neg (by simp)]at hv;subst hv;simp[A6,k1,hT]
   .rw[if_pos hz]at hv;simp[k2,hv]
end Go.Abs.Q
