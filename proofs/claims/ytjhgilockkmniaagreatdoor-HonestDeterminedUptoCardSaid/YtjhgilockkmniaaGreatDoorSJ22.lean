/- A part of the proof. -/
import Derived.Test.YtjhgilockkmniaaGreatDoorSJ21
set_option linter.all false
open List renaming drop_eq_getElem_cons->zf0z,drop_eq_nil_of_le->zf1z,getElem_mem->zf2z,getElem?_eq_getElem->zf3z,mem_cons->zf5z
open Nat renaming le_refl->zf4z
namespace Go.Abs.Q
open Go.Proofs
attribute [local simp] C8 D5 fin H6 G0
def C0 {α:Type} (g:α->Int):List α->Int
 | []=>0
 |a::l=>if g a≠0 then g a else C0 g l
theorem EL {α:Type} {g:α->Int}:∀{l:List α},C0 g l=0->∀a∈l,g a=0
 | [],_,a,ha=>by cases ha
 |b::l,h,a,ha=>by
  simp only[C0]at h;by_cases hb:g b=0
  .rw[if_neg (by simp[hb])]at h;rcases zf5z.1 ha with rfl|ha
   .exact hb
   .exact EL h a ha
  .rw[if_pos hb]at h;exact absurd h hb
mutual
def FM:Tm->Int
 | .mk k nm s _ l=>if k=1\/s≠0 then 10 else if L6 nm=false then 2 else GL l
def GL:List Tm->Int
 | []=>0
 |t::l=>if FM t≠0 then FM t else GL l
end
def GM (t:Tm):Int:=if BS t≠0 then BS t else FM t
def DT (t:Tm):Int:=if GM t≠0 then GM t else if 40<t.size then 3 else 0
theorem Dz {k:Int} {nm:R7} {s:Int} {m:U8} {l:Hg} (h:N9 (.mk k nm s m l)=0):Ay k s nm l.length=0/\X3 l=0:=by
 have e:N9 (.mk k nm s m l)=if Ay k s nm l.length≠0 then Ay k s nm l.length else X3 l:=rfl
 rw[e]at h;by_cases hz:Ay k s nm l.length=0
 .rw[if_neg (by simp[hz])]at h;exact⟨hz,h⟩
 .rw[if_pos hz]at h;exact absurd h hz
theorem Z0:∀{l:Hg},X3 l=0->∀t∈l,N9 t=0
 | [],_,t,ht=>by cases ht
 |b::l,h,t,ht=>by
  simp only[X3]at h;by_cases hb:N9 b=0
  .rw[if_neg (by simp[hb])]at h;rcases zf5z.1 ht with rfl|ht
   .exact hb
   .exact Z0 h t ht
  .rw[if_pos hb]at h;exact absurd h hb
theorem JC {k s:Int} {nm:R7} {n:Nat} (h:Ay k s nm n=0):n8 nm=true/\(k=1\/k=2->n=0)/\(k=1\/k=2\/k=3)/\n<=8:=by
 unfold Ay at h;split at h
 .omega
 .rename_i hb;split at h
  .omega
  .rename_i hn;split at h
   .omega
   .exact⟨by simpa using hn,by omega,by omega,by omega⟩
theorem Wc {s:R7} (h:n8 s=true):s.size<=24:=(KO h).2.1
theorem cl (m:U8) (kids:Hg) (IH:∀t∈kids,pc Q Ac [I1 t]=some (.int .i64 (FM t))) (C4:kids.length<=1099511627776)
  (fr:Fr) (h:AH) (hl:fr.length=31) (h19:A2 fr 19=sl m 4 (D1 kids)) (h20:A2 fr 20=.int .i64 kids.length) (h21:A2 fr 21=.int .i64 0) :
  C3 (lp (A4 (N5 Q) (B9 Ac) Bc) (fr,h)) λe fr' h'=>Kp Bc.wr fr fr'/\(e=.exit 0/\GL kids=0\/e=.ret/\A2 fr' 2=.int .i64 (GL kids)):=by
 refine C1 rfl fr (λn fr h'=>∃(i:Nat),i+n=kids.length/\A2 fr 21=.int .i64 (i:Nat)/\GL (kids.drop i)=GL kids) ?_ kids.length h ⟨0,by omega,h21,rfl⟩;rintro J Φ hJ hΦ n E4 X7 K ⟨i,hi,k21,hr⟩;have A6:=K.1.trans hl;have k19:=B8 K 19 h19;have k20:=B8 K 20 h20;by_cases A9:i<kids.length
 .have hx:=Et A9;have hw:=C9 i (by omega);have hI:=IH kids[i] (zf2z A9);rw[zf0z A9]at hr;simp only[GL]at hr;generalize kids[i]=t at *
  obtain⟨tk,tn,ts,tm,tl⟩:=t;simp only[I1]at hI hx;generalize FM (.mk tk tn ts tm tl)=e at *
  by_cases hz:e=0
  .rw[if_neg (by simp[hz])]at hr;simp[Bc,A6,k19,k20,k21,A9,hx,hI,hw,hz];exact H0 hJ ⟨i+1,by omega,by simp[A6],hr⟩
  .rw[if_pos hz]at hr;simp[Bc,A6,k19,k20,k21,A9,hx,hI,hw,hz];exact hΦ _ _ _ (.inr ⟨rfl,by simp[A6,hr]⟩)
 .rw[zf1z (by omega)]at hr;simp[Bc,A6,k19,k20,k21,A9];exact hΦ _ _ _ (.inl ⟨rfl,hr.symm⟩)
theorem kH:∀(n:Nat) (t:Tm),t.size<=n->t.size<=1099511627776->N9 t=0->pc Q Ac [I1 t]=some (.int .i64 (FM t)):=by
 intro n
 induction n with
 |zero=>intro t h;have:=t.size_pos;omega
 |succ n ih =>
  intro t hn hb T6;obtain⟨k,nm,s,m,kids⟩:=t;have L4:Tm.size (.mk k nm s m kids)=1+Tm.sizes kids:=rfl;have C4:=Tm.length_le kids;obtain⟨hne1,hne2⟩:=Dz T6;have hnb:=(JC hne1).1;have hN:=Gj nm (by have:=Wc hnb;omega);have hnE:FM (.mk k nm s m kids)=if k=1\/s≠0 then 10 else if L6 nm=false then 2 else GL kids:=rfl
  have IW:=cl m kids (λt ht=>ih t (by have:=Tm.size_le ht;omega) (by have:=Tm.size_le ht;omega) (Z0 hne2 t ht)) (by omega);refine aO PL rfl (by simp[Bx]) λfr hl ha=>?_;have h0:=ha 0;clear ha ih;simp[Bx,I1]at hl h0;generalize FM (.mk k nm s m kids)=v at *
  by_cases hk:k=1
  .rw[if_pos (.inl hk)]at hnE;subst hnE;simp[Bx,hl,h0,A7 hk]
  by_cases hs:s=0
  .rw[if_neg (by simp[hk,hs])]at hnE;cases hn:L6 nm with
   |false =>
    rw[hn]at hN;rw[if_pos hn]at hnE;subst hnE;simp[Bx,hl,h0,A0 hk,A7 hs,hN]
   |true =>
    rw[hn]at hN;rw[if_neg (by simp[hn])]at hnE;simp[Bx,hl,h0,A0 hk,A7 hs,hN];refine C3.mono (IW _ _ ?_ ?_ ?_ ?_) ?_<;>first|(simp[hl];done)|skip
    rintro e E4 h1 ⟨K,⟨rfl,hz⟩|⟨rfl,k2⟩⟩
    .have A6:E4.length=31:=K.1.trans (by simp[hl]);simp[A6,hnE,hz]
    .simp[k2,hnE]
  .rw[if_pos (.inr hs)]at hnE;subst hnE;simp[Bx,hl,h0,A0 hk,A0 hs]
theorem UH (B:C6) (m:U8) (kids:Hg) (hB:∃a b c,B=[a,b,c,sl m 4 (D1 kids)]) (IH:∀t∈kids,pc Q Bh [I1 t]=some (.int .i64 (FM t))) (C4:kids.length<=1099511627776)
  (fr:Fr) (h:AH) (hh:h=⟨[B],[]⟩) (hl:fr.length=33) (h1:A2 fr 1=.ptr 0 0) (h3:A2 fr 3=.int .i64 0) :
  C3 (lp (A4 (N5 Q) (B9 Bh) CR) (fr,h)) λe fr' h'=>Kp CR.wr fr fr'/\(e=.exit 0/\GL kids=0\/e=.ret/\A2 fr' 2=.int .i64 (GL kids)):=by
 obtain⟨b0,b1,b2,rfl⟩:=hB;refine C1 rfl fr (λn fr h'=>∃(i:Nat),i+n=kids.length/\A2 fr 3=.int .i64 (i:Nat)/\h'=⟨[[b0,b1,b2,sl m 4 (D1 kids)]],[]⟩/\GL (kids.drop i)=GL kids) ?_ kids.length h ⟨0,by omega,h3,hh,rfl⟩;rintro J Φ hJ hΦ n E4 X7 K ⟨i,hi,k3,rfl,hr⟩;have A6:=K.1.trans hl;have k1:=B8 K 1 h1;by_cases A9:i<kids.length
 .have hx:=Et A9;have hw:=C9 i (by omega);have hI:=IH kids[i] (zf2z A9);rw[zf0z A9]at hr;simp only[GL]at hr;generalize kids[i]=t at *
  obtain⟨tk,tn,ts,tm,tl⟩:=t;simp only[I1]at hI hx;generalize FM (.mk tk tn ts tm tl)=e at *
  by_cases hz:e=0
  .rw[if_neg (by simp[hz])]at hr;simp[CR,A6,k1,k3,A9,hx,hI,hw,hz];exact H0 hJ ⟨i+1,by omega,by simp[A6],rfl,hr⟩
  .rw[if_pos hz]at hr;simp[CR,A6,k1,k3,A9,hx,hI,hw,hz];exact hΦ _ _ _ (.inr ⟨rfl,by simp[A6,hr]⟩)
 .rw[zf1z (by omega)]at hr;simp[CR,A6,k1,k3,A9];exact hΦ _ _ _ (.inl ⟨rfl,hr.symm⟩)
theorem Zk:∀(n:Nat) (t:Tm),t.size<=n->t.size<=1099511627776->pc Q Bh [I1 t]=some (.int .i64 (FM t)):=by
 intro n
 induction n with
 |zero=>intro t h;have:=t.size_pos;omega
 |succ n ih =>
  intro t hn hb;obtain⟨k,nm,s,m,kids⟩:=t;have L4:Tm.size (.mk k nm s m kids)=1+Tm.sizes kids:=rfl;have C4:=Tm.length_le kids;have hN:=Ew nm;have hnE:FM (.mk k nm s m kids)=if k=1\/s≠0 then 10 else if L6 nm=false then 2 else GL kids:=rfl
  have IW:=UH [.int .i64 k,.str nm,.int .i64 s,sl m 4 (D1 kids)] m kids ⟨_,_,_,rfl⟩ (λt ht=>ih t (by have:=Tm.size_le ht;omega) (by have:=Tm.size_le ht;omega)) (by omega);refine aO QB rfl (by simp[Cx]) λfr hl ha=>?_;have h0:=ha 0;clear ha ih;simp[Cx,I1]at hl h0;generalize FM (.mk k nm s m kids)=v at *
  by_cases hk:k=1
  .rw[if_pos (.inl hk)]at hnE;subst hnE;simp[Cx,hl,h0,A7 hk]
  by_cases hs:s=0
  .rw[if_neg (by simp[hk,hs])]at hnE;cases hn:L6 nm with
   |false =>
    rw[hn]at hN;rw[if_pos hn]at hnE;subst hnE;simp[Cx,hl,h0,A0 hk,A7 hs,hN]
   |true =>
    rw[hn]at hN;rw[if_neg (by simp[hn])]at hnE;simp[Cx,hl,h0,A0 hk,A7 hs,hN];refine C3.mono (IW _ _ ?_ ?_ ?_ ?_) ?_<;>first|(simp[hl,hs];done)|skip
    rintro e E4 h1 ⟨K,⟨rfl,hz⟩|⟨rfl,k2⟩⟩
    .have A6:E4.length=33:=K.1.trans (by simp[hl]);simp[A6,hnE,hz]
    .simp[k2,hnE]
  .rw[if_pos (.inr hs)]at hnE;subst hnE;simp[Cx,hl,h0,A0 hk,A0 hs]
theorem Wn (t:Tm) (hb:t.size<=1099511627776):pc Q DD [I1 t]=some (.int .i64 (GM t)):=by
 have hV:=Ll t hb;have hR:=λh=>kH _ t (zf4z _) hb h;have hz:BS t=0->N9 t=0:=by
  unfold BS;split
  .rename_i h;exact λk=>absurd k h
  .rename_i h;exact λ_=>by simpa using h
 refine Bu DM λfr hl h0=>?_;have hv:GM t=if BS t≠0 then BS t else FM t:=rfl
 generalize GM t=v at *
 generalize BS t=w at *
 generalize FM t=y at *
 generalize N9 t=z at *
 obtain⟨k,nm,s,m,kids⟩:=t;simp[DM,I1]at hl h0 hV hR;by_cases hw:w=0
 .subst hw;rw[if_neg (by simp)]at hv;subst hv;have hR':=hR (hz rfl);simp[DM,hl,h0,hV,hR']
 .rw[if_pos hw]at hv;subst hv;simp[DM,hl,h0,hV,hw]
theorem Zj (t:Tm) (hb:t.size<=1099511627776):pc Q Ho [I1 t]=some (.int .i64 (GM t)):=by
 have hV:=NQ t hb;have hR:=Zk _ t (zf4z _) hb;refine Bu Hr λfr hl h0=>?_;have hv:GM t=if BS t≠0 then BS t else FM t:=rfl
 generalize GM t=v at *
 generalize BS t=w at *
 generalize FM t=y at *
 obtain⟨k,nm,s,m,kids⟩:=t;simp[Hr,I1]at hl h0 hV hR;by_cases hw:w=0
 .subst hw;rw[if_neg (by simp)]at hv;subst hv;simp[Hr,hl,h0,hV,hR]
 .rw[if_pos hw]at hv;subst hv;simp[Hr,hl,h0,hV,hw]
theorem Ox (t:Tm) (hb:t.size<=1099511627776):pc Q o7 [I1 t]=some (.int .i64 (DT t)):=by
 have hV:=Wn t hb;have hS:=SM _ t (zf4z _) hb;refine Bu Bb λfr hl h0=>?_;have hv:DT t=if GM t≠0 then GM t else if 40<t.size then 3 else 0:=rfl
 generalize DT t=v at *
 generalize GM t=w at *
 generalize t.size=z at *
 obtain⟨k,nm,s,m,kids⟩:=t;simp[Bb,I1]at hl h0 hV hS;by_cases hw:w=0
 .subst hw;rw[if_neg (by simp)]at hv;by_cases h4:(40:Int)<(z:Int)
  .rw[if_pos (by omega)]at hv;subst hv;simp[Bb,hl,h0,hV,hS,A7 h4]
  .rw[if_neg (by omega)]at hv;subst hv;simp[Bb,hl,h0,hV,hS,A0 h4]
 .rw[if_pos hw]at hv;subst hv;simp[Bb,hl,h0,hV,hw]
theorem Kh (t:Tm) (hb:t.size<=1099511627776):pc Q y8 [I1 t]=some (.int .i64 (DT t)):=by
 have hV:=Zj t hb;have hS:=JH _ t (zf4z _) hb;refine Bu CE λfr hl h0=>?_;have hv:DT t=if GM t≠0 then GM t else if 40<t.size then 3 else 0:=rfl
 generalize DT t=v at *
 generalize GM t=w at *
 generalize t.size=z at *
 obtain⟨k,nm,s,m,kids⟩:=t;simp[CE,I1]at hl h0 hV hS;by_cases hw:w=0
 .subst hw;rw[if_neg (by simp)]at hv;by_cases h4:(40:Int)<(z:Int)
  .rw[if_pos (by omega)]at hv;subst hv;simp[CE,hl,h0,hV,hS,A7 h4]
  .rw[if_neg (by omega)]at hv;subst hv;simp[CE,hl,h0,hV,hS,A0 h4]
 .rw[if_pos hw]at hv;subst hv;simp[CE,hl,h0,hV,hw]
structure Gol where
 kind:Int
 role:ByteArray
 wth:ByteArray
 dm:Bool×Bool
 data:List Tm
 line:Int
def Be (g:Gol):AV:=.agg [.int .i64 g.kind,.str g.role,.str g.wth,sl g.dm 4 (D1 g.data),.int .i64 g.line]
def Hh (g:Gol):Bool:=decide (g.kind=2)||decide (g.kind=3)
def Gf (g:Gol):Int :=
 if g.kind<1\/5<g.kind then 10 else if L6 g.role=false\/Hh g=true/\L6 g.wth=false then 2 else if Hh g=false/\g.wth≠bs []then 1
 else if g.data.length<1\/4<g.data.length\/Hh g=false/\1<g.data.length then 6 else C0 DT g.data
theorem SN (g:Gol):pc Q R5 [Be g]=some (.bool (Hh g)):=by
 refine Bu Bw λfr hl h0=>?_;simp[Bw,Be]at hl h0;unfold Hh;by_cases h2:g.kind=2
 .simp[Bw,hl,h0,A7 h2]
 .simp[Bw,hl,h0,A0 h2]
theorem NR (g:Gol):pc Q Z8 [Be g]=some (.bool (Hh g)):=by
 refine Bu Ca λfr hl h0=>?_;simp[Ca,Be]at hl h0;unfold Hh;by_cases h2:g.kind=2
 .simp[Ca,hl,h0,A7 h2]
 .simp[Ca,hl,h0,A0 h2]
theorem ZI (m:U8) (kids:Hg) (IH:∀t∈kids,pc Q o7 [I1 t]=some (.int .i64 (DT t))) (C4:kids.length<=1099511627776)
  (fr:Fr) (h:AH) (hl:fr.length=76) (h19:A2 fr 64=sl m 4 (D1 kids)) (h20:A2 fr 65=.int .i64 kids.length) (h21:A2 fr 66=.int .i64 0) :
  C3 (lp (A4 (N5 Q) (B9 Dg) AL) (fr,h)) λe fr' h'=>Kp AL.wr fr fr'/\(e=.exit 1/\C0 DT kids=0\/e=.ret/\A2 fr' 2=.int .i64 (C0 DT kids)):=by
 refine C1 rfl fr (λn fr h'=>∃(i:Nat),i+n=kids.length/\A2 fr 66=.int .i64 (i:Nat)/\C0 DT (kids.drop i)=C0 DT kids) ?_ kids.length h ⟨0,by omega,h21,rfl⟩;rintro J Φ hJ hΦ n E4 X7 K ⟨i,hi,k21,hr⟩;have A6:=K.1.trans hl;have k19:=B8 K 64 h19;have k20:=B8 K 65 h20;by_cases A9:i<kids.length
 .have hx:=Et A9;have hw:=C9 i (by omega);have hI:=IH kids[i] (zf2z A9);rw[zf0z A9]at hr;simp only[C0]at hr;generalize kids[i]=t at *
  generalize DT t=e at *
  obtain⟨tk,tn,ts,tm,tl⟩:=t;simp only[I1]at hI hx;by_cases hz:e=0
  .rw[if_neg (by simp[hz])]at hr;simp[AL,A6,k19,k20,k21,A9,hx,hI,hw,hz];exact H0 hJ ⟨i+1,by omega,by simp[A6],hr⟩
  .rw[if_pos hz]at hr;simp[AL,A6,k19,k20,k21,A9,hx,hI,hw,hz];exact hΦ _ _ _ (.inr ⟨rfl,by simp[A6,hr]⟩)
 .rw[zf1z (by omega)]at hr;simp[AL,A6,k19,k20,k21,A9];exact hΦ _ _ _ (.inl ⟨rfl,hr.symm⟩)
theorem SA (B:C6) (m:U8) (kids:Hg) (hB:∃a b c d,B=[a,b,c,sl m 4 (D1 kids),d]) (IH:∀t∈kids,pc Q y8 [I1 t]=some (.int .i64 (DT t))) (C4:kids.length<=1099511627776)
  (fr:Fr) (h:AH) (hh:h=⟨[B],[]⟩) (hl:fr.length=72) (h1:A2 fr 1=.ptr 0 0) (h3:A2 fr 3=.int .i64 0) :
  C3 (lp (A4 (N5 Q) (B9 Eo) BU) (fr,h)) λe fr' h'=>Kp BU.wr fr fr'/\(e=.exit 0/\C0 DT kids=0\/e=.ret/\A2 fr' 2=.int .i64 (C0 DT kids)):=by
 obtain⟨b0,b1,b2,b3,rfl⟩:=hB;refine C1 rfl fr (λn fr h'=>∃(i:Nat),i+n=kids.length/\A2 fr 3=.int .i64 (i:Nat)/\h'=⟨[[b0,b1,b2,sl m 4 (D1 kids),b3]],[]⟩/\C0 DT (kids.drop i)=C0 DT kids) ?_ kids.length h ⟨0,by omega,h3,hh,rfl⟩;rintro J Φ hJ hΦ n E4 X7 K ⟨i,hi,k3,rfl,hr⟩;have A6:=K.1.trans hl;have k1:=B8 K 1 h1;by_cases A9:i<kids.length
 .have hx:=Et A9;have hw:=C9 i (by omega);have hI:=IH kids[i] (zf2z A9);rw[zf0z A9]at hr;simp only[C0]at hr;generalize kids[i]=t at *
  generalize DT t=e at *
  obtain⟨tk,tn,ts,tm,tl⟩:=t;simp only[I1]at hI hx;by_cases hz:e=0
  .rw[if_neg (by simp[hz])]at hr;simp[BU,A6,k1,k3,A9,hx,hI,hw,hz];exact H0 hJ ⟨i+1,by omega,by simp[A6],rfl,hr⟩
  .rw[if_pos hz]at hr;simp[BU,A6,k1,k3,A9,hx,hI,hw,hz];exact hΦ _ _ _ (.inr ⟨rfl,by simp[A6,hr]⟩)
 .rw[zf1z (by omega)]at hr;simp[BU,A6,k1,k3,A9];exact hΦ _ _ _ (.inl ⟨rfl,hr.symm⟩)
theorem Wp (g:Gol) (hr:g.role.size<=1099511627776) (hw:g.wth.size<=1099511627776) (hd:Tm.sizes g.data<=1099511627776):pc Q Dg [Be g]=some (.int .i64 (Gf g)):=by
 have hA:=SN g;have hR:=Gj g.role hr;have hW:=Gj g.wth hw;have C4:=Tm.length_le g.data;have IW:=ZI g.dm g.data (λt ht=>Ox t (by have:=Tm.size_le ht;omega)) (by omega);refine Bu O8 λfr hl h0=>?_;have hv:Gf g=if g.kind<1\/5<g.kind then 10 else if L6 g.role=false\/Hh g=true/\L6 g.wth=false then 2 else if Hh g=false/\g.wth≠bs []then 1
  else if g.data.length<1\/4<g.data.length\/Hh g=false/\1<g.data.length then 6 else C0 DT g.data:=rfl
 generalize Gf g=v at *
 obtain⟨k,r,w,m,d,ln⟩:=g;simp only[Be]at *
 generalize Hh ⟨k,r,w,m,d,ln⟩=ag at *
 generalize L6 r=rb at *
 generalize L6 w=wb at *
 generalize C0 DT d=fe at *
 simp[O8]at hl h0;by_cases c1:k<1
 .rw[if_pos (.inl c1)]at hv;subst hv;simp[O8,hl,h0,A7 c1]
 by_cases c2:5<k
 .rw[if_pos (.inr c2)]at hv;subst hv;simp[O8,hl,h0,A0 c1,A7 c2]
 rw[if_neg (by omega)]at hv;cases rb with
 |false =>
  rw[if_pos (.inl rfl)]at hv;subst hv;simp[O8,hl,h0,A0 c1,A0 c2,hR]
 |true =>
  have eW:decide (w.toList=(bs []).toList)=decide (w=bs []):=Ae _ _;cases ag with
  |true =>
   cases wb with
   |false =>
    rw[if_pos (.inr ⟨rfl,rfl⟩)]at hv;subst hv;simp[O8,hl,h0,A0 c1,A0 c2,hR,hA,hW]
   |true =>
    rw[if_neg (by simp),if_neg (by simp)]at hv;by_cases n1:(d.length:Int)<1
    .rw[if_pos (.inl (by omega))]at hv;subst hv;simp[O8,hl,h0,A0 c1,A0 c2,hR,hA,hW,A7 n1]
    .by_cases n4:(4:Int)<(d.length:Int)
     .rw[if_pos (.inr (.inl (by omega)))]at hv;subst hv;simp[O8,hl,h0,A0 c1,A0 c2,hR,hA,hW,A0 n1,A7 n4]
     .rw[if_neg (by rintro(q|q|q);omega;omega;simp at q)]at hv;simp[O8,hl,h0,A0 c1,A0 c2,hR,hA,hW,A0 n1,A0 n4];refine C3.mono (IW _ _ ?_ ?_ ?_ ?_) ?_<;>first|(simp[hl];done)|skip
      rintro e E4 h1 ⟨K,⟨rfl,hz⟩|⟨rfl,k2⟩⟩
      .have A6:E4.length=76:=K.1.trans (by simp[hl]);simp[A6,hv,hz]
      .simp[k2,hv]
  |false =>
   rw[if_neg (by simp)]at hv;by_cases cw:w=bs []
   .rw[if_neg (by simp[cw])]at hv;by_cases n1:(d.length:Int)=1
    .rw[if_neg (by rintro(q|q|q);omega;omega;omega)]at hv;simp[O8,hl,h0,A0 c1,A0 c2,hR,hA,eW,A7 cw,A7 n1];refine C3.mono (IW _ _ ?_ ?_ ?_ ?_) ?_<;>first|(simp[hl];done)|skip
     rintro e E4 h1 ⟨K,⟨rfl,hz⟩|⟨rfl,k2⟩⟩
     .have A6:E4.length=76:=K.1.trans (by simp[hl]);simp[A6,hv,hz]
     .simp[k2,hv]
    .rw[if_pos (by
      by_cases q:d.length<1
      .exact .inl q
      .exact .inr (.inr ⟨rfl,by omega⟩))]at hv
     subst hv;simp[O8,hl,h0,A0 c1,A0 c2,hR,hA,eW,A7 cw,A0 n1]
   .rw[if_pos ⟨rfl,cw⟩]at hv;subst hv;simp[O8,hl,h0,A0 c1,A0 c2,hR,hA,eW,A0 cw]
theorem Wo (g:Gol) (hd:Tm.sizes g.data<=1099511627776):pc Q Eo [Be g]=some (.int .i64 (Gf g)):=by
 have hA:=NR g;have hR:=Ew g.role;have hW:=Ew g.wth;have C4:=Tm.length_le g.data;have IW:=SA [.int .i64 g.kind,.str g.role,.str g.wth,sl g.dm 4 (D1 g.data),.int .i64 g.line] g.dm g.data ⟨_,_,_,_,rfl⟩ (λt ht=>Kh t (by have:=Tm.size_le ht;omega)) (by omega);refine Bu N4 λfr hl h0=>?_;have hv:Gf g=if g.kind<1\/5<g.kind then 10 else if L6 g.role=false\/Hh g=true/\L6 g.wth=false then 2 else if Hh g=false/\g.wth≠bs []then 1
  else if g.data.length<1\/4<g.data.length\/Hh g=false/\1<g.data.length then 6 else C0 DT g.data:=rfl
 generalize Gf g=v at *
 obtain⟨k,r,w,m,d,ln⟩:=g;simp only[Be]at *
 generalize Hh ⟨k,r,w,m,d,ln⟩=ag at *
 generalize L6 r=rb at *
 generalize L6 w=wb at *
 generalize C0 DT d=fe at *
 simp[N4]at hl h0;by_cases c1:k<1
 .rw[if_pos (.inl c1)]at hv;subst hv;simp[N4,hl,h0,A7 c1]
 by_cases c2:5<k
 .rw[if_pos (.inr c2)]at hv;subst hv;simp[N4,hl,h0,A0 c1,A7 c2]
 rw[if_neg (by omega)]at hv;cases rb with
 |false =>
  rw[if_pos (.inl rfl)]at hv;subst hv;simp[N4,hl,h0,A0 c1,A0 c2,hR]
 |true =>
  have eW:decide (w.toList=(bs []).toList)=decide (w=bs []):=Ae _ _;cases ag with
  |true =>
   cases wb with
   |false =>
    rw[if_pos (.inr ⟨rfl,rfl⟩)]at hv;subst hv;simp[N4,hl,h0,A0 c1,A0 c2,hR,hA,hW]
   |true =>
    rw[if_neg (by simp),if_neg (by simp)]at hv;by_cases n1:(d.length:Int)<1
    .rw[if_pos (.inl (by omega))]at hv;subst hv;simp[N4,hl,h0,A0 c1,A0 c2,hR,hA,hW,A7 n1]
    .by_cases n4:(4:Int)<(d.length:Int)
     .rw[if_pos (.inr (.inl (by omega)))]at hv;subst hv;simp[N4,hl,h0,A0 c1,A0 c2,hR,hA,hW,A0 n1,A7 n4]
     .rw[if_neg (by rintro(q|q|q);omega;omega;simp at q)]at hv;simp[N4,hl,h0,A0 c1,A0 c2,hR,hA,hW,A0 n1,A0 n4];refine C3.mono (IW _ _ rfl ?_ ?_ ?_) ?_<;>first|(simp[hl];done)|skip
      rintro e E4 h1 ⟨K,⟨rfl,hz⟩|⟨rfl,k2⟩⟩
      .have A6:E4.length=72:=K.1.trans (by simp[hl]);simp[A6,hv,hz]
      .simp[k2,hv]
  |false =>
   rw[if_neg (by simp)]at hv;by_cases cw:w=bs []
   .rw[if_neg (by simp[cw])]at hv;by_cases n1:(d.length:Int)<1
    .rw[if_pos (.inl (by omega))]at hv;subst hv;simp[N4,hl,h0,A0 c1,A0 c2,hR,hA,eW,A7 cw,A7 n1]
    .by_cases n4:(4:Int)<(d.length:Int)
     .rw[if_pos (.inr (.inl (by omega)))]at hv;subst hv;simp[N4,hl,h0,A0 c1,A0 c2,hR,hA,eW,A7 cw,A0 n1,A7 n4]
     .by_cases n2:(1:Int)<(d.length:Int)
      .rw[if_pos (.inr (.inr ⟨rfl,by omega⟩))]at hv;subst hv;simp[N4,hl,h0,A0 c1,A0 c2,hR,hA,eW,A7 cw,A0 n1,A0 n4,A7 n2]
      .rw[if_neg (by rintro(q|q|q);omega;omega;omega)]at hv;simp[N4,hl,h0,A0 c1,A0 c2,hR,hA,eW,A7 cw,A0 n1,A0 n4,A0 n2];refine C3.mono (IW _ _ ?_ ?_ ?_ ?_) ?_<;>first|(simp[hl,cw];done)|skip
       rintro e E4 h1 ⟨K,⟨rfl,hz⟩|⟨rfl,k2⟩⟩
       .have A6:E4.length=72:=K.1.trans (by simp[hl]);simp[A6,hv,hz]
       .simp[k2,hv]
   .rw[if_pos ⟨rfl,cw⟩]at hv;subst hv;simp[N4,hl,h0,A0 c1,A0 c2,hR,hA,eW,A0 cw]
theorem Ig (s:R7) (hs:s.size<=1099511627776):pc Q J5 [.str s]=some (.bool (!L6 s)):=by
 have hN:=Gj s hs;refine Bu He λfr hl h0=>?_;simp[He]at hl h0;simp[He,hl,h0,hN]
def FC (s:ByteArray):Bool:=!L6 s
theorem Of (m:U8) (l:List ByteArray) (hs:∀s∈l,s.size<=1099511627776) (C4:l.length<=1099511627776) (fr:Fr) (h:AH) (hl:fr.length=19)
  (h0:A2 fr 0=sl m 1 (l.map AV.str)) (h1:A2 fr 1=.fn J5 []) (h7:A2 fr 7=.int .i64 l.length) (h8:A2 fr 8=.int .i64 0) :
  C3 (lp (A4 (N5 Q) (B9 K7) I6) (fr,h)) λe fr' h'=>Kp I6.wr fr fr'/\(e=.exit 0/\idx FC l=-1\/e=.ret/\A2 fr' 4=.int .i64 (idx FC l)):=by
 refine C1 rfl fr (λn fr h=>∃i,i+n=l.length/\A2 fr 8=.int .i64 (i:Nat)/\j9 FC i (l.drop i)=idx FC l) ?_ l.length h ⟨0,by omega,h8,rfl⟩;rintro J Φ hJ hΦ n E4 X7 K ⟨i,hi,k8,hr⟩;have A6:=K.1.trans hl;have k0:=B8 K 0 h0;have k1:=B8 K 1 h1;have k7:=B8 K 7 h7;by_cases A9:i<l.length
 .have hx:=E5 (f:=AV.str) (zf3z A9);have hw:=C9 i (by omega);have hW:=Ig l[i] (hs _ (zf2z A9));rw[zf0z A9]at hr;simp only[j9]at hr;generalize l[i]=a at *
  have hwe:FC a=!L6 a:=rfl;rw[←hwe]at hW;generalize FC a=b at *
  cases b with
  |true =>
   rw[if_pos rfl]at hr;simp[I6,A6,k0,k1,k7,k8,A9,hx,hw,hW];exact hΦ _ _ _ (.inr ⟨rfl,by simp[A6];exact hr⟩)
  |false =>
   rw[if_neg (by simp)]at hr;simp[I6,A6,k0,k1,k7,k8,A9,hx,hw,hW];exact H0 hJ ⟨i+1,by omega,by simp[A6],hr⟩
 .rw[zf1z (by omega)]at hr;simp[I6,A6,k7,k8,A9];exact hΦ _ _ _ (.inl ⟨rfl,hr.symm⟩)
theorem Pw (m:U8) (l:List ByteArray) (hs:∀s∈l,s.size<=1099511627776) (C4:l.length<=1099511627776):pc Q K7 [EV m l,.fn J5 []]=some (.int .i64 (idx FC l)):=by
 refine Fe y6 λfr hl h0 h1=>?_;simp[y6,EV]at hl h0 h1;simp[y6,hl,h0];refine(Of m l hs C4 _ _ (by simp[hl]) (by simp[hl,h0]) (by simp[hl,h1]) (by simp[hl]) (by simp[hl])).mono ?_;rintro e fr' h' ⟨K,⟨rfl,he⟩|⟨rfl,h4⟩⟩
 .have hl':fr'.length=19:=K.1.trans (by simp[hl]);simp[hl',he]
 .simp[h4]
theorem Li (m:U8) (l:List ByteArray) (hs:∀s∈l,s.size<=1099511627776) (C4:l.length<=1099511627776):pc Q L9 [EV m l,.fn J5 []]=some (.bool (l.any FC)):=by
 have hI:=Pw m l hs C4;have he:decide (0<=idx FC l)=l.any FC:=by
  rw[Bool.eq_iff_iff,decide_eq_true_iff,idx,FS]
 refine Fe i9 λfr hl h0 h1=>?_;simp[i9,EV]at hl h0 h1 hI;simp[i9,hl,h0,h1,hI];exact he
theorem WQ (m:U8) (l:List ByteArray) (C4:l.length<=1099511627776) (fr:Fr) (h:AH) (hl:fr.length=16) (h0:A2 fr 0=sl m 1 (l.map AV.str)) (h3:A2 fr 3=.int .i64 0) :
  C3 (lp (A4 (N5 Q) (B9 X0) AC) (fr,h)) λe fr' h'=>Kp AC.wr fr fr'/\(e=.exit 0/\l.any FC=false\/e=.ret/\A2 fr' 2=.bool false/\l.any FC=true):=by
 refine C1 rfl fr (λn fr h=>∃i,i+n=l.length/\A2 fr 3=.int .i64 (i:Nat)/\(l.drop i).any FC=l.any FC) ?_ l.length h ⟨0,by omega,h3,rfl⟩;rintro J Φ hJ hΦ n E4 X7 K ⟨i,hi,k3,hr⟩;have A6:=K.1.trans hl;have k0:=B8 K 0 h0;by_cases A9:i<l.length
 .have hx:=E5 (f:=AV.str) (zf3z A9);have hw:=C9 i (by omega);have hN:=Ew l[i];rw[zf0z A9,List.any_cons]at hr;generalize l[i]=a at *
  have hwe:FC a=!L6 a:=rfl;rw[hwe]at hr;generalize L6 a=b at *
  generalize hq:l.any FC=q at *
  cases b with
  |false =>
   simp[AC,A6,k0,k3,A9,hx,hw,hN];exact hΦ _ _ _ (.inr ⟨rfl,by simp[A6],by rw[←hr];rfl⟩)
  |true =>
   simp only[Bool.not_true,Bool.false_or]at hr;simp[AC,A6,k0,k3,A9,hx,hw,hN];exact H0 hJ ⟨i+1,by omega,by simp[A6],hr⟩
 .rw[zf1z (by omega)]at hr;simp[AC,A6,k0,k3,A9];exact hΦ _ _ _ (.inl ⟨rfl,hr.symm⟩)
theorem Oy (m:U8) (l:List ByteArray) (C4:l.length<=1099511627776):pc Q X0 [EV m l]=some (.bool (!l.any FC)):=by
 refine Bu IL λfr hl h0=>?_;simp[IL,EV]at hl h0;have IW:=WQ m l C4;generalize l.any FC=b at *
 simp[IL,hl];refine(IW _ _ (by simp[hl]) (by simp[hl,h0]) (by simp[hl])).mono ?_;rintro e fr' h' ⟨K,⟨rfl,he⟩|⟨rfl,h2,he⟩⟩
 .have hl':fr'.length=16:=K.1.trans (by simp[hl]);simp[hl',he]
 .simp[h2,he]
structure Fre where
 role:ByteArray
 name:ByteArray
 sort:Int
def Gq (f:Fre):AV:=.agg [.str f.role,.str f.name,.int .i64 f.sort]
structure Ste where
 frm:ByteArray
 to:ByteArray
 msg:Tm
 line:Int
def Q2 (s:Ste):AV:=.agg ([.str s.frm,.str s.to]++(I1 s.msg).cells++[.int .i64 s.line])
structure Nar where
 name:ByteArray
 rm:Bool×Bool
 roles:List ByteArray
 fm:Bool×Bool
 fresh:List Fre
 tm:Bool×Bool
 tags:List ByteArray
 sm:Bool×Bool
 steps:List Ste
 gm:Bool×Bool
 goals:List Gol
def D2 (n:Nar):AV:=.agg [.str n.name,sl n.rm 1 (n.roles.map .str),sl n.fm 3 (n.fresh.map Gq),sl n.tm 1 (n.tags.map .str),sl n.sm 7 (n.steps.map Q2),sl n.gm 5 (n.goals.map Be)]
def Gd (f:Fre):Int:=if L6 f.role=false\/L6 f.name=false then 2 else if f.sort<2\/4<f.sort then 10 else 0
def FA (s:Ste):Int:=if L6 s.frm=false\/L6 s.to=false then 2 else DT s.msg
def JV (n:Nar):Int :=
 if n.roles.length<2 then 8 else if 4<n.roles.length\/12<n.fresh.length\/8<n.tags.length then 3 else if n.steps.length=0 then 8 else if 8<n.steps.length\/8<n.goals.length then 3 else 0
def Eg (n:Nar):Int :=
 if L6 n.name=false then 2 else if JV n≠0 then JV n else if n.roles.any FC=true then 2 else if C0 Gd n.fresh≠0 then C0 Gd n.fresh else if n.tags.any FC=true then 2 else 0
def JB (n:Nar):Int:=if Eg n≠0 then Eg n else if C0 FA n.steps≠0 then C0 FA n.steps else C0 Gf n.goals
structure Fine (n:Nar):Prop where
 name:n.name.size<=1099511627776
 roles:∀s∈n.roles,s.size<=1099511627776
 rolesL:n.roles.length<=1099511627776
 fresh:∀f∈n.fresh,f.role.size<=1099511627776/\f.name.size<=1099511627776
 freshL:n.fresh.length<=1099511627776
 tags:∀s∈n.tags,s.size<=1099511627776
 tagsL:n.tags.length<=1099511627776
 steps:∀s∈n.steps,s.frm.size<=1099511627776/\s.to.size<=1099511627776/\s.msg.size<=1099511627776
 stepsL:n.steps.length<=1099511627776
 goals:∀g∈n.goals,g.role.size<=1099511627776/\g.wth.size<=1099511627776/\Tm.sizes g.data<=1099511627776
 goalsL:n.goals.length<=1099511627776
theorem ZK (m:U8) (l:List Fre) (hs:∀f∈l,f.role.size<=1099511627776/\f.name.size<=1099511627776) (C4:l.length<=1099511627776) (B:C6)
  (fr:Fr) (h:AH) (hh:h=⟨[B],[]⟩) (hl:fr.length=80) (h19:A2 fr 52=sl m 3 (l.map Gq)) (h20:A2 fr 53=.int .i64 l.length) (h21:A2 fr 54=.int .i64 0) :
  C3 (lp (A4 (N5 Q) (B9 Dh) R3) (fr,h)) λe fr' h'=>Kp R3.wr fr fr'/\(∃bx,h'=⟨B::bx,[]⟩)/\(e=.exit 1/\C0 Gd l=0\/e=.ret/\A2 fr' 2=.int .i64 (C0 Gd l)/\C0 Gd l≠0):=by
 refine C1 rfl fr (λn fr h'=>∃(i:Nat),i+n=l.length/\A2 fr 54=.int .i64 (i:Nat)/\(∃bx,h'=⟨B::bx,[]⟩)/\C0 Gd (l.drop i)=C0 Gd l) ?_ l.length h ⟨0,by omega,h21,⟨[],hh⟩,rfl⟩;rintro J Φ hJ hΦ n E4 X7 K ⟨i,hi,k21,⟨bx,rfl⟩,hr⟩;have A6:=K.1.trans hl;have k19:=B8 K 52 h19;have k20:=B8 K 53 h20;by_cases A9:i<l.length
 .have hx:=E5 (f:=Gq) (zf3z A9);have hw:=C9 i (by omega);obtain⟨s1,s2⟩:=hs _ (zf2z A9);have hR:=Ig l[i].role s1;have hN:=Ig l[i].name s2;rw[zf0z A9]at hr;simp only[C0]at hr;generalize l[i]=f at *
  have hfe:Gd f=if L6 f.role=false\/L6 f.name=false then 2 else if f.sort<2\/4<f.sort then 10 else 0:=rfl
  generalize Gd f=e at *
  obtain⟨r,nm,so⟩:=f;simp only[Gq]at *
  generalize L6 r=rb at *
  generalize L6 nm=nb at *
  generalize C0 Gd l=tot at *
  have fin2:e≠0->e=tot:=λq=>by rw[if_pos q]at hr;exact hr
  cases rb with
  |false =>
   rw[if_pos (.inl rfl)]at hfe;have:=fin2 (by omega);simp[R3,A6,k19,k20,k21,A9,hx,hw,hR];exact hΦ _ _ _ ⟨⟨_,rfl⟩,.inr ⟨rfl,by simp[A6];omega,by omega⟩⟩
  |true =>
   cases nb with
   |false =>
    rw[if_pos (.inr rfl)]at hfe;have:=fin2 (by omega);simp[R3,A6,k19,k20,k21,A9,hx,hw,hR,hN];exact hΦ _ _ _ ⟨⟨_,rfl⟩,.inr ⟨rfl,by simp[A6];omega,by omega⟩⟩
   |true =>
    rw[if_neg (by simp)]at hfe;by_cases c1:so<2
    .rw[if_pos (.inl c1)]at hfe;have:=fin2 (by omega);simp[R3,A6,k19,k20,k21,A9,hx,hw,hR,hN,A7 c1];exact hΦ _ _ _ ⟨⟨_,rfl⟩,.inr ⟨rfl,by simp[A6];omega,by omega⟩⟩
    .by_cases c2:4<so
     .rw[if_pos (.inr c2)]at hfe;have:=fin2 (by omega);simp[R3,A6,k19,k20,k21,A9,hx,hw,hR,hN,A0 c1,A7 c2];exact hΦ _ _ _ ⟨⟨_,rfl⟩,.inr ⟨rfl,by simp[A6];omega,by omega⟩⟩
     .rw[if_neg (by omega)]at hfe;rw[if_neg (by simp[hfe])]at hr;simp[R3,A6,k19,k20,k21,A9,hx,hw,hR,hN,A0 c1,A0 c2];exact H0 hJ ⟨i+1,by omega,by simp[A6],⟨_,rfl⟩,hr⟩
 .rw[zf1z (by omega)]at hr;simp[R3,A6,k19,k20,k21,A9];exact hΦ _ _ _ ⟨⟨_,rfl⟩,.inl ⟨rfl,hr.symm⟩⟩
theorem gM (n:Nar) (F:Fine n):pc Q Dh [D2 n]=some (.int .i64 (Eg n)):=by
 have hN:=Ig n.name F.name;have hR:=Li n.rm n.roles F.roles F.rolesL;have hT:=Li n.tm n.tags F.tags F.tagsL;have IW:=ZK n.fm n.fresh F.fresh F.freshL;refine Bu O9 λfr hl h0=>?_;have hv:Eg n=if L6 n.name=false then 2 else if JV n≠0 then JV n else if n.roles.any FC=true then 2 else if C0 Gd n.fresh≠0 then C0 Gd n.fresh else if n.tags.any FC=true then 2 else 0:=rfl
 have hq:JV n=if n.roles.length<2 then 8 else if 4<n.roles.length\/12<n.fresh.length\/8<n.tags.length then 3 else if n.steps.length=0 then 8 else if 8<n.steps.length\/8<n.goals.length then 3 else 0:=rfl
 generalize Eg n=v at *
 generalize JV n=q at *
 clear F;obtain⟨name,rm,roles,fm,fresh,tm,tags,sm,steps,gm,goals⟩:=n;simp only[D2,EV]at *
 generalize L6 name=nb at *
 generalize roles.any FC=rb at *
 generalize tags.any FC=tb at *
 generalize C0 Gd fresh=fe at *
 simp[O9]at hl h0;cases nb with
 |false =>
  rw[if_pos rfl]at hv;subst hv;simp[O9,hl,h0,hN]
 |true =>
  rw[if_neg (by simp)]at hv;by_cases c1:(roles.length:Int)<2
  .rw[if_pos (by omega)]at hq;rw[if_pos (by omega)]at hv;subst hv hq;simp[O9,hl,h0,hN,A7 c1]
  rw[if_neg (by omega)]at hq;by_cases c2:(4:Int)<(roles.length:Int)
  .rw[if_pos (.inl (by omega))]at hq;rw[if_pos (by omega)]at hv;subst hv hq;simp[O9,hl,h0,hN,A0 c1,A7 c2]
  by_cases c3:(12:Int)<(fresh.length:Int)
  .rw[if_pos (.inr (.inl (by omega)))]at hq;rw[if_pos (by omega)]at hv;subst hv hq;simp[O9,hl,h0,hN,A0 c1,A0 c2,A7 c3]
  by_cases c4:(8:Int)<(tags.length:Int)
  .rw[if_pos (.inr (.inr (by omega)))]at hq;rw[if_pos (by omega)]at hv;subst hv hq;simp[O9,hl,h0,hN,A0 c1,A0 c2,A0 c3,A7 c4]
  rw[if_neg (by omega)]at hq;by_cases c5:(steps.length:Int)=0
  .rw[if_pos (by omega)]at hq;rw[if_pos (by omega)]at hv;subst hv hq;have c5':steps=[]:=List.eq_nil_of_length_eq_zero (by omega);subst c5';simp[O9,hl,h0,hN,A0 c1,A0 c2,A0 c3,A0 c4]
  rw[if_neg (by omega)]at hq;have c5n:¬steps=[]:=λe=>c5 (by rw[e];rfl);by_cases c6:(8:Int)<(steps.length:Int)
  .rw[if_pos (.inl (by omega))]at hq;rw[if_pos (by omega)]at hv;subst hv hq;simp[O9,hl,h0,hN,A0 c1,A0 c2,A0 c3,A0 c4,c5n,A7 c6]
  by_cases c7:(8:Int)<(goals.length:Int)
  .rw[if_pos (.inr (by omega))]at hq;rw[if_pos (by omega)]at hv;subst hv hq;simp[O9,hl,h0,hN,A0 c1,A0 c2,A0 c3,A0 c4,c5n,A0 c6,A7 c7]
  rw[if_neg (by omega)]at hq;rw[if_neg (by omega)]at hv;cases rb with
  |true =>
   rw[if_pos rfl]at hv;subst hv;simp[O9,hl,h0,hN,A0 c1,A0 c2,A0 c3,A0 c4,c5n,A0 c6,A0 c7,hR]
  |false =>
   rw[if_neg (by simp)]at hv;simp[O9,hl,h0,hN,A0 c1,A0 c2,A0 c3,A0 c4,c5n,A0 c6,A0 c7,hR];refine C3.mono (IW _ _ _ rfl ?_ ?_ ?_ ?_) ?_<;>first|(simp[hl];done)|skip
   rintro e E4 h1 ⟨K,⟨bx,rfl⟩,⟨rfl,hz⟩|⟨rfl,k2,hz⟩⟩
   .have A6:E4.length=80:=K.1.trans (by simp[hl]);have k1:A2 E4 1=.ptr 0 0:=B8 K 1 (by simp[hl]);rw[if_neg (by omega)]at hv;cases tb with
    |true =>
     rw[if_pos rfl]at hv;subst hv;simp[A6,k1,hT]
    |false =>
     rw[if_neg (by simp)]at hv;subst hv;simp[A6,k1,hT]
   .rw[if_pos hz]at hv;simp[k2,hv]
end Go.Abs.Q
