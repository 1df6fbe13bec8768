/- A part of the proof. -/
import Derived.Test.YtohjdamplbhdpaaGreatDoorSG25
import Derived.KernelRfl
set_option linter.all false
open List renaming take_succ_eq_append_getElem->xk,length_cons->xm,getElem?_eq_getElem->xn,take_of_length_le->xo,filter_cons->xp,length_singleton->xq,length_map->xr,map_append->xt,length_append->xu,mem_singleton->xw,getD_eq_getElem?_getD->xy,getElem?_eq_some_iff->xz,mem_append->yB,append_eq_nil_iff->yC,length_filter_le->yD,mem_cons_of_mem->yE,mem_map_of_mem->yF,mem_cons_self->yG,any_eq_true->yJ,getElem_mem->yK,all_cons->yM,map_cons->yN,mem_cons->yO,map_nil->yP,mem_map->yQ
open Option renaming map_some->xl
open Bool renaming eq_iff_iff->yA,and_eq_true->yI,or_eq_true->yL
open Nat renaming le_refl->yH
namespace Go.Abs.Q
open Go.Proofs
attribute [local simp] D0 D1 fin I1 E7 K8 I3 N6 P4
inductive Kn (S U:List Tm):Tm->Prop
 |base (e:Tm) (h:e∈S.map D5):Kn S U e
 |step (T:List Tm) (h:∀e,e∈T.map D5->Kn S U e) (u:Tm) (hu:u∈U) (hs:Ec T u=true):Kn S U (D5 u)
def cO (T S:List Tm):Prop:=∀e,e∈T.map D5->e∈S.map D5
theorem Pi {T S:I2} (h:cO T S) {x:Tm} (hx:P2 T x=true):P2 S x=true:=s9.2 (h _ (s9.1 hx))
theorem RA {a b c d:Tm} (h:D5 a=D5 c) (k:D5 b=D5 d):GW a b=GW c d:=by
 unfold GW;rw[yA,decide_eq_true_iff,decide_eq_true_iff,AF,AF,h,k]
theorem HV {a b:Tm} (h:D5 a=D5 b) (nm:H7):Ct a nm=Ct b nm:=by
 obtain⟨h1,h2,-⟩:=JL h;unfold Ct;rw[h1,h2]
theorem CM {a b:Tm} (h:D5 a=D5 b) (i:Nat):D5 (N3 a i)=D5 (N3 b i):=by
 obtain⟨-,-,-,h4⟩:=JL h;rw[D3,D3]at h4;have:∀l:List Tm,D5 (l.getD i Yw)=(l.map D5).getD i (D5 Yw):=by
  intro l;rw[xy,xy,List.getElem?_map];cases l[i]?<;>rfl
 unfold N3;rw[this,this,h4]
theorem kK {a b:Tm} (h:D5 a=D5 b):(NX a).map D5=(NX b).map D5:=by
 unfold NX;rw[HV h,HV h,HV (CM h 1)];by_cases h1:Ct b (bs [101,110,99])=true
 .rw[if_pos h1,if_pos h1,xl,xl,CM h]
 .rw[if_neg h1,if_neg h1];by_cases h2:(Ct b (bs [97,101,110,99])&&Ct (N3 b 1) (bs [112,107]))=true
  .rw[if_pos h2,if_pos h2,xl,xl,CM (CM h 1)]
  .rw[if_neg h2,if_neg h2]
theorem Zg {T S:I2} (h:cO T S) {u t t':Tm} (he:D5 t=D5 t') (ho:IV T u t=true):IV S u t'=true:=by
 unfold IV at ho ⊢;rw[←HV he,←HV he];have e0:GW (N3 t' 0) u=GW (N3 t 0) u:=RA (CM he 0).symm rfl;have e1:GW (N3 t' 1) u=GW (N3 t 1) u:=RA (CM he 1).symm rfl;rw[e0,e1];by_cases h1:Ct t (bs [112,97,105,114])=true
 .rw[if_pos h1]at ho ⊢;exact ho
 .rw[if_neg h1]at ho ⊢;by_cases h2:Ct t (bs [115,105,103,110])=true
  .rw[if_pos h2]at ho ⊢;exact ho
  .rw[if_neg h2]at ho ⊢;have hk:=kK he;cases hk1:NX t with
   |none=>rw[hk1]at ho;cases ho
   |some k =>
    rw[hk1]at ho hk;cases hk2:NX t' with
    |none=>rw[hk2]at hk;cases hk
    |some k' =>
     rw[hk2,xl,xl,Option.some.injEq]at hk;simp only[yI]at ho ⊢;refine⟨ho.1,?_⟩;rw[←RD hk];exact Pi h ho.2
theorem Sz {T S:I2} (h:cO T S) {u:Tm} (hs:Ec T u=true):Ec S u=true:=by
 unfold Ec at hs ⊢;rw[yL,yL]at hs ⊢;rcases hs with (hs|hs)|hs
 .exact .inl (.inl hs)
 .refine .inl (.inr ?_);unfold FK at hs ⊢;rw[yI]at hs ⊢;refine⟨hs.1,?_⟩;rw[List.all_eq_true]at hs ⊢;exact λx hx=>Pi h (hs.2 x hx)
 .refine .inr ?_;unfold Hw at hs ⊢;obtain⟨t,ht,ho⟩:=yJ.1 hs;obtain⟨t',ht',e⟩:=yQ.1 (h _ (yF ht));exact yJ.2 ⟨t',ht',Zg h e.symm ho⟩
def Yn (T U:List Tm):Nat:=(U.filter λu=>!P2 T u).length
theorem UC {α:Type} {p q:α->Bool}:∀{l:List α},(∀x∈l,q x=true->p x=true)->(∃x∈l,p x=true/\q x=false)->(l.filter q).length<(l.filter p).length
 | [],_,⟨x,hx,_⟩=>absurd hx List.not_mem_nil
 |a::l,h,⟨x,hx,hp,hq⟩=>by
  have Nh:∀{l:List α},(∀x∈l,q x=true->p x=true)->(l.filter q).length<=(l.filter p).length:=by
   intro l
   induction l with
   |nil=>intro _;exact yH _
   |cons a l ih =>
    intro h;have:=ih λx hx=>h x (yE _ hx);rw[xp,xp];by_cases ha:q a=true
    .rw[if_pos ha,if_pos (h a yG ha)];simp only[xm];omega
    .rw[if_neg ha];by_cases hb:p a=true
     .rw[if_pos hb];simp only[xm];omega
     .rw[if_neg hb];exact this
  have h':∀x∈l,q x=true->p x=true:=λx hx=>h x (yE _ hx);rw[xp,xp];rcases yO.1 hx with rfl|hx
  .rw[if_pos hp,if_neg (by simp[hq])];have:=Nh h';simp only[xm];omega
  .have:=UC h' ⟨x,hx,hp,hq⟩;by_cases ha:q a=true
   .rw[if_pos ha,if_pos (h a yG ha)];simp only[xm];omega
   .rw[if_neg ha];by_cases hb:p a=true
    .rw[if_pos hb];simp only[xm];omega
    .rw[if_neg hb];exact this
theorem oh {T T' U:I2} {u:Tm} (h:∀e,e∈T'.map D5↔e=D5 u\/e∈T.map D5) (hu:u∈U) (hn:P2 T u=false):Yn T' U<Yn T U:=by
 refine UC (λx _ hx=>?_) ⟨u,hu,by simp[hn],?_⟩
 .simp only[Bool.not_eq_true']at hx ⊢;rw[Bool.eq_false_iff]at hx ⊢;exact λk=>hx (Pi (λe he=>(h e).2 (.inr he)) k)
 .have:P2 T' u=true:=s9.2 ((h _).2 (.inl rfl));simp[this]
structure ClS (S U T:List Tm):Prop where
 srt:d9 T
 ok:∀x∈T,OkT x
 kn:∀e,e∈T.map D5->Kn S U e
 sub:cO S T
 len:T.length+Yn T U<=S.length+U.length
theorem dU (m:I8) (S U T:I2) (hb:S.length+U.length<=1048576) (hU:∀x∈U,OkT x) (hT:ClS S U T) (fr:Fr) (h:AH) (h0:∃mT,A0 fr 0=sl mT 4 (A3 T)) (h5:A0 fr 5=.bool false) (hl:fr.length=29) (h9:A0 fr 9=sl m 4 (A3 U)) (h10:A0 fr 10=.int .i64 U.length) (h11:A0 fr 11=.int .i64 0) :
  C8 (lp (A1 (Q8 Q) (G7 U4) K6) (fr,h)) λe D4 h'=>Kp K6.wr fr D4/\(e=.exit 2/\∃(T':List Tm) (mT:Bool×Bool) (c:Bool),A0 D4 0=sl mT 4 (A3 T')/\A0 D4 5=.bool c/\ClS S U T'/\(c=true/\Yn T' U<Yn T U\/c=false/\T'=T/\∀u∈U,P2 T u=true\/Ec T u=false)):=by
 refine C3 rfl fr (λn fr h'=>∃(i:Nat),i+n=U.length/\A0 fr 11=.int .i64 (i:Nat)/\(∃(T':List Tm) (mT:Bool×Bool) (c:Bool),A0 fr 0=sl mT 4 (A3 T')/\A0 fr 5=.bool c/\ClS S U T'/\(c=true/\Yn T' U<Yn T U\/c=false/\T'=T/\∀u∈U.take i,P2 T u=true\/Ec T u=false))) ?_ U.length h ⟨0,by omega,h11,T,h0.choose,false,h0.choose_spec,h5,hT,.inr ⟨rfl,rfl,λu hu=>(nomatch hu)⟩⟩;rintro J Φ hJ hΦ n G9 H1 K ⟨i,hi,k11,hr⟩;have B4:=K.1.trans hl;have k9:=A5 K 9 h9;have k10:=A5 K 10 h10;clear K;by_cases A6:i<U.length
 .have V7:=E5 i (by omega);obtain⟨T',mT,c,k0,k5,hC,hc⟩:=hr;have hx:=S4 A6;have Jd:=yK A6;have ho:=hU _ Jd;have hs2:∀x∈T',x.size<=1099511627776:=λx hx=>by have:=(hC.ok x hx).size;omega
  have hTl:T'.length<=1048576:=by have:=hC.len;omega
  have hH:=Ge mT T' U[i] hC.srt (by omega) hs2 (by have:=ho.size;omega);have htk:∀u∈U.take (i+1),u∈U.take i\/u=U[i]:=λu hu=>by
   rw[xk A6]at hu;rcases yB.1 hu with h|h
   .exact .inl h
   .exact .inr (xw.1 h)
  obtain⟨bx,F⟩:=H1;by_cases hh:P2 T' U[i]=true
  .have hc':c=true/\Yn T' U<Yn T U\/c=false/\T'=T/\∀u∈U.take (i+1),P2 T u=true\/Ec T u=false:=by
    rcases hc with hc|⟨c1,c2,c3⟩
    .exact .inl hc
    .refine .inr ⟨c1,c2,λu hu=>?_⟩;rcases htk u hu with h|h
     .exact c3 u h
     .rw[h,←c2];exact .inl hh
   rw[hh]at hH;clear htk hc;generalize U[i]=s at *
   simp[K6,B4,k9,k10,k11,A6,V7,k0,hx,hH];exact O4 hJ ⟨i+1,by omega,by simp[B4],T',mT,c,by simp[k0],by simp[k5],hC,hc'⟩
  .have hh':P2 T' U[i]=false:=by simpa using hh
   have hS:=kx mT T' hC.srt hTl hC.ok U[i] ho hh';rw[hh']at hH;by_cases DH:Ec T' U[i]=true
   .obtain⟨T2,m2,hW,w1,w2,w3,w4⟩:=ky mT T' U[i] hC.srt hTl hs2 (by have:=ho.size;omega) hh';have hlt2:=oh w2 Jd hh';have hC2:ClS S U T2:=⟨w1,λx hx=>by
      rcases w3 x hx with rfl|hx
      .exact ho
      .exact hC.ok x hx,λe he=>by
      rcases (w2 e).1 he with rfl|he
      .exact .step T' hC.kn _ Jd DH
      .exact hC.kn e he,λe he=>(w2 e).2 (.inr (hC.sub e he)),by have:=hC.len;omega⟩
    have hlt3:Yn T2 U<Yn T U:=by
     rcases hc with ⟨-,hc⟩|⟨-,rfl,-⟩
     .omega
     .exact hlt2
    rw[DH]at hS;clear htk hc;generalize U[i]=s at *
    simp[K6,B4,k9,k10,k11,A6,V7,k0,hx,hH,hS,hW];exact O4 hJ ⟨i+1,by omega,by simp[B4],T2,m2,true,by simp[B4],by simp[B4],hC2,.inl ⟨rfl,hlt3⟩⟩
   .have hst':Ec T' U[i]=false:=by simpa using DH
    have hc':c=true/\Yn T' U<Yn T U\/c=false/\T'=T/\∀u∈U.take (i+1),P2 T u=true\/Ec T u=false:=by
     rcases hc with hc|⟨c1,c2,c3⟩
     .exact .inl hc
     .refine .inr ⟨c1,c2,λu hu=>?_⟩;rcases htk u hu with h|h
      .exact c3 u h
      .rw[h,←c2];exact .inr hst'
    rw[hst']at hS;clear htk hc;generalize U[i]=s at *
    simp[K6,B4,k9,k10,k11,A6,V7,k0,hx,hH,hS];exact O4 hJ ⟨i+1,by omega,by simp[B4],T',mT,c,by simp[k0],by simp[k5],hC,hc'⟩
 .obtain⟨T',mT,c,k0,k5,hC,hc⟩:=hr;rw[xo (by omega)]at hc;simp[K6,B4,k10,k11,A6];exact hΦ _ _ _ ⟨rfl,T',mT,c,by simp[k0],by simp[k5],hC,hc⟩
theorem ce {S U T:I2} (hC:ClS S U T) (Cc:∀u∈U,P2 T u=true\/Ec T u=false) {e:Tm} (h:Kn S U e):e∈T.map D5:=by
 induction h with
 |base e h=>exact hC.sub e h
 |step T0 _ u hu hs ih =>
  rcases Cc u hu with h|h
  .exact s9.1 h
  .rw[Sz ih hs]at h;cases h
theorem Zm (m mu:I8) (S U:I2) (hb:S.length+U.length<=524288) (hS:d9 S) (hSo:∀x∈S,OkT x) (hU:∀x∈U,OkT x) :
  ∃(R:List Tm) (m':Bool×Bool),pc Q U4 [sl m 4 (A3 S),sl mu 4 (A3 U)]=some (sl m' 4 (A3 R))/\d9 R/\(∀x∈R,OkT x)/\R.length<=1048576/\∀e,e∈R.map D5↔Kn S U e:=by
 suffices h:∃v,pc Q U4 [sl m 4 (A3 S),sl mu 4 (A3 U)]=some v/\∃q:List Tm×(Bool×Bool),v=sl q.2 4 (A3 q.1)/\d9 q.1/\(∀x∈q.1,OkT x)/\q.1.length<=1048576/\∀e,e∈q.1.map D5↔Kn S U e by
  obtain⟨v,h1,q,rfl,h2⟩:=h;exact⟨q.1,q.2,h1,h2⟩
 have hunk:Yn S U<=U.length:=yD _ _;have h0C:ClS S U S:=⟨hS,hSo,λe he=>.base e he,λe he=>he,by omega⟩;refine Ta Bt λΨ hΨ fr hl h0 h1=>?_;simp[Bt]at hl h0 h1;simp[Bt];refine(C3 (Ψ:=λe D4 h'=>e=.exit 0/\∃(T:List Tm) (mT:Bool×Bool),A0 D4 0=sl mT 4 (A3 T)/\ClS S U T/\∀u∈U,P2 T u=true\/Ec T u=false) rfl _
  (λn D4 h'=>∃(T:List Tm) (mT:Bool×Bool) (c:Bool),A0 D4 0=sl mT 4 (A3 T)/\A0 D4 5=.bool c/\ClS S U T/\(c=true/\n=Yn T U+1\/c=false/\∀u∈U,P2 T u=true\/Ec T u=false)) ?_ (Yn S U+1) _
  ⟨S,m,true,by simp[h0],by simp[hl],h0C,.inl ⟨rfl,rfl⟩⟩).mono ?_
 .rintro J Φ hJ hΦ n G9 H1 K ⟨T,mT,c,k0,k5,hC,hc⟩;have B4:G9.length=29:=K.1.trans (by simp[hl]);have k1:=A5 K 1 (by simp[h1]:_=sl mu 4 (A3 U));clear K h0 h1;rcases hc with ⟨rfl,rfl⟩|⟨rfl,Cc⟩
  .simp[Am,B4,k5,k1];refine C8.mono (dU mu S U T (by omega) hU hC _ _ ⟨mT,?_⟩ ?_ ?_ ?_ ?_ ?_) ?_<;>first|(simp[B4,k0];done)|skip
   rintro e Cs h2 ⟨K,rfl,T',mT',c,k0',k5',hC',hc'⟩;simp;rcases hc' with ⟨rfl,A6⟩|⟨rfl,rfl,Cc⟩
   .exact⟨Yn T' U+1,by omega,hJ _ _ _ ⟨T',mT',true,k0',k5',hC',.inl ⟨rfl,rfl⟩⟩⟩
   .exact⟨0,by omega,hJ _ _ _ ⟨T',mT',false,k0',k5',hC',.inr ⟨rfl,Cc⟩⟩⟩
  .simp[Am,B4,k5];exact hΦ _ _ _ ⟨rfl,T,mT,by simp[k0],hC,Cc⟩
 .rintro e G9 Jb ⟨K,rfl,T,mT,k0,hC,Cc⟩;have B4:G9.length=29:=K.1.trans (by simp[hl]);simp[B4,k0];exact hΨ _ ⟨(T,mT),rfl,hC.srt,hC.ok,by have:=hC.len;change T.length<=_;omega,λe=>⟨hC.kn e,ce hC Cc⟩⟩
theorem OV {S S' U U':I2} (hS:∀e,e∈S.map D5->e∈S'.map D5) (hU:∀e,e∈U.map D5->e∈U'.map D5) {e:Tm} (h:Kn S U e):Kn S' U' e:=by
 induction h with
 |base e h=>exact .base e (hS e h)
 |step T _ u hu hs ih =>
  obtain⟨u',hu',e⟩:=yQ.1 (hU _ (yF hu));rw[←e];refine .step T ih u' hu' ?_;have e1:Rv u'=Rv u:=by
   obtain⟨q1,q2,q3,-⟩:=JL e;unfold Rv;rw[q1,q2,q3]
  have e2:FK T u'=FK T u:=by
   obtain⟨q1,q2,-,q4⟩:=JL e;unfold FK Ie;rw[q1,q2];congr 1;have:∀l l':List Tm,G8 l=G8 l'->l.all (P2 T)=l'.all (P2 T):=by
    intro l
    induction l with
    |nil=>intro l' h;cases l' with
     |nil=>rfl
     |cons a l'=>simp[G8]at h
    |cons a l ih=>intro l' h;cases l' with
     |nil=>simp[G8]at h
     |cons b l' =>
      simp only[G8,List.cons.injEq]at h;rw[yM,yM,RD h.1,ih _ h.2]
   exact this _ _ q4
  have e3:Hw T u'=Hw T u:=by
   unfold Hw;congr 1;funext t;unfold IV;rw[RA (a:=N3 t 0) rfl e,RA (a:=N3 t 1) rfl e]
  unfold Ec at hs ⊢;rw[e1,e2,e3];exact hs
def PW (k:List Tm) (t:Tm):Prop:=Kn k (alls (k++[t])) (D5 t)
open Classical in
noncomputable def mZ (k:List Tm) (t:Tm) (n:Nat):AV:=if 60<k.length\/200<n then .tup [.bool false,.int .i64 3]else .tup [.bool (decide (PW k t)),.int .i64 0]
open Classical in
theorem Vi (m:I8) (k:I2) (t:Tm) (hk:∀x∈k,GoodT x) (ht:GoodT t) (CI:k.length<=1048576) :
  ∃U:List Tm,pc Q O0 [sl m 4 (A3 k),B8 t]=some (mZ k t U.length)/\(k.length<=60->O1 U (alls (k++[t]))):=by
 obtain⟨U,mu,hU,hU2⟩:=YC m (true,true) k [t] hk (λx hx=>by rw[xw.1 hx];exact ht) CI (yH _);rw[show A3 [t]=[B8 t] from rfl]at hU;refine⟨U,?_,λh=>(hU2 h).1⟩;unfold jK at hU;unfold mZ;by_cases hc:60<k.length\/200<U.length
 .rw[if_pos hc]at hU ⊢;refine Q6 R9 λfr hl h0 h1=>?_;simp[R9]at hl h0 h1;simp[R9,hl,h0,h1,hU,A4]
 .rw[if_neg hc]at hU ⊢;obtain⟨IK,-⟩:=hU2 (by omega);have Lf:∀x∈k++[t],OkT x:=λx hx=>by
   rcases yB.1 hx with h|h
   .exact(hk x h).ok
   .rw[xw.1 h];exact ht.ok
  have hUo:=OkT.set IK (OkT.alls Lf);obtain⟨S,ms,hS,hSset,hSsub,hSl⟩:=Xz m k (λx hx=>by have:=(hk x hx).size;omega) CI;obtain⟨R,mr,hC,hRs,hRo,hRl,hRk⟩:=Zm ms mu S U (by omega) hSset.1 (λx hx=>(hk x (hSsub x hx)).ok) hUo;have hH:=Ge mr R t hRs (by omega) (λx hx=>by have:=(hRo x hx).size;omega) (by have:=ht.size;omega);have he:P2 R t=decide (PW k t):=by
   rw[yA,s9,hRk,decide_eq_true_iff];exact⟨OV (λe=>(hSset.2 e).1) (λe=>(IK.2 e).1),OV (λe=>(hSset.2 e).2) (λe=>(IK.2 e).2)⟩
  rw[he]at hH;generalize decide (PW k t)=b at *
  refine Q6 R9 λfr hl h0 h1=>?_;simp[R9]at hl h0 h1;simp[R9,hl,h0,h1,hU,hS,hC,hH,A4]
end Go.Abs.Q
namespace Go.Abs
def Iw (wr:Bool) (sz:Nat) (xs:List AV) (v:AV) (h:AH):Prop:=(∃b,v=sl (true,b) sz xs)\/(xs≠[]/\∃k,v=.sl k xs.length 0 xs.length/\h.fams[k]?=some ⟨xs,sz,wr⟩)
theorem aR (wr:Bool) (sz:Nat) (h:AH):Iw wr sz [] (.vs true 0 []) h:=.inl ⟨false,by simp[sl]⟩
theorem fL (wr:Bool) (sz:Nat) (xs:E6) (b:Bool) (h:AH):Iw wr sz xs (sl (true,b) sz xs) h:=.inl ⟨b,rfl⟩
theorem P5 {wr:Bool} {sz:Nat} {xs:E6} {v:AV} {h h':AH} (hg:Iw wr sz xs v h) (e:h'.fams=h.fams):Iw wr sz xs v h':=by
 rcases hg with hg|⟨h1,k,h2,h3⟩
 .exact .inl hg
 .exact .inr ⟨h1,k,h2,by rw[e];exact h3⟩
theorem OW {c:Ctx} {sz bytes:Nat} {xs ys:E6} {v x:AV} {h:AH} (hg:Iw c.mutApp sz xs v h) (hx:elems h sz x=some ys) (hb:(xs.length+ys.length)*bytes<=G4/\xs.length+ys.length<=maxLen) :
  ∃v' F',L5 c h sz bytes v x=some (v',⟨h.boxes,F'⟩)/\Iw c.mutApp sz (xs++ys) v' ⟨h.boxes,F'⟩/\∀j,j<h.fams.length->(∀n o l,v≠.sl j n o l)->F'[j]?=h.fams[j]?:=by
 rcases hg with ⟨b,rfl⟩|⟨M5,k,rfl,hk⟩
 .simp only[sl,L5,hx];by_cases hy:ys.length=0
  .rw[if_pos hy];have:ys=[]:=List.eq_nil_of_length_eq_zero hy;subst this;exact⟨_,h.fams,rfl,.inl ⟨b,by simp[sl]⟩,λ_ _ _=>rfl⟩
  .rw[if_neg hy];have hc:((if (xs.isEmpty&&!b)=true then 0 else sz)=sz\/xs.length=0)/\(xs.length+ys.length)*bytes<=G4/\xs.length+ys.length<=maxLen:=by
    refine⟨?_,hb⟩;cases xs with
    |nil=>exact .inr rfl
    |cons a l=>exact .inl rfl
   rw[if_pos hc];refine⟨_,_,rfl,.inr ⟨by intro e;rw[yC]at e;rw[e.2]at hy;exact hy rfl,h.fams.length,by rw[xu],by simp⟩,λj hj _=>List.getElem?_append_left hj⟩
 .simp only[L5,hx,hk];rw[if_pos ⟨trivial,trivial,by omega,hb.1,hb.2⟩];have CI:=(xz.1 hk).1;refine⟨_,_,rfl,.inr ⟨by intro e;rw[yC]at e;exact M5 e.1,k,by rw[xu],by simp[CI]⟩,λj hj hv=>?_⟩;have:k≠j:=λe=>hv _ _ _ (by rw[e]);exact List.getElem?_set_ne this
theorem Qw {wr:Bool} {sz:Nat} {xs:E6} {v:AV} {h:AH} (hg:Iw wr sz xs v h):∃m:Bool×Bool,∀(B:List (List AV)) (am:Bool),(am||!wr)=true->frz ⟨B,h.fams⟩ am v=some (sl m sz xs)/\y8 ⟨B,h.fams⟩ am v=some (sl m sz xs):=by
 rcases hg with ⟨b,rfl⟩|⟨M5,k,rfl,hk⟩
 .exact⟨(true,b),λB am _=>⟨rfl,rfl⟩⟩
 .have he:xs.isEmpty=false:=by cases xs with
   |nil=>exact absurd rfl M5
   |cons a l=>rfl
  refine⟨(false,true),λB am ha=>?_⟩;have:y8 ⟨B,h.fams⟩ am (.sl k xs.length 0 xs.length)=some (sl (false,true) sz xs):=by
   simp only[y8,hk];rw[if_pos ⟨trivial,by omega,ha⟩];simp[sl,he]
  exact⟨this,this⟩
theorem OX {wr:Bool} {sz:Nat} {xs:E6} {v:AV} {h:AH} (hg:Iw wr sz xs v h):∃m:Bool×Bool,∀B:List (List AV),Bn ⟨B,h.fams⟩ v=some (sl m sz xs):=by
 obtain⟨m,hm⟩:=Qw hg;refine⟨m,λB=>?_⟩;have:=(hm B true rfl).1;rcases hg with ⟨b,rfl⟩|⟨_,k,rfl,_⟩<;>exact this
theorem RU {sz:Nat} {xs:E6} {v:AV} {h:AH} (hg:Iw false sz xs v h) (B:List (List AV)):tame ⟨B,h.fams⟩ v=true:=by
 rcases hg with ⟨b,rfl⟩|⟨M5,k,rfl,hk⟩
 .rfl
 .show (match h.fams[k]? with|some f=>!f.wr|none=>false)=true
  rw[hk];rfl
theorem KA {wr:Bool} {sz:Nat} {xs:E6} {v:AV} {h:AH} (hg:Iw wr sz xs v h):v.isTup=false/\v.cells=[v]/\CJ [v]=false/\KO v=true:=by
 rcases hg with ⟨b,rfl⟩|⟨_,k,rfl,_⟩<;>exact⟨rfl,rfl,rfl,rfl⟩
theorem jZ {wr:Bool} {sz:Nat} {xs:E6} {v:AV} {h:AH} (hg:Iw wr sz xs v h) (h':AH):Pn h' v=some (.int .i64 xs.length,h'):=by
 rcases hg with ⟨b,rfl⟩|⟨_,k,rfl,_⟩<;>rfl
theorem Th {wr:Bool} {sz:Nat} {xs:E6} {v:AV} {h:AH} (hg:Iw wr sz xs v h) (B:List (List AV)):elems ⟨B,h.fams⟩ sz v=some xs:=by
 rcases hg with ⟨b,rfl⟩|⟨M5,k,rfl,hk⟩
 .exact O5 _ _ _ _
 .simp[elems,hk]
theorem Ru {h h':AH} {v:AV} {r:Option (AV×AH)} (hr:r=some (v,h')) (hv:KO v=true) (hb:∃B,h'.boxes=h.boxes++B):US true h r=some (v,⟨h.boxes,h'.fams⟩):=by
 obtain⟨B,hB⟩:=hb;obtain⟨bx,F⟩:=h';simp only at hB;subst hB;rw[hr];exact sE h v B F hv
end Go.Abs
namespace Go.Abs.Q
open Go.Proofs
attribute [local simp] D0 D1 fin I1 E7 K8 I3 N6 P4
def KC (l:List Tm) (t:Tm):List Tm:=if l.any (λu=>GW t u)=true then l else l++[t]
theorem Wd (l:I2) (t:Tm):(KC l t).length<=l.length+1/\l.length<=(KC l t).length:=by
 unfold KC;split
 .omega
 .rw[xu];simp
theorem We {l:I2} {t x:Tm} (h:x∈KC l t):x∈l\/x=t:=by
 unfold KC at h;split at h
 .exact .inl h
 .rcases yB.1 h with h|h
  .exact .inl h
  .exact .inr (by simpa using h)
theorem jg (l:I2) (t:Tm):(l.any λu=>GW t u)=P2 l t:=by
 unfold P2;congr 1;funext u;unfold GW;rw[yA,decide_eq_true_iff,decide_eq_true_iff,AF,AF];exact⟨Eq.symm,Eq.symm⟩
open Classical in
noncomputable def KB (l:List Tm) (t:Tm):List Tm:=if t∈l then l else l++[t]
theorem jf (l:I2) (t:Tm):(KC l t).map D5=KB (l.map D5) (D5 t):=by
 unfold KC KB;rw[jg];by_cases h:P2 l t=true
 .rw[if_pos h,if_pos (s9.1 h)]
 .rw[if_neg h,if_neg (λk=>h (s9.2 k)),xt];rfl
theorem ko (t u:Tm) (ht:t.size<=1099511627776) (hu:u.size<=1099511627776):pc Q Hu [B8 u,.pv (B8 t).cells]=some (.bool (GW t u)):=by
 have hC:=Z4 _ t u (yH _) ht hu;refine Q6 La λfr hl h0 h1=>?_;simp[La]at hl h0 h1;simp[La,hl,h0,h1,hC,GW]
theorem ic (G1:I2) (v:AV) (h:AH) (hg:Iw false 4 (A3 G1) v h) (t:Tm) (hl:G1.length<=1048576) (hs:∀x∈G1,x.size<=1099511627776) (ht:t.size<=1099511627776) :
  ∃v' h',rc Q U0 [v,B8 t] h=some (v',h')/\Iw false 4 (A3 (KC G1 t)) v' h'/\∃B,h'.boxes=h.boxes++B:=by
 obtain⟨m,hf⟩:=Qw hg;have htm:=RU hg;have hC:=PE m G1 Hu [.pv (B8 t).cells] (λu=>GW t u) rfl hl (λh x=>by simp) (λh=>rfl) rfl (λx hx=>ko t x ht (hs x hx));obtain⟨bx,F⟩:=h;have hF:=λB=>(hf B true rfl).1;simp only at hF htm;have e2:A3 (G1++[t])=A3 G1++[B8 t]:=Dz G1 t;have hap:∀B,∃v' F',L5 (G7 U0) ⟨B,F⟩ 4 56 v (sl (true,true) 4 [B8 t])=some (v',⟨B,F'⟩)/\Iw false 4 (A3 G1++[B8 t]) v' ⟨B,F'⟩:=λB=>by
  obtain⟨v',F',a1,a2,_⟩:=OW (c:=G7 U0) (bytes:=56) (x:=sl (true,true) 4 [B8 t]) (ys:=[B8 t]) (h:=⟨B,F⟩) (P5 hg rfl) (O5 _ _ _ _) (by simp only[G4,maxLen,D7,xr,xq];omega);exact⟨v',F',a1,a2⟩
 obtain⟨va,Fa,ha,hLa⟩:=hap (bx++[[.rbox (B8 t).cells]]);simp only[H3]at hC;unfold KC;cases hb:G1.any (λu=>GW t u)with
 |true =>
  rw[hb]at hC;simp only[if_true];refine FT Gr λfr hl h0 h1=>?_;simp[Gr]at hl h0 h1;simp[Gr,hl,h0,h1,Ak,hF,htm,hC];exact P5 hg rfl
 |false =>
  rw[hb]at hC;simp only[Bool.false_eq_true,if_false];rw[e2];simp only[H3]at ha hLa;refine FT Gr λfr hl h0 h1=>?_;simp[Gr]at hl h0 h1;simp[Gr,hl,h0,h1,Ak,hF,htm,hC,A4,ha];exact hLa
theorem PJ (G1:I2) (v:AV) (h:AH) (hg:Iw false 4 (A3 G1) v h) (t:Tm) (hl:G1.length<=1048576) (hs:∀x∈G1,x.size<=1099511627776) (ht:t.size<=1099511627776) :
  ∃v' F',US true h (rc Q U0 [v,B8 t] h)=some (v',⟨h.boxes,F'⟩)/\Iw false 4 (A3 (KC G1 t)) v' ⟨h.boxes,F'⟩:=by
 obtain⟨v',h',h1,h2,h3⟩:=ic G1 v h hg t hl hs ht;exact⟨v',h'.fams,Ru h1 (KA h2).2.2.2 h3,P5 h2 rfl⟩
end Go.Abs.Q
namespace Go.Abs.Q
open Go.Proofs
attribute [local simp] D0 D1 fin I1 E7 K8 I3 N6 P4
def HU (a:ByteArray):Tm:=.mk 2 a 1 (true,false) []
theorem mL (a:H7):AV.agg [.int .i64 2,.str a,.int .i64 1,sl (true,false) 4 []]=B8 (HU a):=by simp[HU,B8,A3]
def Y4 (nm:ByteArray) (m:Bool×Bool) (l:List Tm):Tm:=.mk 3 nm 0 m l
theorem fY (nm:H7) (m:I8) (l:I2):AV.agg [.int .i64 3,.str nm,.int .i64 0,sl m 4 (A3 l)]=B8 (Y4 nm m l):=rfl
theorem SP (a:H7):pc Q Dr [.str a]=some (B8 (HU a)):=by
 rw[←mL];refine N4 Lb λfr hl h0=>?_;simp[Lb]at hl h0;simp[Lb,hl,h0,D2,E8];exact Dc _ rfl _ _
theorem SS (nm:H7) (m:I8) (l:I2):pc Q r6 [.str nm,sl m 4 (A3 l)]=some (B8 (Y4 nm m l)):=by
 rw[←fY];refine Q6 OO λfr hl h0 h1=>?_;simp[OO]at hl h0 h1;simp[OO,hl,h0,h1,D2,E8]
theorem Vg (a:H7) (s:Int):pc Q Fi [.str a,.int .i64 s]=some (B8 (.mk 2 a s (true,false) [])):=by
 have e:B8 (.mk 2 a s (true,false) [])=.agg [.int .i64 2,.str a,.int .i64 s,sl (true,false) 4 []]:=by simp[B8,A3]
 rw[e];refine Q6 LU λfr hl h0 h1=>?_;simp[LU]at hl h0 h1;simp[LU,hl,h0,h1,D2,E8];exact Dc _ rfl _ _
theorem Qb (m:I8) (l:I2) (C2:l.length<=1048576) (IH:∀t∈l,∃(m':I8) (l':I2),pc Q Q1 [sl t.cm 4 (A3 t.kids)]=some (sl m' 4 (A3 l'))/\G8 l'=G8 t.kids) (fr:Fr) (h:AH) (h3:A0 fr 3=.vs true 0 []) (hl:fr.length=24) (h7:A0 fr 7=sl m 4 (A3 l)) (h8:A0 fr 8=.int .i64 l.length) (h9:A0 fr 9=.int .i64 0) :
  C8 (lp (A1 (Q8 Q) (G7 Q1) Cp) (fr,h)) λe D4 h'=>Kp Cp.wr fr D4/\e=.exit 0/\∃(done:List Tm),Iw false 4 (A3 done) (A0 D4 3) h'/\G8 done=G8 l:=by
 refine C3 rfl fr (λn fr h'=>∃(i:Nat),i+n=l.length/\A0 fr 9=.int .i64 (i:Nat)/\(∃(v:AV) (done:List Tm),A0 fr 3=v/\Iw false 4 (A3 done) v h'/\G8 done=G8 (l.take i)/\done.length=i)) ?_ l.length h ⟨0,by omega,h9,_,[],h3,aR _ _ _,by simp[G8],rfl⟩;rintro J Φ hJ hΦ n G9 H1 K ⟨i,hi,k9,hr⟩;have B4:=K.1.trans hl;have k7:=A5 K 7 h7;have k8:=A5 K 8 h8;clear K;by_cases A6:i<l.length
 .have V7:=E5 i (by omega);obtain⟨v,done,k3,hg,hd,EF⟩:=hr;obtain⟨bx,fams⟩:=H1;have hx:=S4 A6;obtain⟨m',l',hI,hI2⟩:=IH l[i] (yK A6);generalize hs:l[i]=s at *
  have hc:D5 (.mk s.kind s.name s.sort m' l')=D5 s:=by
   obtain⟨k,nm,so,ms,ks⟩:=s;simp only[Tm.kind,Tm.name,Tm.sort,Tm.kids,D5]at hI2 ⊢;rw[hI2]
  have e2:G8 (done++[.mk s.kind s.name s.sort m' l'])=G8 (l.take (i+1)):=by
   rw[xk A6,D3,xt,←D3,hd,D3,D3,xt,yN,yP,yN,yP,hc,hs]
  have ha:∀B,∃v' F',L5 (G7 Q1) ⟨B,fams⟩ 4 56 v (sl (true,true) 4 [B8 (.mk s.kind s.name s.sort m' l')])=some (v',⟨B,F'⟩)/\Iw false 4 (A3 (done++[.mk s.kind s.name s.sort m' l'])) v' ⟨B,F'⟩:=λB=>by
   obtain⟨v',F',a1,a2,-⟩:=OW (c:=G7 Q1) (bytes:=56) (x:=sl (true,true) 4 [B8 (.mk s.kind s.name s.sort m' l')]) (ys:=[B8 (.mk s.kind s.name s.sort m' l')]) (h:=⟨B,fams⟩) (P5 hg rfl) (O5 _ _ _ _) (by simp only[G4,maxLen,D7,xr,xq];omega);rw[Dz];exact⟨v',F',a1,a2⟩
  obtain⟨v',F',ha1,ha2⟩:=ha (bx++[(B8 s).cells,[.int .i64 s.kind,.str s.name,.int .i64 s.sort,sl m' 4 (A3 l')]]);simp only[←tr,H3]at ha1 ha2;clear hs hd hc hg;simp[Cp,B4,k7,k8,k9,A6,V7,k3,hx,hI,A4,ha1];exact O4 hJ ⟨i+1,by omega,by simp[B4],_,_,rfl,by simp[B4];exact ha2,e2,by simp[EF]⟩
 .obtain⟨v,done,k3,hg,hd,EF⟩:=hr;rw[xo (by omega)]at hd;simp[Cp,B4,k8,k9,A6];exact hΦ _ _ _ ⟨rfl,done,by simp[k3];exact P5 hg rfl,hd⟩
theorem Px:∀(N:Nat) (m:I8) (l:I2),Tm.sizes l<=N->Tm.sizes l<=1048576->∃(m':I8) (l':I2),pc Q Q1 [sl m 4 (A3 l)]=some (sl m' 4 (A3 l'))/\G8 l'=G8 l:=by
 intro N
 induction N with
 |zero =>
  intro m l h _;have hl0:l=[]:=by
   cases l with
   |nil=>rfl
   |cons a l=>have:=a.size_pos;simp only[Tm.sizes]at h;omega
  subst hl0
  suffices hq:∃v,pc Q Q1 [sl m 4 (A3 [])]=some v/\∃q:(Bool×Bool)×List Tm,v=sl q.1 4 (A3 q.2)/\G8 q.2=G8 [] by
   obtain⟨v,h1,q,rfl,h2⟩:=hq;exact⟨q.1,q.2,h1,h2⟩
  refine Jk DB λΨ hΨ fr hl h0=>?_;simp[DB]at hl h0;simp[DB,hl,h0];refine C8.mono (Qb m [] (by simp) (λt ht=>nomatch ht) _ _ ?_ ?_ ?_ ?_ ?_) ?_<;>first|(simp[hl];done)|skip
  rintro e G9 ⟨bx,F⟩ ⟨K,rfl,done,hg,hd⟩;have B4:G9.length=24:=K.1.trans (by simp[hl]);obtain⟨m',hf⟩:=OX hg;simp only at hf;simp[B4,hf];exact hΨ _ ⟨(m',done),rfl,hd⟩
 |succ N IH =>
  intro m l h hb;have C2:=Tm.length_le l
  suffices hq:∃v,pc Q Q1 [sl m 4 (A3 l)]=some v/\∃q:(Bool×Bool)×List Tm,v=sl q.1 4 (A3 q.2)/\G8 q.2=G8 l by
   obtain⟨v,h1,q,rfl,h2⟩:=hq;exact⟨q.1,q.2,h1,h2⟩
  refine Jk DB λΨ hΨ fr hl h0=>?_;simp[DB]at hl h0;simp[DB,hl,h0];refine C8.mono (Qb m l (by omega) (λt ht=>?_) _ _ ?_ ?_ ?_ ?_ ?_) ?_<;>first|(simp[hl];done)|skip
  .have h1:=Tm.size_le ht;have h2:=t.kids_size;exact IH t.cm t.kids (by omega) (by omega)
  rintro e G9 ⟨bx,F⟩ ⟨K,rfl,done,hg,hd⟩;have B4:G9.length=24:=K.1.trans (by simp[hl]);obtain⟨m',hf⟩:=OX hg;simp only at hf;simp[B4,hf];exact hΨ _ ⟨(m',done),rfl,hd⟩
def Dw (r n:Nar):AV:=.agg ((V8 r).cells++(V8 n).cells)
theorem AR (r n:Nar):(Dw r n).cells=[.str r.name,sl r.rm 1 (r.roles.map .str),sl r.fm 3 (r.fresh.map Gy),sl r.tm 1 (r.tags.map .str),sl r.sm 7 (r.steps.map Cl),sl r.gm 5 (r.goals.map DQ),.str n.name,sl n.rm 1 (n.roles.map .str),sl n.fm 3 (n.fresh.map Gy),sl n.tm 1 (n.tags.map .str),sl n.sm 7 (n.steps.map Cl),sl n.gm 5 (n.goals.map DQ)]:=rfl
@[simp] theorem wj (r n:Nar):AV.agg [.str r.name,sl r.rm 1 (r.roles.map .str),sl r.fm 3 (r.fresh.map Gy),sl r.tm 1 (r.tags.map .str),sl r.sm 7 (r.steps.map Cl),sl r.gm 5 (r.goals.map DQ),.str n.name,sl n.rm 1 (n.roles.map .str),sl n.fm 3 (n.fresh.map Gy),sl n.tm 1 (n.tags.map .str),sl n.sm 7 (n.steps.map Cl),sl n.gm 5 (n.goals.map DQ)]=Dw r n:=rfl
@[simp] theorem tN (r n:Nar):(Dw r n).isTup=false:=rfl
@[simp] theorem wk (h:AH) (am:Bool) (r n:Nar):frz h am (Dw r n)=some (Dw r n):=rfl
@[simp] theorem vC (h:AH) (r n:Nar):tame h (Dw r n)=true:=rfl
@[simp] theorem pu (h:AH) (n:Nar):Bn h (V8 n)=some (V8 n):=rfl
theorem ig:AV.agg [.str (bs []),sl (true,false) 1 [],sl (true,false) 1 [],sl (true,false) 1 [],sl (true,false) 1 [],sl (true,false) 1 [],.str (bs []),sl (true,false) 1 [],sl (true,false) 1 [],sl (true,false) 1 [],sl (true,false) 1 [],sl (true,false) 1 []]=Dw jS jS:=by
 simp[Dw,V8,jS,sl]
theorem Vq (n:Nar) (F:Fine n) (S:Lens n):∃r,pc Q HO [V8 n]=some (.tup [Dw r n,.int .i64 (Al n).2])/\((Al n).2=0->On r=DD (H5 (B5 n) (E4 n)) n):=by
 obtain⟨r,hR,hE⟩:=Zj n F S;refine⟨r,?_,hE⟩;have nb:=U9 n;have rb:=U9 r;have sb:=AR r n;generalize (Al n).2=e at *
 generalize (Al n).1=e1 at *
 refine N4 Mx λfr hl h0=>?_;simp[Mx]at hl h0;simp[Mx,hl,h0,nb,rb,sb,hR,D2,E8,I9]
def Nt (n:Nar) (role step:Int):Int:=if (Al n).2≠0 then (Al n).2 else if role<0\/(n.roles.length:Int)<=role\/step<0\/(n.steps.length:Int)<step then 7 else 0
theorem MC {n:Nar} {role step:Int} (h:Nt n role step=0):(Al n).2=0/\0<=role/\role.toNat<n.roles.length/\0<=step/\step.toNat<=n.steps.length:=by
 unfold Nt at h;split at h
 .rename_i h1;exact absurd h h1
 .rename_i h1;split at h
  .omega
  .rename_i h2;have Jb:(Al n).2=0:=by
    apply Classical.byContradiction;exact h1
   omega
theorem AI {r n:Nar} {f:ByteArray->Int} (h:On r=DD f n):r.name=n.name/\r.roles=n.roles/\r.fresh=n.fresh/\r.tags=n.tags/\r.steps.map Lo=n.steps.map (Dd f)/\r.goals.map lg=n.goals.map (Ya f):=by
 unfold On DD at h;injection h with h1 h2 h3 h4 h5 h6 h7 h8 h9 h10 h11
 exact⟨h1,h3,h5,h7,h9,h11⟩
theorem Xm (n:Nar) (F:Fine n) (S:Lens n) (role step:Int):∃r n',pc Q KM [V8 n,.int .i64 role,.int .i64 step]=some (.tup [Dw r n',.int .i64 (Nt n role step)])/\(Nt n role step=0->n'=n/\On r=DD (H5 (B5 n) (E4 n)) n):=by
 obtain⟨r,hR,hE⟩:=Vq n F S;have nb:=U9 n;have sb:=AR r n;have sn:=ig;have e0:∀k,sl (true,false) k []=sl (true,false) 1 []:=λk=>Dc _ rfl _ _;by_cases h1:(Al n).2=0
 .have hrl:=(AI (hE h1)).2.1;have Yu:r.steps.length=n.steps.length:=by
   have:=congrArg List.length (AI (hE h1)).2.2.2.2.1;simpa using this
  rw[h1]at hR;by_cases h2:role<0\/(n.roles.length:Int)<=role\/step<0\/(n.steps.length:Int)<step
  .have ha:Nt n role step=7:=by unfold Nt;rw[if_neg (by simp[h1]),if_pos h2]
   rw[ha];refine⟨jS,jS,?_,λh=>by omega⟩;rw[←ig];rw[←hrl,←Yu]at h2;by_cases q1:role<0
   .refine IW S0 λfr hl h0 h1 h2=>?_;simp[S0]at hl h0 h1 h2;simp[S0,hl,h0,h1,nb,sb,hR,q1,D2,E8,I9]
   .by_cases q2:(r.roles.length:Int)<=role
    .refine IW S0 λfr hl h0 h1 h2=>?_;simp[S0]at hl h0 h1 h2;simp[S0,hl,h0,h1,nb,sb,hR,q1,q2,D2,E8,I9]
    .by_cases q3:step<0
     .refine IW S0 λfr hl h0 h1 h2=>?_;simp[S0]at hl h0 h1 h2;simp[S0,hl,h0,h1,h2,nb,sb,hR,q1,q2,q3,D2,E8,I9]
     .have q4:(r.steps.length:Int)<step:=by omega
      refine IW S0 λfr hl h0 h1 h2=>?_;simp[S0]at hl h0 h1 h2;simp[S0,hl,h0,h1,h2,nb,sb,hR,q1,q2,q3,q4,D2,E8,I9]
  .have ha:Nt n role step=0:=by unfold Nt;rw[if_neg (by simp[h1]),if_neg h2]
   rw[ha];refine⟨r,n,?_,λ_=>⟨rfl,hE h1⟩⟩;rw[←hrl,←Yu]at h2;have q1:¬role<0:=λh=>h2 (.inl h);have q2:¬(r.roles.length:Int)<=role:=λh=>h2 (.inr (.inl h));have q3:¬step<0:=λh=>h2 (.inr (.inr (.inl h)));have q4:¬(r.steps.length:Int)<step:=λh=>h2 (.inr (.inr (.inr h)));refine IW S0 λfr hl h0 h1 h2=>?_;simp[S0]at hl h0 h1 h2;simp[S0,hl,h0,h1,h2,nb,sb,hR,q1,q2,q3,q4,I9]
 .have ha:Nt n role step=(Al n).2:=by unfold Nt;rw[if_pos h1]
  rw[ha];refine⟨jS,jS,?_,λh=>absurd h h1⟩;rw[←ig];generalize (Al n).2=e at *
  have M5:=h1;refine IW S0 λfr hl h0 h1 h2=>?_;simp[S0]at hl h0 h1 h2;simp[S0,hl,h0,nb,sb,hR,M5,D2,E8,I9]
def FZ (me:ByteArray) (l:List Fre):List Tm:=(l.filter λf=>decide (f.role=me)).map λf=>.mk 2 f.name f.sort (true,false) []
theorem gB (me:H7) (l:List Fre) (f:Fre):FZ me (l++[f])=FZ me l++(if f.role=me then [.mk 2 f.name f.sort (true,false) []]else []):=by
 unfold FZ;rw[List.filter_append,xt];congr 1;by_cases h:f.role=me<;>simp[h]
theorem MP (me:H7) (l:List Fre):(FZ me l).length<=l.length:=by
 unfold FZ;rw[xr];exact yD _ _
theorem cy {me:H7} {l:List Fre} {i:Nat} (h:i<l.length):FZ me (l.take (i+1))=FZ me (l.take i)++(if l[i].role=me then [.mk 2 l[i].name l[i].sort (true,false) []]else []):=by
 rw[xk h,gB]
theorem lS (a:H7) (s:Int):AV.agg [.int .i64 2,.str a,.int .i64 s,sl (true,false) 1 []]=B8 (.mk 2 a s (true,false) []):=by
 rw[Dc (true,false) rfl 1 4];simp[B8,A3]
theorem Xa (na:Nar) (hfl:na.fresh.length<=1048576) (role:Nat) (me:H7) (hme:IU (na.roles.map AV.str) role=some (.str me)) (fr:Fr) (h:AH) (B0:List (List AV)) (hB0:h.boxes=(V8 na).cells::B0) (h7:A0 fr 7=.vs true 0 []) (hl:fr.length=53) (h1:A0 fr 1=.int .i64 role) (h2:A0 fr 2=.ptr 0 0) (h29:A0 fr 29=sl na.fm 3 (na.fresh.map Gy)) (h30:A0 fr 30=.int .i64 na.fresh.length) (h31:A0 fr 31=.int .i64 0) :
  C8 (lp (A1 (Q8 Q) (G7 Cv) Aw) (fr,h)) λe D4 h'=>Kp Aw.wr fr D4/\e=.exit 0/\Iw false 4 (A3 (FZ me na.fresh)) (A0 D4 7) h':=by
 refine C3 rfl fr (λn fr h'=>∃(i:Nat),i+n=na.fresh.length/\A0 fr 31=.int .i64 (i:Nat)/\(∃(B:List (List AV)) (v:AV),A0 fr 7=v/\h'.boxes=(V8 na).cells::B/\Iw false 4 (A3 (FZ me (na.fresh.take i))) v h')) ?_ na.fresh.length h ⟨0,by omega,h31,_,_,h7,hB0,aR _ _ _⟩;rintro J Φ hJ hΦ n G9 H1 K ⟨i,hi,k31,hr⟩;have B4:=K.1.trans hl;have k1:=A5 K 1 h1;have k2:=A5 K 2 h2;have k29:=A5 K 29 h29;have k30:=A5 K 30 h30;clear K;by_cases A6:i<na.fresh.length
 .have V7:=E5 i (by omega);obtain⟨B,v,k7,hB,hg⟩:=hr;obtain⟨bx,fams⟩:=H1;simp only at hB;subst hB;have hx:=H8 (f:=Gy) (xn A6);have C2:=MP me (na.fresh.take i);rw[List.length_take]at C2;have Ci:=cy (me:=me) A6;have nb:=U9 na;generalize na.fresh[i]=f at *
  by_cases hf:f.role=me
  .rw[if_pos hf]at Ci;obtain⟨v',F',ha1,ha2,-⟩:=OW (c:=G7 Cv) (bytes:=56) (x:=sl (true,true) 4 [B8 (.mk 2 f.name f.sort (true,false) [])]) (ys:=[B8 (.mk 2 f.name f.sort (true,false) [])]) (h:=⟨(V8 na).cells::(B++[(Gy f).cells]),fams⟩) (P5 hg rfl) (O5 _ _ _ _) (by simp only[G4,maxLen,D7,xr,xq];omega);rw[←Dz,←Ci]at ha2;rw[←lS]at ha1;simp only[Ot,nb,hf]at ha1 ha2;simp[Aw,B4,k1,k2,k29,k30,k31,A6,V7,k7,hx,nb,hme,hf,D2,E8,A4,ha1];exact O4 hJ ⟨i+1,by omega,by simp[B4],_,_,rfl,rfl,by simp[B4];exact ha2⟩
  .rw[if_neg hf,List.append_nil]at Ci;rw[←Ci]at hg;simp[Aw,B4,k1,k2,k29,k30,k31,A6,V7,hx,nb,hme,hf];exact O4 hJ ⟨i+1,by omega,by simp[B4],_,_,rfl,rfl,by simp[k7];exact P5 hg rfl⟩
 .obtain⟨B,v,k7,hB,hg⟩:=hr;rw[xo (by omega)]at hg;simp[Aw,B4,k30,k31,A6];exact hΦ _ _ _ ⟨rfl,by simp[k7];exact P5 hg rfl⟩
theorem eJ (n:Nar) (F:Fine n) (S:Lens n) (hz:(Al n).2=0) (role:Nat) (me:H7) (hme:n.roles[role]?=some me):∃m,pc Q Cv [V8 n,.int .i64 (role:Nat)]=some (sl m 4 (A3 (FZ me n.fresh))):=by
 suffices hq:∃v,pc Q Cv [V8 n,.int .i64 (role:Nat)]=some v/\∃m:Bool×Bool,v=sl m 4 (A3 (FZ me n.fresh)) by
  obtain⟨v,h1,m,rfl⟩:=hq;exact⟨m,h1⟩
 have hC:=Qg n F S.names;rw[hz]at hC;have hfl:n.fresh.length<=1048576:=by have:=S.names;omega
 have nb:=U9 n;have A6:=(xz.1 hme).1;have hme':IU (n.roles.map AV.str) role=some (.str me):=H8 hme;have q1:¬((role:Int)<0):=by omega
 have q2:¬((n.roles.length:Int)<=(role:Int)):=by omega
 generalize (Al n).1=e1 at *
 refine Ta Ju λΨ hΨ fr hl h0 h1=>?_;simp[Ju]at hl h0 h1;simp[Ju,hl,h0,h1,hC,nb,q1,q2];refine C8.mono (Xa n hfl role me hme' _ _ [] ?_ ?_ ?_ ?_ ?_ ?_ ?_ ?_) ?_<;>first|(simp[hl,h1,nb];done)|skip
 rintro e G9 ⟨bx,F1⟩ ⟨K,rfl,hg⟩;have B4:G9.length=53:=K.1.trans (by simp[hl]);obtain⟨m',hf⟩:=OX hg;simp only at hf;simp[B4,hf];exact hΨ _ ⟨m',rfl⟩
end Go.Abs.Q
namespace Go.Abs.Q
open Go.Proofs
open Go.Proofs.YtohjdamplbhdpaaGreatDoor (Rows.uptoBulk Rows.uptoBulkAll)
theorem vT:Tryz.prog.cellsOf 3=1:=by kernel_rfl
theorem dM {α:Type}:∀{l:List α},l.length=4->∃a b c d,l=[a,b,c,d]
 | [a,b,c,d],_=>⟨a,b,c,d,rfl⟩
theorem LT {P:Program} {w:World} {t:TypeId} {H:Type} {enc:TypeId×Value->H} {fs:Array Field} {n:Nat} {cs:List Value} {x:DataW H×List MemPlace} (ht:P.underlying t=some (.struct fs)) {c:Nat} (hc:P.cellsOf t=c)
  (h:DataW.trod enc P w 0 (λ_=>true) true n t cs=some x) :
  ∃(m:Nat) (xs:List (DataW H×List MemPlace)),n=m+1/\cs.length=c/\xs.length=fs.size/\x.1=.agg (xs.map (·.1))/\∀(i:Nat) (f:Field),fs[i]?=some f->∃y,xs[i]?=some y/\DataW.trod enc P w 0 (λ_=>true) true m f.type ((cs.drop f.offset).take (P.cellsOf f.type))=some y:=by
 obtain⟨xs,m,rfl,rfl,h1,h2,h3⟩:=DataW.trod_struct ht h;refine⟨m,xs,rfl,by omega,h2,rfl,λi f hi=>?_⟩;have A6:i<fs.size:=(Array.getElem?_eq_some_iff.1 hi).1;have:=h3 i f hi;rw[xn (by omega)]at this;exact⟨xs[i],xn _,this⟩
variable {w:World}
theorem jD {α:Type} {f:α->Nat} (h:∀a,1<=f a):∀l:List α,l.length<=(l.map f).sum
 | []=>by simp
 |a::l=>by have:=h a;have:=jD h l;simp;omega
theorem bt {α:Type} {f:α->Nat} {a:α}:∀{l:List α},a∈l->f a<=(l.map f).sum
 |b::l,h=>by
  rcases yO.1 h with rfl|h
  .simp
  .have:=bt (f:=f) h;simp;omega
end Go.Abs.Q
