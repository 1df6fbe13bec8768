/- A part of the proof. -/
import Derived.Test.YtohjdamplbhdpaaGreatDoorSG22
set_option linter.all false
open Nat renaming le_refl->xk
open List renaming length_append->xl,length_map->xm,map_cons->xn,mem_flatMap->xo,take_succ_eq_append_getElem->xp,flatMap_append->xq,getElem?_eq_getElem->xr,getElem_mem->xt,map_nil->xu,take_of_length_le->xy,mem_cons_of_mem->xz,mem_cons->yA,mem_map_of_mem->yB,mem_cons_self->yC,flatMap_cons->yD,flatMap_nil->yF,not_mem_nil->yG,append_nil->yH,any_cons->yI,mem_map->yJ
open Option renaming bind_some->xw
open Bool renaming and_eq_true->yE
namespace Go.Abs.Q
open Go.Proofs
attribute [local simp] D0 D1 fin I1 E7 K8 I3 N6 P4
mutual
theorem Xg:∀t:Tm,L3 (D5 t)=L3 t
 | .mk k nm s m l=>by rw[D5,L3,L3,UV l,D3,xm]
theorem UV:∀l:List Tm,T4 (G8 l)=T4 l
 | []=>rfl
 |t::l=>by rw[G8,T4,T4,Xg t,UV l]
end
mutual
theorem fp:∀t:Tm,Ix (D5 t)=Ix t
 | .mk k nm s m l=>by rw[D5,Ix,Ix,af l]
theorem af:∀l:List Tm,Hg (G8 l)=Hg l
 | []=>rfl
 |t::l=>by rw[G8,Hg,Hg,fp t,af l]
end
theorem TD (t:Tm):S5 (D5 t)=S5 t:=by
 unfold S5;rw[Xg,CK _ t (xk _),fp]
theorem ez {a b:Tm} (h:D5 a=D5 b):S5 a=S5 b:=by rw[←TD a,h,TD b]
theorem So {a b:Tm} (h:D5 a=D5 b):a.size=b.size:=by rw[←CK _ a (xk _),h,CK _ b (xk _)]
theorem Ed {t:Tm} (h:vE t=0):S5 t=0/\RS t=0:=by
 unfold vE at h;by_cases hv:S5 t=0
 .rw[if_neg (by simp[hv])]at h;exact⟨hv,h⟩
 .rw[if_pos hv]at h;exact absurd h hv
theorem Hp {t:Tm} (h:S5 t=0):L3 t=0/\t.size<=400:=by
 unfold S5 at h;by_cases hv:L3 t=0
 .rw[if_neg (by simp[hv])]at h;refine⟨hv,?_⟩;by_cases hs:400<t.size\/40<Ix t
  .rw[if_pos hs]at h;exact absurd h (by decide)
  .omega
 .rw[if_pos hv]at h;exact absurd h hv
theorem dw (t:Tm) (hf:fI t) (hv:vE t=0):∃t',pc Q HW [B8 t]=some (.tup [B8 t',.int .i64 0])/\D5 t'=D5 t:=by
 obtain⟨hv1,hv2⟩:=Ed hv;obtain⟨gI,hs⟩:=Hp hv1;obtain⟨t',hN,he⟩:=eD _ t (xk _) (by omega) hf gI;have h1:=IX t (by omega);have h2:=Dv t' (by rw[So he];omega);rw[hv]at h1;rw[ez he,hv1]at h2;refine⟨t',?_,he⟩;refine N4 Hb λfr hl h0=>?_;simp[Hb]at hl h0;simp[Hb,hl,h0,h1,hN,h2]
theorem dx (nm:H7) (h:nm∈AG):pc Q AB [.str nm]=some (.bool true):=by
 have hS:=Ue nm;obtain⟨-,-,-,-,-,-,-,-,-,-,-,-,-,hk,-⟩:=Om h;unfold JN at hk;generalize Lp nm=q at *
 obtain⟨q1,q2,q3,q4⟩:=q;simp only[HS]at hS hk;refine N4 Gq λfr hl h0=>?_;simp[Gq]at hl h0;simp[Gq,hl,h0,hS,hk]
theorem ZX (m:I8) (l:I2) (C2:l.length<=1048576) (IH:∀t∈l,pc Q AQ [B8 t,.fn AB []]=some (.bool true)) (fr:Fr) (h:AH) (hl:fr.length=29) (h1:A0 fr 1=.fn AB []) (h18:A0 fr 18=sl m 4 (A3 l)) (h19:A0 fr 19=.int .i64 l.length) (h20:A0 fr 20=.int .i64 0) :
  C8 (lp (A1 (Q8 Q) (G7 AQ) CE) (fr,h)) λe D4 h'=>Kp CE.wr fr D4/\e=.exit 0:=by
 refine C3 rfl fr (λn fr h'=>∃(i:Nat),i+n=l.length/\A0 fr 20=.int .i64 (i:Nat)/\True) ?_ l.length h ⟨0,by omega,h20,trivial⟩;rintro J Φ hJ hΦ n G9 H1 K ⟨i,hi,k20,hr⟩;have B4:=K.1.trans hl;have k1:=A5 K 1 h1;have k18:=A5 K 18 h18;have k19:=A5 K 19 h19;clear K;by_cases A6:i<l.length
 .have V7:=E5 i (by omega);have hx:=S4 A6;have hI:=IH l[i] (xt A6);obtain⟨bx,F⟩:=H1;generalize l[i]=s at *
  simp[CE,B4,k1,k18,k19,k20,A6,V7,hx,hI];exact O4 hJ ⟨i+1,by omega,by simp[B4],trivial⟩
 .simp[CE,B4,k19,k20,A6];exact hΦ _ _ _ rfl
theorem iK:∀(n:Nat) (t:Tm),t.size<=n->t.size<=1048576->fI t->pc Q AQ [B8 t,.fn AB []]=some (.bool true):=by
 intro n
 induction n with
 |zero=>intro t h;have:=t.size_pos;omega
 |succ n ih =>
  intro t hn hb hf;have K4:=t.kids_size;have C2:=Tm.length_le t.kids;have Pk:=ZX t.cm t.kids (by omega) (λt' ht=>by have:=Tm.size_le ht;exact ih t' (by omega) (by omega) (hf.kid ht));clear ih;by_cases hk:t.kind=3
  .have hP:=dx t.name (hf.name hk);have hag:AV.agg [.int .i64 3,.str t.name,.int .i64 t.sort,sl t.cm 4 (A3 t.kids)]=B8 t:=by rw[←hk];exact WF t
   refine Q6 CD λfr hl h0 h1=>?_;simp[CD]at hl h0 h1;simp[CD,hl,h0,h1,hk,hP];refine C8.mono (Pk _ _ ?_ ?_ ?_ ?_ ?_) ?_<;>first|(simp[hl,h1];done)|skip
   rintro e G9 Jb ⟨K,rfl⟩;have B4:G9.length=29:=K.1.trans (by simp[hl]);simp[B4]
  .refine Q6 CD λfr hl h0 h1=>?_;simp[CD]at hl h0 h1;simp[CD,hl,h0,hk];refine C8.mono (Pk _ _ ?_ ?_ ?_ ?_ ?_) ?_<;>first|(simp[hl,h1];done)|skip
   rintro e G9 Jb ⟨K,rfl⟩;have B4:G9.length=29:=K.1.trans (by simp[hl]);simp[B4]
theorem eM (a b:Tm) (h:a.size<=1099511627776) (h':b.size<=1099511627776):pc Q Ji [B8 a,B8 b]=some (.bool (GW a b)):=by
 have hC:=Z4 _ a b (xk _) h h';refine Q6 Jy λfr hl h0 h1=>?_;simp[Jy]at hl h0 h1;simp[Jy,hl,h0,h1,hC,GW]
theorem md {a b:Tm} (h:D5 a=D5 b):GW a b=true:=by
 unfold GW;rw[AF.2 h];rfl
theorem iH (t:Tm) (hf:fI t) (hv:vE t=0):pc Q IS [B8 t]=some (.bool true):=by
 obtain⟨gI,hs⟩:=Hp (Ed hv).1;obtain⟨t',hN,he⟩:=dw t hf hv;have hS:=eM t' t (by rw[So he];omega) (by omega);rw[md he]at hS;have hE:=iK _ t (xk _) (by omega) hf;refine N4 Ir λfr hl h0=>?_;simp[Ir]at hl h0;simp[Ir,hl,h0,hN,hS,hE]
structure GoodT (t:Tm):Prop where
 free:fI t
 valid:vE t=0
 ground:rW t=true
 own:∀x∈EH t,x.kind=2->OH x.name (bs [101,35])=false
theorem GoodT.size {t:Tm} (h:GoodT t):t.size<=400:=(Hp (Ed h.valid).1).2
theorem iO (t:Tm) (h:GoodT t):pc Q Fg [B8 t]=some (.int .i64 0):=by
 have hs:=h.size;have h1:=IX t (by omega);rw[h.valid]at h1;obtain⟨R,m',h2,IK⟩:=kl t (by omega);have h3:=iH t h.free h.valid;have hR:R.length=0:=(cN IK).2 h.ground;have hR':(A3 R).length=0:=by rw[D7,xm,hR]
 refine N4 GA λfr hl h0=>?_;simp[GA]at hl h0;simp[GA,hl,h0,h1,h2,h3,hR']
theorem XZ (m:I8) (l:I2) (C2:l.length<=1048576) (hg:∀t∈l,GoodT t) (fr:Fr) (h:AH) (hl:fr.length=18) (h6:A0 fr 6=sl m 4 (A3 l)) (h7:A0 fr 7=.int .i64 l.length) (h8:A0 fr 8=.int .i64 0) :
  C8 (lp (A1 (Q8 Q) (G7 CO) j0) (fr,h)) λe D4 h'=>Kp j0.wr fr D4/\e=.exit 0:=by
 refine C3 rfl fr (λn fr h'=>∃(i:Nat),i+n=l.length/\A0 fr 8=.int .i64 (i:Nat)/\True) ?_ l.length h ⟨0,by omega,h8,trivial⟩;rintro J Φ hJ hΦ n G9 H1 K ⟨i,hi,k8,hr⟩;have B4:=K.1.trans hl;have k6:=A5 K 6 h6;have k7:=A5 K 7 h7;clear K;by_cases A6:i<l.length
 .have V7:=E5 i (by omega);have hx:=S4 A6;have hI:=iO l[i] (hg _ (xt A6));obtain⟨bx,F⟩:=H1;generalize l[i]=s at *
  simp[j0,B4,k6,k7,k8,A6,V7,hx,hI];exact O4 hJ ⟨i+1,by omega,by simp[B4],trivial⟩
 .simp[j0,B4,k7,k8,A6];exact hΦ _ _ _ rfl
theorem eH (m:I8) (l:I2) (C2:l.length<=1048576) (hg:∀t∈l,GoodT t):pc Q CO [sl m 4 (A3 l)]=some (.int .i64 0):=by
 refine N4 FC λfr hl h0=>?_;simp[FC]at hl h0;simp[FC,hl,h0];refine C8.mono (XZ m l C2 hg _ _ ?_ ?_ ?_ ?_) ?_<;>first|(simp[hl];done)|skip
 rintro e G9 Jb ⟨K,rfl⟩;have B4:G9.length=18:=K.1.trans (by simp[hl]);simp[B4]
theorem Py (t:Tm) (m:I8) (l:List ByteArray) (C2:l.length<=1048576):pc Q H6 [B8 t,GP m l]=some (.bool (decide (t.kind=3)&&l.any (BS t.name))):=by
 have hC:=Mc m l t.name (by omega);simp only[GP]at hC ⊢;by_cases hk:t.kind=3
 .refine Q6 Bs λfr hl h0 h1=>?_;simp[Bs]at hl h0 h1;simp[Bs,hl,h0,h1,hk,hC]
 .refine Q6 Bs λfr hl h0 h1=>?_;simp[Bs]at hl h0 h1;simp[Bs,hl,h0,hk]
def Ie (t:Tm) (l:List ByteArray):Bool:=decide (t.kind=3)&&l.any (BS t.name)
theorem OM {t:Tm} (h:t.kind=3->t.name∈AG) {l:List ByteArray} (hl:∀x∈l,∀y∈AG,y≠x):Ie t l=false:=by
 unfold Ie;by_cases hk:t.kind=3
 .have hn:=h hk;simp only[hk,decide_true,Bool.true_and];rw[Bool.eq_false_iff];intro ha;obtain⟨x,hx,he⟩:=List.any_eq_true.1 ha;rw[Ek]at he;exact hl x hx _ hn he
 .simp[hk]
def qR (U:List Tm):Prop:=∀x∈U,x.kind=3->x.name∈AG
theorem Xx (t:Tm) (h:t.kind=3->t.name∈AG):pc Q DJ [B8 t]=some (.bool false):=by
 have hI:=Py t (true,true) [bs [109,117,108],bs [105,110,118]] (by decide);have e:=OM h (l:=[bs [109,117,108],bs [105,110,118]]) (by decide);unfold Ie at e;rw[e]at hI;simp only[GP,xn,xu]at hI;refine N4 Fz λfr hl h0=>?_;simp[Fz]at hl h0;simp[Fz,hl,h0,hI,A4]
theorem iN (t:Tm) (h:t.kind=3->t.name∈AG):pc Q H6 [B8 t,sl (true,true) 1 [.str (bs [101,120,112])]]=some (.bool false):=by
 have hI:=Py t (true,true) [bs [101,120,112]] (by decide);have e:=OM h (l:=[bs [101,120,112]]) (by decide);unfold Ie at e;rw[e]at hI;simpa only[GP,xn,xu]using hI
theorem SF (m:I8) (U:I2) (C2:U.length<=1048576) (hU:qR U) (fr:Fr) (h:AH) (h3:A0 fr 3=.int .i64 0) (h4:A0 fr 4=.vs true 0 []) (hl:fr.length=59) (h11:A0 fr 11=sl m 4 (A3 U)) (h12:A0 fr 12=.int .i64 U.length) (h13:A0 fr 13=.int .i64 0) :
  C8 (lp (A1 (Q8 Q) (G7 DK) u9) (fr,h)) λe D4 h'=>Kp u9.wr fr D4/\(e=.exit 0/\A0 D4 3=.int .i64 0/\A0 D4 4=.vs true 0 []):=by
 refine C3 rfl fr (λn fr h'=>∃(i:Nat),i+n=U.length/\A0 fr 13=.int .i64 (i:Nat)/\(A0 fr 3=.int .i64 0/\A0 fr 4=.vs true 0 [])) ?_ U.length h ⟨0,by omega,h13,h3,h4⟩;rintro J Φ hJ hΦ n G9 H1 K ⟨i,hi,k13,hr⟩;have B4:=K.1.trans hl;have k11:=A5 K 11 h11;have k12:=A5 K 12 h12;clear K;by_cases A6:i<U.length
 .have V7:=E5 i (by omega);obtain⟨k3,k4⟩:=hr;have hx:=S4 A6;have hf:=hU U[i] (xt A6);have hP:=Xx U[i] hf;have hE:=iN U[i] hf;obtain⟨bx,F⟩:=H1;generalize U[i]=s at *
  simp[u9,B4,k11,k12,k13,A6,V7,hx,hP,hE,A4];exact O4 hJ ⟨i+1,by omega,by simp[B4],by simp[k3],by simp[k4]⟩
 .obtain⟨k3,k4⟩:=hr;simp[u9,B4,k12,k13,A6];exact hΦ _ _ _ ⟨rfl,by simp[k3],by simp[k4]⟩
def mN (n:Nat):Int:=if 200<n then 3 else 0
theorem iR (m:I8) (U:I2) (C2:U.length<=1048576) (hU:qR U):pc Q DK [sl m 4 (A3 U)]=some (.int .i64 (mN U.length)):=by
 unfold mN;by_cases hb:200<U.length
 .have hb':(200:Int)<U.length:=by omega
  rw[if_pos hb];refine N4 o6 λfr hl h0=>?_;simp[o6]at hl h0;simp[o6,hl,h0];refine C8.mono (SF m U C2 hU _ _ ?_ ?_ ?_ ?_ ?_ ?_) ?_<;>first|(simp[hl];done)|skip
  rintro e G9 Jb ⟨K,rfl,k3,k4⟩;have M7:G9.length=59:=K.1.trans (by simp[hl]);have MS:A0 G9 0=sl m 4 (A3 U):=A5 K 0 (by simp[h0]);clear K;simp[M7,MS,hb']
 .have hb':¬(200:Int)<U.length:=by omega
  rw[if_neg hb];refine N4 o6 λfr hl h0=>?_;simp[o6]at hl h0;simp[o6,hl,h0];refine C8.mono (SF m U C2 hU _ _ ?_ ?_ ?_ ?_ ?_ ?_) ?_<;>first|(simp[hl];done)|skip
  rintro e G9 Jb ⟨K,rfl,k3,k4⟩;have M7:G9.length=59:=K.1.trans (by simp[hl]);have MS:A0 G9 0=sl m 4 (A3 U):=A5 K 0 (by simp[h0]);clear K;simp[M7,MS,k3,k4,hb']
theorem dj {t:Tm} (h:t.kind=3->t.name∈AG) {nm:H7} (hn:∀y∈AG,y≠nm):(decide (t.kind=3)&&decide (t.name=nm))=false:=by
 by_cases hk:t.kind=3
 .have:t.name≠nm:=hn _ (h hk);simp[this]
 .simp[hk]
def ZA (sz:Nat) (G1:List AV) (v:AV) (h:AH):Prop:=(G1=[]/\v=.vs true 0 [])\/∃k,v=.sl k G1.length 0 G1.length/\h.fams[k]?=some ⟨G1,sz,false⟩
theorem fK {c:Ctx} {sz bytes:Nat} {G1 ys:E6} {v x:AV} {h:AH} (hg:ZA sz G1 v h) (hm:c.mutApp=false) (hx:elems h sz x=some ys)
  (hb:(G1.length+ys.length)*bytes<=G4/\G1.length+ys.length<=maxLen):∃v' h',L5 c h sz bytes v x=some (v',h')/\ZA sz (G1++ys) v' h'/\h'.boxes=h.boxes:=by
 rcases hg with ⟨rfl,rfl⟩|⟨k,rfl,hk⟩
 .obtain⟨v',h',h1,h2,h3⟩:=aO (OU sz h) hm hx hb;refine⟨v',h',h1,?_,h3⟩;rcases h2 with h2|⟨_,h2⟩
  .exact .inl h2
  .exact .inr h2
 .rw[RZ,hx,xw,hk,xw];rw[if_pos ⟨rfl,rfl,by omega,hb⟩];have CH:=J0 hk;exact⟨_,_,rfl,.inr ⟨k,by simp,by simp[CH]⟩,rfl⟩
theorem WO {sz:Nat} {G1:E6} {v:AV} {h:AH} (hg:ZA sz G1 v h):v.isTup=false/\v.cells=[v]/\∃m,Bn h v=some (sl m sz G1):=by
 rcases hg with ⟨rfl,rfl⟩|⟨k,rfl,hk⟩
 .exact⟨rfl,rfl,(true,false),by rw[Fw sz];rfl⟩
 .refine⟨rfl,rfl,(false,true),?_⟩;rw[HL,Dn,hk,xw,if_pos ⟨rfl,by omega,rfl⟩];simp
abbrev ML:=(Bool×Bool)×List Tm
def Zd (q:ML):AV:=sl q.1 4 (A3 q.2)
@[simp] theorem pr (q:ML):(Zd q).cells=[Zd q]:=rfl
@[simp] theorem pt (q:ML):(Zd q).isTup=false:=rfl
def JD (l:List ML):Nat:=(l.flatMap λq=>q.2).length
theorem Us {l:List ML} {i:Nat} (h:i<l.length):JD (l.take (i+1))=JD (l.take i)+l[i].2.length:=by
 unfold JD;rw[xp h,xq,xl,yD,yF,yH]
theorem br (l:List ML) (i:Nat):JD (l.take i)<=JD l:=by
 have:JD l=JD (l.take i)+JD (l.drop i):=by
  conv=>lhs;rw[←List.take_append_drop i l]
  unfold JD;rw[xq,xl]
 omega
theorem gV (l:List ML):(l.flatMap λq=>q.2).length=JD l:=rfl
theorem kS (h:AH) (q:ML):Pn h (Zd q)=some (.int .i64 q.2.length,h):=by simp[Zd]
theorem dS (m:I8) (l:List ML) (C2:l.length<=1048576) (hs:JD l<=1048576) (fr:Fr) (h:AH) (h3:A0 fr 3=.int .i64 0) (hl:fr.length=36) (h9:A0 fr 9=sl m 1 (l.map Zd)) (h10:A0 fr 10=.int .i64 l.length) (h11:A0 fr 11=.int .i64 0) :
  C8 (lp (A1 (Q8 Q) (G7 M8) X5) (fr,h)) λe D4 h'=>Kp X5.wr fr D4/\(e=.exit 0/\h'=h/\A0 D4 3=.int .i64 (JD l:Nat)):=by
 refine C3 rfl fr (λn fr h'=>∃(i:Nat),i+n=l.length/\A0 fr 11=.int .i64 (i:Nat)/\(h'=h/\A0 fr 3=.int .i64 (JD (l.take i):Nat))) ?_ l.length h ⟨0,by omega,h11,rfl,h3⟩;rintro J Φ hJ hΦ n G9 H1 K ⟨i,hi,k11,hr⟩;have B4:=K.1.trans hl;have k9:=A5 K 9 h9;have k10:=A5 K 10 h10;clear K;by_cases A6:i<l.length
 .have V7:=E5 i (by omega);obtain⟨rfl,k3⟩:=hr;have hx:=H8 (f:=Zd) (xr A6);have DH:=Us A6;have Yu:=br l (i+1);have hL:=kS H1 l[i];have hw:IntKind.i64.wrap ((JD (l.take i):Int)+(l[i].2.length:Int))=((JD (l.take (i+1)):Nat):Int):=by rw[M3 (by omega) (by omega)];omega
  generalize l[i]=s at *
  have pd:¬((JD (l.take (i+1)):Nat):Int)<0:=by omega
  simp[X5,B4,k9,k10,k11,A6,V7,k3,hx,hL,hw,pd];exact O4 hJ ⟨i+1,by omega,by simp[B4],rfl,by simp[B4]⟩
 .obtain⟨rfl,k3⟩:=hr;rw[xy (by omega)]at k3;simp[X5,B4,k10,k11,A6];exact hΦ _ _ _ ⟨rfl,rfl,by simp[k3]⟩
theorem dR (m:I8) (l:List ML) (C2:l.length<=1048576) (hs:JD l<=1048576) (fr:Fr) (h:AH) (h6:ZA 4 [] (A0 fr 6) h) (hl:fr.length=36) (h25:A0 fr 25=sl m 1 (l.map Zd)) (h26:A0 fr 26=.int .i64 l.length) (h27:A0 fr 27=.int .i64 0) :
  C8 (lp (A1 (Q8 Q) (G7 M8) X4) (fr,h)) λe D4 h'=>Kp X4.wr fr D4/\(e=.exit 2/\h'.boxes=h.boxes/\ZA 4 (A3 (l.flatMap λq=>q.2)) (A0 D4 6) h'):=by
 refine C3 rfl fr (λn fr h'=>∃(i:Nat),i+n=l.length/\A0 fr 27=.int .i64 (i:Nat)/\(h'.boxes=h.boxes/\ZA 4 (A3 ((l.take i).flatMap λq=>q.2)) (A0 fr 6) h')) ?_ l.length h ⟨0,by omega,h27,rfl,h6⟩;rintro J Φ hJ hΦ n G9 H1 K ⟨i,hi,k27,hr⟩;have B4:=K.1.trans hl;have k25:=A5 K 25 h25;have k26:=A5 K 26 h26;clear K;by_cases A6:i<l.length
 .have V7:=E5 i (by omega);obtain⟨hB,hg⟩:=hr;have hx:=H8 (f:=Zd) (xr A6);have DH:=Us A6;have Yu:=br l (i+1);have hfl:=gV (l.take i);have hap:(l.take (i+1)).flatMap (λq=>q.2)=(l.take i).flatMap (λq=>q.2)++l[i].2:=by
   rw[xp A6,xq,yD,yF,yH]
  generalize hv6:A0 G9 6=v6 at hg;obtain⟨v',h2,ha,DG,hb2⟩:=fK (c:=G7 M8) (bytes:=56) (x:=Zd l[i]) hg rfl (O5 H1 l[i].1 4 (A3 l[i].2)) (by
   rw[D7,D7,xm,xm,hfl];simp only[G4,maxLen];omega)
  rw[←jH,←hap]at DG;generalize l[i]=s at *
  simp[X4,B4,k25,k26,k27,A6,V7,hv6,hx,ha];exact O4 hJ ⟨i+1,by omega,by simp[B4],by rw[hb2];exact hB,by simpa[B4]using DG⟩
 .obtain⟨hB,hg⟩:=hr;rw[xy (by omega)]at hg;simp[X4,B4,k26,k27,A6];exact hΦ _ _ _ ⟨rfl,hB,by simpa[B4]using hg⟩
theorem lL (n:Nat) (hn:n<=1048576) (h:AH):∃v F,rc Q N1 [.vs true 0 [],.int .i64 (n:Nat)] h=some (v,⟨h.boxes,F⟩)/\ZA 4 [] v ⟨h.boxes,F⟩/\v.isTup=false/\v.cells=[v]:=by
 have hrun:∀O:Orc,(UL 4 56).run O [.vs true 0 [],.int .i64 (n:Nat)] h=NJ 4 56 [.vs true 0 [],.int .i64 (n:Nat)] h:=λ_=>rfl;by_cases h0:n=0
 .subst h0;refine⟨_,h.fams,JV (s:=UL 4 56) rfl rfl ((hrun _).trans ?_),.inl ⟨rfl,rfl⟩,rfl,rfl⟩;simp only[NJ];rw[if_pos (by decide)]
 .refine⟨_,h.fams++[⟨[],4,false⟩],JV (s:=UL 4 56) rfl rfl ((hrun _).trans ?_),.inr ⟨h.fams.length,rfl,by simp⟩,rfl,rfl⟩;simp only[NJ];rw[if_neg (by omega),if_pos ⟨by omega,by simp only[G4];omega,by simp only[maxLen];omega⟩];rfl
theorem Ua (m:I8) (l:List ML) (C2:l.length<=1048576) (hs:JD l<=1048576):∃m',pc Q M8 [sl m 1 (l.map Zd)]=some (sl m' 4 (A3 (l.flatMap λq=>q.2))):=by
 suffices h:∃v,pc Q M8 [sl m 1 (l.map Zd)]=some v/\∃q:Bool×Bool,v=sl q 4 (A3 (l.flatMap λq=>q.2)) by
  obtain⟨v,h1,q,rfl⟩:=h;exact⟨q,h1⟩
 refine Jk Dh λΨ hΨ fr hl h0=>?_;simp[Dh]at hl h0;simp[Dh,hl,h0];refine C8.mono (dS m l C2 hs _ _ ?_ ?_ ?_ ?_ ?_) ?_<;>first|(simp[hl];done)|skip
 rintro e G9 h1 ⟨K,rfl,rfl,k3⟩;have M7:G9.length=36:=K.1.trans (by simp[hl]);have MS:A0 G9 0=sl m 1 (l.map Zd):=A5 K 0 (by simp[h0]);clear K;obtain⟨v,F,hG,hg,c1,c2⟩:=lL (JD l) hs AH.empty;simp only[AH.empty]at hG hg;simp[M7,MS,k3,hG];refine C8.mono (dR m l C2 hs _ _ ?_ ?_ ?_ ?_ ?_) ?_<;>first|(simp[M7];done)|skip
 .simpa[M7]using hg
 rintro e Cs ⟨B,F2⟩ ⟨K,rfl,hB,hg2⟩;have Jc:Cs.length=36:=K.1.trans (by simp[M7]);generalize hv6:A0 Cs 6=v6 at hg2;obtain⟨d1,d2,mm,hz⟩:=WO hg2;simp[Jc,hv6,hz];exact hΨ _ ⟨mm,rfl⟩
theorem JL {a b:Tm} (h:D5 a=D5 b):a.kind=b.kind/\a.name=b.name/\a.sort=b.sort/\G8 a.kids=G8 b.kids:=by
 obtain⟨k,nm,s,m,l⟩:=a;obtain⟨k',nm',s',m',l'⟩:=b;simp only[D5,Tm.mk.injEq]at h;exact⟨h.1,h.2.1,h.2.2.1,h.2.2.2.2⟩
theorem Pc {U l:I2} (h:O1 U l) {x:Tm} (hx:x∈U):∃y∈l,D5 y=D5 x:=by
 obtain⟨y,hy,e⟩:=yJ.1 ((h.2 (D5 x)).1 (yB hx));exact⟨y,hy,e⟩
theorem cz {l:I2} (h:∀t∈l,GoodT t):qR (alls l):=by
 intro x hx hk;rw[J1]at hx;obtain⟨y,hy,hx⟩:=xo.1 hx;exact(h y hy).free x hx hk
theorem jX {U l:I2} (h:O1 U l) (hl:qR l):qR U:=by
 intro x hx hk;obtain⟨y,hy,e⟩:=Pc h hx;obtain⟨e1,e2,-⟩:=JL e;rw[←e2];exact hl y hy (by rw[e1];exact hk)
theorem Sq:∀{l:I2},(∀t∈l,GoodT t)->Tm.sizes l<=400*l.length
 | [],_=>xk _
 |t::l,h=>by
  have h1:=(h t yC).size;have h2:=Sq λx hx=>h x (xz _ hx);simp only[Tm.sizes,List.length_cons];omega
def jK (n:Nat) (U:List Tm) (m:Bool×Bool):AV:=if 60<n\/200<U.length then .tup [sl (true,false) 1 [],.int .i64 3]else .tup [sl m 4 (A3 U),.int .i64 0]
theorem YC (m1 m2:I8) (k l:I2) (hk:∀t∈k,GoodT t) (hl:∀t∈l,GoodT t) (CI:k.length<=1048576) (hll:l.length<=1) :
  ∃(U:List Tm) (m':Bool×Bool),pc Q DU [sl m1 4 (A3 k),sl m2 4 (A3 l)]=some (jK k.length U m')/\(k.length<=60->O1 U (alls (k++l))/\U.length<=24400):=by
 by_cases h60:60<k.length
 .have h60':(60:Int)<k.length:=by omega
  refine⟨[],(true,true),?_,λh=>by omega⟩;rw[jK,if_pos (.inl h60)];refine Q6 L4 λfr hl h0 h1=>?_;simp[L4]at hl h0 h1;simp[L4,hl,h0,h60']
 .have h60':¬(60:Int)<k.length:=by omega
  have Lf:∀t∈k++l,GoodT t:=λt ht=>by
   rcases List.mem_append.1 ht with h|h
   .exact hk t h
   .exact hl t h
  have K4:=Sq Lf;rw[xl]at K4;have hfl:(([(m1,k),(m2,l)]:List ML).flatMap λq=>q.2)=k++l:=by simp
  obtain⟨mc,hC⟩:=Ua (true,true) [(m1,k),(m2,l)] (by simp) (by
   have:JD [(m1,k),(m2,l)]=k.length+l.length:=by unfold JD;rw[hfl,xl]
   omega)
  rw[hfl]at hC;simp only[xn,xu,Zd]at hC;have hR:=eH mc (k++l) (by rw[xl];omega) Lf;obtain⟨U,mu,hS,IK,hUl⟩:=Qe mc (k++l) (by omega);have hUf:=jX IK (cz Lf);have hsm:=iR mu U (by omega) hUf;refine⟨U,mu,?_,λ_=>⟨IK,by omega⟩⟩;unfold mN at hsm;by_cases hb:200<U.length
  .rw[if_pos hb]at hsm;rw[jK,if_pos (.inr hb)];refine Q6 L4 λfr hl h0 h1=>?_;simp[L4]at hl h0 h1;simp[L4,hl,h0,h1,h60',hC,hR,hS,hsm,A4]
  .rw[if_neg hb]at hsm;rw[jK,if_neg (by omega)];refine Q6 L4 λfr hl h0 h1=>?_;simp[L4]at hl h0 h1;simp[L4,hl,h0,h1,h60',hC,hR,hS,hsm,A4]
def Rv (t:Tm):Bool:=decide (t.kind=2)&&(decide (t.sort=1)||decide (t.sort=5)||(decide (t.sort=4)&&decide (t.name=bs [103])))
theorem nW (s:H7) (h:OH s (bs [101,35])=false):pc Q EJ [.str s,.str (bs [101,35])]=some (.tup [.str s,.bool false]):=by
 have hP:=Nj s (bs [101,35]);rw[h]at hP;have hL:pc Q Bp [.str s,.str (bs [101,35])]=some (.tup [.str s,.bool false]):=by
  refine Q6 Bx λfr hl h0 h1=>?_;simp[Bx]at hl h0 h1;simp[Bx,hl,h0,h1,hP]
 refine Q6 EO λfr hl h0 h1=>?_;simp[EO]at hl h0 h1;simp[EO,hl,h0,h1,hL]
theorem dy (t:Tm) (hf:t.kind=3->t.name∈AG) (ho:t.kind=2->OH t.name (bs [101,35])=false):pc Q Et [B8 t]=some (.bool (Rv t)):=by
 unfold Rv;by_cases hk:t.kind=3
 .have hag:AV.agg [.int .i64 3,.str t.name,.int .i64 t.sort,sl t.cm 4 (A3 t.kids)]=B8 t:=by rw[←hk];exact WF t
  have hI:=Py t (true,true) [bs [122,101,114,111],bs [111,110,101]] (by decide);have e:=OM hf (l:=[bs [122,101,114,111],bs [111,110,101]]) (by decide);unfold Ie at e;rw[e]at hI;simp only[GP,xn,xu]at hI;refine N4 B6 λfr hl h0=>?_;simp[B6]at hl h0;simp[B6,hl,h0,hk,hag,hI,A4]
 .by_cases hk2:t.kind=2
  .have hC:=nW t.name (ho hk2);by_cases s1:t.sort=1
   .refine N4 B6 λfr hl h0=>?_;simp[B6]at hl h0;simp[B6,hl,h0,hk2,hC,s1]
   .by_cases s5:t.sort=5
    .refine N4 B6 λfr hl h0=>?_;simp[B6]at hl h0;simp[B6,hl,h0,hk2,hC,s5]
    .by_cases s4:t.sort=4
     .by_cases hg:t.name=bs [103]
      .refine N4 B6 λfr hl h0=>?_;simp[B6]at hl h0;simp[B6,hl,h0,hk2,s4,hg];simp[hg]at hC;simp[hl,hC]
      .refine N4 B6 λfr hl h0=>?_;simp[B6]at hl h0;simp[B6,hl,h0,hk2,hC,s4,hg]
     .by_cases s0:t.sort=0
      .refine N4 B6 λfr hl h0=>?_;simp[B6]at hl h0;simp[B6,hl,h0,hk2,hC,s0]
      .by_cases s2:t.sort=2
       .refine N4 B6 λfr hl h0=>?_;simp[B6]at hl h0;simp[B6,hl,h0,hk2,hC,s2]
       .by_cases s3:t.sort=3
        .refine N4 B6 λfr hl h0=>?_;simp[B6]at hl h0;simp[B6,hl,h0,hk2,hC,s3]
        .refine N4 B6 λfr hl h0=>?_;simp[B6]at hl h0;simp[B6,hl,h0,hk2,hC,s1,s5,s4,s0,s2,s3]
  .refine N4 B6 λfr hl h0=>?_;simp[B6]at hl h0;simp[B6,hl,h0,hk,hk2]
structure OkT (t:Tm):Prop where
 free:fI t
 valid:vE t=0
 own:∀x∈EH t,x.kind=2->OH x.name (bs [101,35])=false
theorem GoodT.ok {t:Tm} (h:GoodT t):OkT t:=⟨h.free,h.valid,h.own⟩
theorem OkT.size {t:Tm} (h:OkT t):t.size<=400:=(Hp (Ed h.valid).1).2
theorem OkT.nm {t:Tm} (h:OkT t):t.kind=3->t.name∈AG:=h.free.name
theorem OkT.ow {t:Tm} (h:OkT t):t.kind=2->OH t.name (bs [101,35])=false:=h.own t (by rw[Ac];exact yC)
mutual
theorem Pf:∀t:Tm,EH (D5 t)=(EH t).map D5
 | .mk k nm s m l=>by rw[D5,EH,EH,xn,D5,Qx l]
theorem Qx:∀l:List Tm,alls (G8 l)=(alls l).map D5
 | []=>rfl
 |t::l=>by rw[G8,alls,alls,List.map_append,Pf t,Qx l]
end
theorem fX:∀l:List Tm,(G8 l).any JS=l.any JS
 | []=>rfl
 | .mk k nm s m l::l'=>by
  rw[G8,yI,yI,fX l'];rfl
theorem aU (nm:H7) (l:I2):WK nm (G8 l)=WK nm l:=by
 unfold WK;rw[fX];cases l with
 |nil=>rfl
 |cons a l=>cases a;rfl
mutual
theorem mA:∀t:Tm,RS (D5 t)=RS t
 | .mk k nm s m l=>by rw[D5,RS,RS,bv l,aU,D3,xm]
theorem bv:∀l:List Tm,Lq (G8 l)=Lq l
 | []=>rfl
 |t::l=>by rw[G8,Lq,Lq,mA t,bv l]
end
theorem tu {a b:Tm} (h:D5 a=D5 b):vE a=vE b:=by
 have:∀t,vE t=vE (D5 t):=λt=>by unfold vE;rw[TD,mA]
 rw[this a,h,←this b]
theorem VD {a b:Tm} (h:D5 a=D5 b) {x:Tm} (hx:x∈EH a):∃y∈EH b,D5 y=D5 x:=by
 have h1:D5 x∈(EH b).map D5:=by
  rw[←Pf,←h,Pf];exact yB hx
 obtain⟨y,hy,e⟩:=yJ.1 h1;exact⟨y,hy,e⟩
theorem OkT.er {a b:Tm} (h:OkT a) (e:D5 b=D5 a):OkT b where
 free:=by
  intro x hx hk;obtain⟨y,hy,e1⟩:=VD e hx;obtain⟨e2,e3,-⟩:=JL e1;rw[←e3];exact h.free y hy (by rw[e2];exact hk)
 valid:=by rw[tu e];exact h.valid
 own:=by
  intro x hx hk;obtain⟨y,hy,e1⟩:=VD e hx;obtain⟨e2,e3,-⟩:=JL e1;rw[←e3];exact h.own y hy (by rw[e2];exact hk)
theorem Yi:∀{l:I2},Lq l=0->∀t∈l,RS t=0
 |t::l,h,x,hx=>by
  rw[Ut]at h;by_cases ht:RS t=0
  .rw[if_neg (by simp[ht])]at h;rcases yA.1 hx with rfl|hx
   .exact ht
   .exact Yi h x hx
  .rw[if_pos ht]at h;exact absurd h ht
theorem TA {t:Tm} (h:RS t=0) (hk:t.kind=3):Ko t.name t.kids.length=true/\Lq t.kids=0:=by
 obtain⟨k,nm,s,m,l⟩:=t;have hk:k=3:=hk;rw[bu hk]at h;by_cases h1:JN nm=0
 .rw[if_pos h1]at h;exact absurd h (by decide)
 rw[if_neg h1]at h;by_cases h2:Ko nm l.length=false
 .rw[if_pos h2]at h;exact absurd h (by decide)
 rw[if_neg h2]at h;by_cases h3:WK nm l=0
 .rw[if_neg (by simp[h3])]at h;have h3:Ko nm l.length=true:=by simpa using h2
  exact⟨h3,h⟩
 .rw[if_pos h3]at h;exact absurd h h3
theorem jr {t x:Tm} (h:x∈t.kids):Ix x<Ix t:=by
 obtain⟨k,nm,s,m,l⟩:=t;have:∀l:List Tm,x∈l->Ix x<=Hg l:=by
  intro l
  induction l with
  |nil=>intro h;exact absurd h yG
  |cons a l ih =>
   intro h;rw[Hg];rcases yA.1 h with rfl|h
   .exact Nat.le_max_left _ _
   .exact Nat.le_trans (ih h) (Nat.le_max_right _ _)
 have:=this l h;rw[Ix];omega
theorem TE {t:Tm}:S5 t=0↔L3 t=0/\t.size<=400/\Ix t<=40:=by
 unfold S5;by_cases h:L3 t=0
 .rw[if_neg (by simp[h])];by_cases h2:400<t.size\/40<Ix t
  .rw[if_pos h2];exact⟨λh=>absurd h (by decide),λ⟨_,a,b⟩=>by omega⟩
  .rw[if_neg h2];exact⟨λ_=>⟨h,by omega,by omega⟩,λ_=>rfl⟩
 .rw[if_pos h];exact⟨λk=>absurd k h,λk=>absurd k.1 h⟩
theorem kL {t x:Tm} (h:L3 t=0) (hx:x∈t.kids):t.kind=3:=by
 obtain⟨k,nm,s,m,l⟩:=t;obtain⟨h1,-⟩:=CS h;obtain⟨-,h2,h3,-⟩:=IT h1;have hl:l.length≠0:=by
  intro e;have:l=[]:=List.eq_nil_of_length_eq_zero e;subst this;exact absurd hx yG
 show k=3;rcases h3 with h|h|h
 .exact absurd (h2 (.inl h)) hl
 .exact absurd (h2 (.inr h)) hl
 .exact h
theorem OkT.kid {t x:Tm} (h:OkT t) (hx:x∈t.kids):OkT x where
 free:=h.free.kid hx
 valid:=by
  obtain⟨h1,h2⟩:=Ed h.valid;obtain⟨h3,h4,h5⟩:=TE.1 h1;have hk:=kL h3 hx;have hs:=t.kids_size;have hs2:=Tm.size_le hx;have hd:=jr hx;have hn:L3 x=0:=by
   obtain⟨k,nm,s,m,l⟩:=t;exact BM (CS h3).2 x hx
  have hv:S5 x=0:=TE.2 ⟨hn,by omega,by omega⟩;unfold vE;rw[if_neg (by simp[hv])];exact Yi (TA h2 hk).2 x hx
 own:=λy hy=>h.own y (by
  rw[Ac,J1];exact xz _ (xo.2 ⟨x,hx,hy⟩))
theorem OkT.all:∀(n:Nat) (t:Tm),t.size<=n->OkT t->∀x∈EH t,OkT x:=by
 intro n
 induction n with
 |zero=>intro t h;have:=t.size_pos;omega
 |succ n ih =>
  intro t hn h x hx;have hs:=t.kids_size;rw[Ac,J1]at hx;rcases yA.1 hx with rfl|hx
  .exact h
  .obtain⟨y,hy,hx⟩:=xo.1 hx;have:=Tm.size_le hy;exact ih y (by omega) (h.kid hy) x hx
theorem OkT.alls {l:I2} (h:∀t∈l,OkT t):∀x∈alls l,OkT x:=by
 intro x hx;rw[J1]at hx;obtain⟨y,hy,hx⟩:=xo.1 hx;exact OkT.all _ y (xk _) (h y hy) x hx
theorem OkT.set {U l:I2} (h:O1 U l) (hl:∀x∈l,OkT x):∀x∈U,OkT x:=by
 intro x hx;obtain⟨y,hy,e⟩:=Pc h hx;exact(hl y hy).er e.symm
theorem gA {n:Nat} {nm:H7} (hn:nm=bs [112,97,105,114]\/nm=bs [101,110,99]\/nm=bs [97,101,110,99]\/nm=bs [115,105,103,110]\/nm=bs [115,104,107]) (h:Ko nm n=true):n=2:=by
 have e:(Lp nm).2.1=2/\(Lp nm).2.2.1=2:=by
  rcases hn with rfl|rfl|rfl|rfl|rfl<;>decide
 simp only[Ko,e.1,e.2,yE,decide_eq_true_eq]at h;omega
theorem fz {n:Nat} {nm:H7} (hn:nm=bs [112,107]\/nm=bs [104,97,115,104]\/nm=bs [115,107]) (h:Ko nm n=true):n=1:=by
 have e:(Lp nm).2.1=1/\(Lp nm).2.2.1=1:=by
  rcases hn with rfl|rfl|rfl<;>decide
 simp only[Ko,e.1,e.2,yE,decide_eq_true_eq]at h;omega
theorem OkT.two {t:Tm} (h:OkT t) (hk:t.kind=3) (hn:t.name=bs [112,97,105,114]\/t.name=bs [101,110,99]\/t.name=bs [97,101,110,99]\/t.name=bs [115,105,103,110]\/t.name=bs [115,104,107]):∃a b,t.kids=[a,b]:=by
 have h2:=gA hn (TA (Ed h.valid).2 hk).1
 match t.kids,h2 with
 | [a,b],_=>exact⟨a,b,rfl⟩
theorem OkT.one {t:Tm} (h:OkT t) (hk:t.kind=3) (hn:t.name=bs [112,107]\/t.name=bs [104,97,115,104]\/t.name=bs [115,107]):∃a,t.kids=[a]:=by
 have h2:=fz hn (TA (Ed h.valid).2 hk).1
 match t.kids,h2 with
 | [a],_=>exact⟨a,rfl⟩
def Ct (t:Tm) (nm:ByteArray):Bool:=decide (t.kind=3)&&decide (t.name=nm)
def N3 (t:Tm) (i:Nat):Tm:=t.kids.getD i Yw
def NX (t:Tm):Option Tm:=if Ct t (bs [101,110,99])then some (N3 t 1)else if Ct t (bs [97,101,110,99])&&Ct (N3 t 1) (bs [112,107])then some (N3 (N3 t 1) 0)else none
theorem JM {t:Tm} {nm:H7}:Ct t nm=true↔t.kind=3/\t.name=nm:=by simp[Ct]
theorem Vs (t:Tm) (nm:H7):pc Q FO [B8 t,.str nm]=some (.bool (Ct t nm)):=YA t nm
theorem Gz {t:Tm} (h:OkT t) {nm:H7} (hi:Ct t nm=true) (hn:nm=bs [112,97,105,114]\/nm=bs [101,110,99]\/nm=bs [97,101,110,99]\/nm=bs [115,105,103,110]\/nm=bs [115,104,107]):∃a b,t.kids=[a,b]:=by
 obtain⟨h1,h2⟩:=JM.1 hi;subst h2;exact h.two h1 hn
theorem nX (t:Tm) (h:OkT t) (hi:Ct t (bs [101,110,99])=true\/Ct t (bs [97,101,110,99])=true) :
  (∃k k',NX t=some k/\D5 k'=D5 k/\pc Q Hr [B8 t]=some (.tup [B8 k',.int .i64 0]))\/(NX t=none/\pc Q Hr [B8 t]=some (.tup [B8 Yw,.int .i64 4])):=by
 have hV:=IX t (by have:=h.size;omega);rw[h.valid]at hV;have hE:=Vs t (bs [101,110,99]);have hA:=Vs t (bs [97,101,110,99]);obtain⟨a,b,hk⟩:∃a b,t.kids=[a,b]:=by
  rcases hi with hi|hi
  .exact Gz h hi (.inr (.inl rfl))
  .exact Gz h hi (.inr (.inr (.inl rfl)))
 have hb:OkT b:=h.kid (by rw[hk];simp);have hs:=h.size;have K4:=t.kids_size;rw[hk]at K4;simp only[Tm.sizes]at K4;have hx0:IU (A3 t.kids) 0=some (B8 a):=by rw[hk];rfl
 have hx1:IU (A3 t.kids) 1=some (B8 b):=by rw[hk];rfl
 have hk1:N3 t 1=b:=by simp[N3,hk]
 by_cases he:Ct t (bs [101,110,99])=true
 .obtain⟨b',hC,he2⟩:=Ub b (by omega);refine .inl ⟨b,b',by rw[NX,if_pos he,hk1],he2,?_⟩;rw[he]at hE;refine N4 y4 λfr hl h0=>?_;simp[y4]at hl h0;simp[y4,hl,h0,hV,hE,hx1,hC]
 .have ha:Ct t (bs [97,101,110,99])=true:=hi.resolve_left he;have he':Ct t (bs [101,110,99])=false:=by simpa using he
  rw[he']at hE;rw[ha]at hA;have hP:=Vs b (bs [112,107]);by_cases hp:Ct b (bs [112,107])=true
  .obtain⟨p1,p2⟩:=JM.1 hp;obtain⟨c,hc⟩:=hb.one p1 (by rw[p2];exact .inl rfl);have hsz2:=b.kids_size;rw[hc]at hsz2;simp only[Tm.sizes]at hsz2;have hy0:IU (A3 b.kids) 0=some (B8 c):=by rw[hc];rfl
   have hk0:N3 b 0=c:=by simp[N3,hc]
   obtain⟨c',hC,he2⟩:=Ub c (by omega);refine .inl ⟨c,c',by rw[NX,if_neg he,if_pos (by rw[ha,hk1,hp];rfl),hk1,hk0],he2,?_⟩;rw[hp]at hP;refine N4 y4 λfr hl h0=>?_;simp[y4]at hl h0;simp[y4,hl,h0,hV,hE,hA,hx1,hP,hy0,hC]
  .have hp':Ct b (bs [112,107])=false:=by simpa using hp
   refine .inr ⟨by rw[NX,if_neg he,if_neg (by rw[hk1,hp'];simp)],?_⟩;rw[hp']at hP;refine N4 y4 λfr hl h0=>?_;simp[y4]at hl h0;simp[y4,hl,h0,hV,hE,hA,hx1,hP,D2,E8];rfl
theorem Me (a b:Tm) (h:a.size<=1099511627776) (h':b.size<=1099511627776):pc Q Z1 [B8 a,B8 b]=some (.bool (GW a b)):=by
 have hC:=Z4 _ a b (xk _) h h';refine Q6 Gm λfr hl h0 h1=>?_;simp[Gm]at hl h0 h1;simp[Gm,hl,h0,h1,hC,GW]
end Go.Abs.Q
