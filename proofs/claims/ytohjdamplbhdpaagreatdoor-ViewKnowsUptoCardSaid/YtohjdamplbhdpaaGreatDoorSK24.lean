/- A part of the proof. -/
import Derived.Test.YtohjdamplbhdpaaGreatDoorSK23
set_option linter.all false
open List renaming map_cons->A0A,length_append->A0B,map_nil->A0C,getElem_mem->A0E,mem_flatMap->A0F,take_succ_eq_append_getElem->A0G,length_map->A0H,flatMap_append->A0I,any_cons->A0J,drop_eq_getElem_cons->A0K,getElem?_eq_getElem->A0L,drop_eq_nil_of_le->A0O,take_of_length_le->A0P,mem_cons_of_mem->A0Q,mem_cons->A0R,mem_map_of_mem->A0S,mem_cons_self->A0T,flatMap_cons->A0V,flatMap_nil->A0X,not_mem_nil->A0Y,append_nil->A0Z,any_nil->A0b,mem_map->A0c
open Bool renaming and_eq_true->A0D,eq_iff_iff->A0N,eq_false_iff->A0U,or_false->A0a
open Option renaming bind_some->A0M
open Nat renaming le_refl->A0W
namespace Go.Abs.Q
open Go.Proofs
attribute [local simp] D9 E4 fin I8 G6 P7 M4 R4 R3
structure GoodT (t:Tm):Prop where
 free:jl t
 valid:vE t=0
 ground:uu t=true
 own:∀x∈GW t,x.kind=2->Qq x.name (bs [101,35])=false
theorem GoodT.size {t:Tm} (h:GoodT t):t.size<=400:=(Kd (Gk h.valid).1).2
theorem lz (t:Tm) (h:GoodT t):pc Q Hv [B7 t]=some (.int .i64 0):=by
 have hs:=h.size;have h1:=LK t (by omega);rw[h.valid]at h1;obtain⟨R,m',h2,LA⟩:=oq t (by omega);have h3:=lg t h.free h.valid;have hR:R.length=0:=(gG LA).2 h.ground;have hR':(A4 R).length=0:=by rw[D6,A0H,hR]
 refine M2 IS λfr hl h0=>?_;simp[IS]at hl h0;simp[IS,hl,h0,h1,h2,h3,hR']
theorem aF (m:J3) (l:I6) (B8:l.length<=1048576) (hg:∀t∈l,GoodT t) (fr:Fr) (h:AH) (hl:fr.length=18) (h6:A0 fr 6=sl m 4 (A4 l)) (h7:A0 fr 7=.int .i64 l.length) (h8:A0 fr 8=.int .i64 0) :
  B9 (lp (A3 (L5 Q) (E5 Df) x5) (fr,h)) λe C6 h'=>Kp x5.wr fr C6/\e=.exit 0:=by
 refine B5 rfl fr (λn fr h'=>∃(i:Nat),i+n=l.length/\A0 fr 8=.int .i64 (i:Nat)/\True) ?_ l.length h ⟨0,by omega,h8,trivial⟩;rintro J Φ hJ hΦ n E1 H1 K ⟨i,hi,k8,hr⟩;have A6:=K.1.trans hl;have k6:=A9 K 6 h6;have k7:=A9 K 7 h7;clear K;by_cases A7:i<l.length
 .have Q6:=D1 i (by omega);have hx:=N6 A7;have hI:=lz l[i] (hg _ (A0E A7));obtain⟨bx,F⟩:=H1;generalize l[i]=s at *
  simp[x5,A6,k6,k7,k8,A7,Q6,hx,hI];exact G8 hJ ⟨i+1,by omega,by simp[A6],trivial⟩
 .simp[x5,A6,k7,k8,A7];exact hΦ _ _ _ rfl
theorem iz (m:J3) (l:I6) (B8:l.length<=1048576) (hg:∀t∈l,GoodT t):pc Q Df [sl m 4 (A4 l)]=some (.int .i64 0):=by
 refine M2 HS λfr hl h0=>?_;simp[HS]at hl h0;simp[HS,hl,h0];refine B9.mono (aF m l B8 hg _ _ ?_ ?_ ?_ ?_) ?_<;>first|(simp[hl];done)|skip
 rintro e E1 Ei ⟨K,rfl⟩;have A6:E1.length=18:=K.1.trans (by simp[hl]);simp[A6]
theorem SY (t:Tm) (m:J3) (l:List ByteArray) (B8:l.length<=1048576):pc Q I1 [B7 t,CK m l]=some (.bool (decide (t.kind=3)&&l.any (U3 t.name))):=by
 have hC:=PI m l t.name (by omega);simp only[CK]at hC ⊢;by_cases hk:t.kind=3
 .refine O2 DD λfr hl h0 h1=>?_;simp[DD]at hl h0 h1;simp[DD,hl,h0,h1,hk,hC]
 .refine O2 DD λfr hl h0 h1=>?_;simp[DD]at hl h0 h1;simp[DD,hl,h0,hk]
def LP (t:Tm) (l:List ByteArray):Bool:=decide (t.kind=3)&&l.any (U3 t.name)
theorem Qt {t:Tm} (h:t.kind=3->t.name∈Ax) {l:List ByteArray} (hl:∀x∈l,∀y∈Ax,y≠x):LP t l=false:=by
 unfold LP;by_cases hk:t.kind=3
 .have hn:=h hk;simp only[hk,decide_true,Bool.true_and];rw[A0U];intro ha;obtain⟨x,hx,he⟩:=List.any_eq_true.1 ha;rw[JV]at he;exact hl x hx _ hn he
 .simp[hk]
def uD (U:List Tm):Prop:=∀x∈U,x.kind=3->x.name∈Ax
theorem ai (t:Tm) (h:t.kind=3->t.name∈Ax):pc Q El [B7 t]=some (.bool false):=by
 have hI:=SY t (true,true) [bs [109,117,108],bs [105,110,118]] (by decide);have e:=Qt h (l:=[bs [109,117,108],bs [105,110,118]]) (by decide);unfold LP at e;rw[e]at hI;simp only[CK,A0A,A0C]at hI;refine M2 IR λfr hl h0=>?_;simp[IR]at hl h0;simp[IR,hl,h0,hI,A5]
theorem lr (t:Tm) (h:t.kind=3->t.name∈Ax):pc Q I1 [B7 t,sl (true,true) 1 [.str (bs [101,120,112])]]=some (.bool false):=by
 have hI:=SY t (true,true) [bs [101,120,112]] (by decide);have e:=Qt h (l:=[bs [101,120,112]]) (by decide);unfold LP at e;rw[e]at hI;simpa only[CK,A0A,A0C]using hI
theorem Ud (m:J3) (U:I6) (B8:U.length<=1048576) (hU:uD U) (fr:Fr) (h:AH) (h3:A0 fr 3=.int .i64 0) (h4:A0 fr 4=.vs true 0 []) (hl:fr.length=59) (h11:A0 fr 11=sl m 4 (A4 U)) (h12:A0 fr 12=.int .i64 U.length) (h13:A0 fr 13=.int .i64 0) :
  B9 (lp (A3 (L5 Q) (E5 Em) Aa) (fr,h)) λe C6 h'=>Kp Aa.wr fr C6/\(e=.exit 0/\A0 C6 3=.int .i64 0/\A0 C6 4=.vs true 0 []):=by
 refine B5 rfl fr (λn fr h'=>∃(i:Nat),i+n=U.length/\A0 fr 13=.int .i64 (i:Nat)/\(A0 fr 3=.int .i64 0/\A0 fr 4=.vs true 0 [])) ?_ U.length h ⟨0,by omega,h13,h3,h4⟩;rintro J Φ hJ hΦ n E1 H1 K ⟨i,hi,k13,hr⟩;have A6:=K.1.trans hl;have k11:=A9 K 11 h11;have k12:=A9 K 12 h12;clear K;by_cases A7:i<U.length
 .have Q6:=D1 i (by omega);obtain⟨k3,k4⟩:=hr;have hx:=N6 A7;have hf:=hU U[i] (A0E A7);have hP:=ai U[i] hf;have hE:=lr U[i] hf;obtain⟨bx,F⟩:=H1;generalize U[i]=s at *
  simp[Aa,A6,k11,k12,k13,A7,Q6,hx,hP,hE,A5];exact G8 hJ ⟨i+1,by omega,by simp[A6],by simp[k3],by simp[k4]⟩
 .obtain⟨k3,k4⟩:=hr;simp[Aa,A6,k12,k13,A7];exact hΦ _ _ _ ⟨rfl,by simp[k3],by simp[k4]⟩
def qo (n:Nat):Int:=if 200<n then 3 else 0
theorem mD (m:J3) (U:I6) (B8:U.length<=1048576) (hU:uD U):pc Q Em [sl m 4 (A4 U)]=some (.int .i64 (qo U.length)):=by
 unfold qo;by_cases hb:200<U.length
 .have hb':(200:Int)<U.length:=by omega
  rw[if_pos hb];refine M2 AE λfr hl h0=>?_;simp[AE]at hl h0;simp[AE,hl,h0];refine B9.mono (Ud m U B8 hU _ _ ?_ ?_ ?_ ?_ ?_ ?_) ?_<;>first|(simp[hl];done)|skip
  rintro e E1 Ei ⟨K,rfl,k3,k4⟩;have J5:E1.length=59:=K.1.trans (by simp[hl]);have Ox:A0 E1 0=sl m 4 (A4 U):=A9 K 0 (by simp[h0]);clear K;simp[J5,Ox,hb']
 .have hb':¬(200:Int)<U.length:=by omega
  rw[if_neg hb];refine M2 AE λfr hl h0=>?_;simp[AE]at hl h0;simp[AE,hl,h0];refine B9.mono (Ud m U B8 hU _ _ ?_ ?_ ?_ ?_ ?_ ?_) ?_<;>first|(simp[hl];done)|skip
  rintro e E1 Ei ⟨K,rfl,k3,k4⟩;have J5:E1.length=59:=K.1.trans (by simp[hl]);have Ox:A0 E1 0=sl m 4 (A4 U):=A9 K 0 (by simp[h0]);clear K;simp[J5,Ox,k3,k4,hb']
theorem iO {t:Tm} (h:t.kind=3->t.name∈Ax) {nm:I3} (hn:∀y∈Ax,y≠nm):(decide (t.kind=3)&&decide (t.name=nm))=false:=by
 by_cases hk:t.kind=3
 .have:t.name≠nm:=hn _ (h hk);simp[this]
 .simp[hk]
def cG (sz:Nat) (D7:List AV) (v:AV) (h:AH):Prop:=(D7=[]/\v=.vs true 0 [])\/∃k,v=.sl k D7.length 0 D7.length/\h.fams[k]?=some ⟨D7,sz,false⟩
theorem jm {c:Ctx} {sz bytes:Nat} {D7 ys:G1} {v x:AV} {h:AH} (hg:cG sz D7 v h) (hm:c.mutApp=false) (hx:y8 h sz x=some ys)
  (hb:(D7.length+ys.length)*bytes<=H6/\D7.length+ys.length<=maxLen):∃v' h',N1 c h sz bytes v x=some (v',h')/\cG sz (D7++ys) v' h'/\h'.boxes=h.boxes:=by
 rcases hg with ⟨rfl,rfl⟩|⟨k,rfl,hk⟩
 .obtain⟨v',h',h1,h2,h3⟩:=RB (Gu sz h) hm hx hb;refine⟨v',h',h1,?_,h3⟩;rcases h2 with h2|⟨_,h2⟩
  .exact .inl h2
  .exact .inr h2
 .rw[Kx,hx,A0M,hk,A0M];rw[if_pos ⟨rfl,rfl,by omega,hb⟩];have Dd:=I2 hk;exact⟨_,_,rfl,.inr ⟨k,by simp,by simp[Dd]⟩,rfl⟩
theorem Yv {sz:Nat} {D7:G1} {v:AV} {h:AH} (hg:cG sz D7 v h):v.isTup=false/\v.cells=[v]/\∃m,Cs h v=some (sl m sz D7):=by
 rcases hg with ⟨rfl,rfl⟩|⟨k,rfl,hk⟩
 .exact⟨rfl,rfl,(true,false),by rw[IN sz];rfl⟩
 .refine⟨rfl,rfl,(false,true),?_⟩;rw[Jt,Cr,hk,A0M,if_pos ⟨rfl,by omega,rfl⟩];simp
abbrev ML:=(Bool×Bool)×List Tm
def dN (q:ML):AV:=sl q.1 4 (A4 q.2)
@[simp] theorem tV (q:ML):(dN q).cells=[dN q]:=rfl
@[simp] theorem tW (q:ML):(dN q).isTup=false:=rfl
def Lr (l:List ML):Nat:=(l.flatMap λq=>q.2).length
theorem XH {l:List ML} {i:Nat} (h:i<l.length):Lr (l.take (i+1))=Lr (l.take i)+l[i].2.length:=by
 unfold Lr;rw[A0G h,A0I,A0B,A0V,A0X,A0Z]
theorem fl (l:List ML) (i:Nat):Lr (l.take i)<=Lr l:=by
 have:Lr l=Lr (l.take i)+Lr (l.drop i):=by
  conv=>lhs;rw[←List.take_append_drop i l]
  unfold Lr;rw[A0I,A0B]
 omega
theorem kx (l:List ML):(l.flatMap λq=>q.2).length=Lr l:=rfl
theorem ob (h:AH) (q:ML):Xv h (dN q)=some (.int .i64 q.2.length,h):=by simp[dN]
theorem gw (m:J3) (l:List ML) (B8:l.length<=1048576) (hs:Lr l<=1048576) (fr:Fr) (h:AH) (h3:A0 fr 3=.int .i64 0) (hl:fr.length=36) (h9:A0 fr 9=sl m 1 (l.map dN)) (h10:A0 fr 10=.int .i64 l.length) (h11:A0 fr 11=.int .i64 0) :
  B9 (lp (A3 (L5 Q) (E5 O0) b8) (fr,h)) λe C6 h'=>Kp b8.wr fr C6/\(e=.exit 0/\h'=h/\A0 C6 3=.int .i64 (Lr l:Nat)):=by
 refine B5 rfl fr (λn fr h'=>∃(i:Nat),i+n=l.length/\A0 fr 11=.int .i64 (i:Nat)/\(h'=h/\A0 fr 3=.int .i64 (Lr (l.take i):Nat))) ?_ l.length h ⟨0,by omega,h11,rfl,h3⟩;rintro J Φ hJ hΦ n E1 H1 K ⟨i,hi,k11,hr⟩;have A6:=K.1.trans hl;have k9:=A9 K 9 h9;have k10:=A9 K 10 h10;clear K;by_cases A7:i<l.length
 .have Q6:=D1 i (by omega);obtain⟨rfl,k3⟩:=hr;have hx:=G0 (f:=dN) (A0L A7);have Gx:=XH A7;have bw:=fl l (i+1);have hL:=ob H1 l[i];have hw:IntKind.i64.wrap ((Lr (l.take i):Int)+(l[i].2.length:Int))=((Lr (l.take (i+1)):Nat):Int):=by rw[U4 (by omega) (by omega)];omega
  generalize l[i]=s at *
  have tG:¬((Lr (l.take (i+1)):Nat):Int)<0:=by omega
  simp[b8,A6,k9,k10,k11,A7,Q6,k3,hx,hL,hw,tG];exact G8 hJ ⟨i+1,by omega,by simp[A6],rfl,by simp[A6]⟩
 .obtain⟨rfl,k3⟩:=hr;rw[A0P (by omega)]at k3;simp[b8,A6,k10,k11,A7];exact hΦ _ _ _ ⟨rfl,rfl,by simp[k3]⟩
theorem gv (m:J3) (l:List ML) (B8:l.length<=1048576) (hs:Lr l<=1048576) (fr:Fr) (h:AH) (h6:cG 4 [] (A0 fr 6) h) (hl:fr.length=36) (h25:A0 fr 25=sl m 1 (l.map dN)) (h26:A0 fr 26=.int .i64 l.length) (h27:A0 fr 27=.int .i64 0) :
  B9 (lp (A3 (L5 Q) (E5 O0) a8) (fr,h)) λe C6 h'=>Kp a8.wr fr C6/\(e=.exit 2/\h'.boxes=h.boxes/\cG 4 (A4 (l.flatMap λq=>q.2)) (A0 C6 6) h'):=by
 refine B5 rfl fr (λn fr h'=>∃(i:Nat),i+n=l.length/\A0 fr 27=.int .i64 (i:Nat)/\(h'.boxes=h.boxes/\cG 4 (A4 ((l.take i).flatMap λq=>q.2)) (A0 fr 6) h')) ?_ l.length h ⟨0,by omega,h27,rfl,h6⟩;rintro J Φ hJ hΦ n E1 H1 K ⟨i,hi,k27,hr⟩;have A6:=K.1.trans hl;have k25:=A9 K 25 h25;have k26:=A9 K 26 h26;clear K;by_cases A7:i<l.length
 .have Q6:=D1 i (by omega);obtain⟨hB,hg⟩:=hr;have hx:=G0 (f:=dN) (A0L A7);have Gx:=XH A7;have bw:=fl l (i+1);have hfl:=kx (l.take i);have hap:(l.take (i+1)).flatMap (λq=>q.2)=(l.take i).flatMap (λq=>q.2)++l[i].2:=by
   rw[A0G A7,A0I,A0V,A0X,A0Z]
  generalize hv6:A0 E1 6=v6 at hg;obtain⟨v',h2,ha,f7,hb2⟩:=jm (c:=E5 O0) (bytes:=56) (x:=dN l[i]) hg rfl (T7 H1 l[i].1 4 (A4 l[i].2)) (by
   rw[D6,D6,A0H,A0H,hfl];simp only[H6,maxLen];omega)
  rw[←mh,←hap]at f7;generalize l[i]=s at *
  simp[a8,A6,k25,k26,k27,A7,Q6,hv6,hx,ha];exact G8 hJ ⟨i+1,by omega,by simp[A6],by rw[hb2];exact hB,by simpa[A6]using f7⟩
 .obtain⟨hB,hg⟩:=hr;rw[A0P (by omega)]at hg;simp[a8,A6,k26,k27,A7];exact hΦ _ _ _ ⟨rfl,hB,by simpa[A6]using hg⟩
theorem pn (n:Nat) (hn:n<=1048576) (h:AH):∃v F,rc Q O6 [.vs true 0 [],.int .i64 (n:Nat)] h=some (v,⟨h.boxes,F⟩)/\cG 4 [] v ⟨h.boxes,F⟩/\v.isTup=false/\v.cells=[v]:=by
 have hrun:∀O:Orc,(WV 4 56).run O [.vs true 0 [],.int .i64 (n:Nat)] h=Po 4 56 [.vs true 0 [],.int .i64 (n:Nat)] h:=λ_=>rfl;by_cases h0:n=0
 .subst h0;refine⟨_,h.fams,MN (s:=WV 4 56) rfl rfl ((hrun _).trans ?_),.inl ⟨rfl,rfl⟩,rfl,rfl⟩;simp only[Po];rw[if_pos (by decide)]
 .refine⟨_,h.fams++[⟨[],4,false⟩],MN (s:=WV 4 56) rfl rfl ((hrun _).trans ?_),.inr ⟨h.fams.length,rfl,by simp⟩,rfl,rfl⟩;simp only[Po];rw[if_neg (by omega),if_pos ⟨by omega,by simp only[H6];omega,by simp only[maxLen];omega⟩];rfl
theorem Wk (m:J3) (l:List ML) (B8:l.length<=1048576) (hs:Lr l<=1048576):∃m',pc Q O0 [sl m 1 (l.map dN)]=some (sl m' 4 (A4 (l.flatMap λq=>q.2))):=by
 suffices h:∃v,pc Q O0 [sl m 1 (l.map dN)]=some v/\∃q:Bool×Bool,v=sl q 4 (A4 (l.flatMap λq=>q.2)) by
  obtain⟨v,h1,q,rfl⟩:=h;exact⟨q,h1⟩
 refine HL FV λΨ hΨ fr hl h0=>?_;simp[FV]at hl h0;simp[FV,hl,h0];refine B9.mono (gw m l B8 hs _ _ ?_ ?_ ?_ ?_ ?_) ?_<;>first|(simp[hl];done)|skip
 rintro e E1 h1 ⟨K,rfl,rfl,k3⟩;have J5:E1.length=36:=K.1.trans (by simp[hl]);have Ox:A0 E1 0=sl m 1 (l.map dN):=A9 K 0 (by simp[h0]);clear K;obtain⟨v,F,hG,hg,c1,c2⟩:=pn (Lr l) hs AH.empty;simp only[AH.empty]at hG hg;simp[J5,Ox,k3,hG];refine B9.mono (gv m l B8 hs _ _ ?_ ?_ ?_ ?_ ?_) ?_<;>first|(simp[J5];done)|skip
 .simpa[J5]using hg
 rintro e V8 ⟨B,F2⟩ ⟨K,rfl,hB,hg2⟩;have GI:V8.length=36:=K.1.trans (by simp[J5]);generalize hv6:A0 V8 6=v6 at hg2;obtain⟨d1,d2,mm,hz⟩:=Yv hg2;simp[GI,hv6,hz];exact hΨ _ ⟨mm,rfl⟩
theorem MB {a b:Tm} (h:E8 a=E8 b):a.kind=b.kind/\a.name=b.name/\a.sort=b.sort/\H2 a.kids=H2 b.kids:=by
 obtain⟨k,nm,s,m,l⟩:=a;obtain⟨k',nm',s',m',l'⟩:=b;simp only[E8,Tm.mk.injEq]at h;exact⟨h.1,h.2.1,h.2.2.1,h.2.2.2.2⟩
theorem SH {U l:I6} (h:P8 U l) {x:Tm} (hx:x∈U):∃y∈l,E8 y=E8 x:=by
 obtain⟨y,hy,e⟩:=A0c.1 ((h.2 (E8 x)).1 (A0S hx));exact⟨y,hy,e⟩
theorem gc {l:I6} (h:∀t∈l,GoodT t):uD (alls l):=by
 intro x hx hk;rw[K6]at hx;obtain⟨y,hy,hx⟩:=A0F.1 hx;exact(h y hy).free x hx hk
theorem nE {U l:I6} (h:P8 U l) (hl:uD l):uD U:=by
 intro x hx hk;obtain⟨y,hy,e⟩:=SH h hx;obtain⟨e1,e2,-⟩:=MB e;rw[←e2];exact hl y hy (by rw[e1];exact hk)
theorem VQ:∀{l:I6},(∀t∈l,GoodT t)->Tm.sizes l<=400*l.length
 | [],_=>A0W _
 |t::l,h=>by
  have h1:=(h t A0T).size;have h2:=VQ λx hx=>h x (A0Q _ hx);simp only[Tm.sizes,List.length_cons];omega
def ml (n:Nat) (U:List Tm) (m:Bool×Bool):AV:=if 60<n\/200<U.length then .tup [sl (true,false) 1 [],.int .i64 3]else .tup [sl m 4 (A4 U),.int .i64 0]
theorem au (m1 m2:J3) (k l:I6) (hk:∀t∈k,GoodT t) (hl:∀t∈l,GoodT t) (HH:k.length<=1048576) (hll:l.length<=1) :
  ∃(U:List Tm) (m':Bool×Bool),pc Q FC [sl m1 4 (A4 k),sl m2 4 (A4 l)]=some (ml k.length U m')/\(k.length<=60->P8 U (alls (k++l))/\U.length<=24400):=by
 by_cases h60:60<k.length
 .have h60':(60:Int)<k.length:=by omega
  refine⟨[],(true,true),?_,λh=>by omega⟩;rw[ml,if_pos (.inl h60)];refine O2 M0 λfr hl h0 h1=>?_;simp[M0]at hl h0 h1;simp[M0,hl,h0,h60']
 .have h60':¬(60:Int)<k.length:=by omega
  have Hr:∀t∈k++l,GoodT t:=λt ht=>by
   rcases List.mem_append.1 ht with h|h
   .exact hk t h
   .exact hl t h
  have I9:=VQ Hr;rw[A0B]at I9;have hfl:(([(m1,k),(m2,l)]:List ML).flatMap λq=>q.2)=k++l:=by simp
  obtain⟨mc,hC⟩:=Wk (true,true) [(m1,k),(m2,l)] (by simp) (by
   have:Lr [(m1,k),(m2,l)]=k.length+l.length:=by unfold Lr;rw[hfl,A0B]
   omega)
  rw[hfl]at hC;simp only[A0A,A0C,dN]at hC;have hR:=iz mc (k++l) (by rw[A0B];omega) Hr;obtain⟨U,mu,hS,LA,hUl⟩:=TE mc (k++l) (by omega);have hUf:=nE LA (gc Hr);have hsm:=mD mu U (by omega) hUf;refine⟨U,mu,?_,λ_=>⟨LA,by omega⟩⟩;unfold qo at hsm;by_cases hb:200<U.length
  .rw[if_pos hb]at hsm;rw[ml,if_pos (.inr hb)];refine O2 M0 λfr hl h0 h1=>?_;simp[M0]at hl h0 h1;simp[M0,hl,h0,h1,h60',hC,hR,hS,hsm,A5]
  .rw[if_neg hb]at hsm;rw[ml,if_neg (by omega)];refine O2 M0 λfr hl h0 h1=>?_;simp[M0]at hl h0 h1;simp[M0,hl,h0,h1,h60',hC,hR,hS,hsm,A5]
def UZ (t:Tm):Bool:=decide (t.kind=2)&&(decide (t.sort=1)||decide (t.sort=5)||(decide (t.sort=4)&&decide (t.name=bs [103])))
theorem rx (s:I3) (h:Qq s (bs [101,35])=false):pc Q GK [.str s,.str (bs [101,35])]=some (.tup [.str s,.bool false]):=by
 have hP:=QM s (bs [101,35]);rw[h]at hP;have hL:pc Q Cy [.str s,.str (bs [101,35])]=some (.tup [.str s,.bool false]):=by
  refine O2 DM λfr hl h0 h1=>?_;simp[DM]at hl h0 h1;simp[DM,hl,h0,h1,hP]
 refine O2 GP λfr hl h0 h1=>?_;simp[GP]at hl h0 h1;simp[GP,hl,h0,h1,hL]
theorem iY (t:Tm) (hf:t.kind=3->t.name∈Ax) (ho:t.kind=2->Qq t.name (bs [101,35])=false):pc Q HI [B7 t]=some (.bool (UZ t)):=by
 unfold UZ;by_cases hk:t.kind=3
 .have hag:AV.agg [.int .i64 3,.str t.name,.int .i64 t.sort,sl t.cm 4 (A4 t.kids)]=B7 t:=by rw[←hk];exact Yk t
  have hI:=SY t (true,true) [bs [122,101,114,111],bs [111,110,101]] (by decide);have e:=Qt hf (l:=[bs [122,101,114,111],bs [111,110,101]]) (by decide);unfold LP at e;rw[e]at hI;simp only[CK,A0A,A0C]at hI;refine M2 C7 λfr hl h0=>?_;simp[C7]at hl h0;simp[C7,hl,h0,hk,hag,hI,A5]
 .by_cases hk2:t.kind=2
  .have hC:=rx t.name (ho hk2);by_cases s1:t.sort=1
   .refine M2 C7 λfr hl h0=>?_;simp[C7]at hl h0;simp[C7,hl,h0,hk2,hC,s1]
   .by_cases s5:t.sort=5
    .refine M2 C7 λfr hl h0=>?_;simp[C7]at hl h0;simp[C7,hl,h0,hk2,hC,s5]
    .by_cases s4:t.sort=4
     .by_cases hg:t.name=bs [103]
      .refine M2 C7 λfr hl h0=>?_;simp[C7]at hl h0;simp[C7,hl,h0,hk2,s4,hg];simp[hg]at hC;simp[hl,hC]
      .refine M2 C7 λfr hl h0=>?_;simp[C7]at hl h0;simp[C7,hl,h0,hk2,hC,s4,hg]
     .by_cases s0:t.sort=0
      .refine M2 C7 λfr hl h0=>?_;simp[C7]at hl h0;simp[C7,hl,h0,hk2,hC,s0]
      .by_cases s2:t.sort=2
       .refine M2 C7 λfr hl h0=>?_;simp[C7]at hl h0;simp[C7,hl,h0,hk2,hC,s2]
       .by_cases s3:t.sort=3
        .refine M2 C7 λfr hl h0=>?_;simp[C7]at hl h0;simp[C7,hl,h0,hk2,hC,s3]
        .refine M2 C7 λfr hl h0=>?_;simp[C7]at hl h0;simp[C7,hl,h0,hk2,hC,s1,s5,s4,s0,s2,s3]
  .refine M2 C7 λfr hl h0=>?_;simp[C7]at hl h0;simp[C7,hl,h0,hk,hk2]
structure OkT (t:Tm):Prop where
 free:jl t
 valid:vE t=0
 own:∀x∈GW t,x.kind=2->Qq x.name (bs [101,35])=false
theorem GoodT.ok {t:Tm} (h:GoodT t):OkT t:=⟨h.free,h.valid,h.own⟩
theorem OkT.size {t:Tm} (h:OkT t):t.size<=400:=(Kd (Gk h.valid).1).2
theorem OkT.nm {t:Tm} (h:OkT t):t.kind=3->t.name∈Ax:=h.free.name
theorem OkT.ow {t:Tm} (h:OkT t):t.kind=2->Qq t.name (bs [101,35])=false:=h.own t (by rw[Cp];exact A0T)
mutual
theorem UB:∀t:Tm,GW (E8 t)=(GW t).map E8
 | .mk k nm s m l=>by rw[E8,GW,GW,A0A,E8,Tc l]
theorem Tc:∀l:List Tm,alls (H2 l)=(alls l).map E8
 | []=>rfl
 |t::l=>by rw[H2,alls,alls,List.map_append,UB t,Tc l]
end
theorem jz:∀l:List Tm,(H2 l).any MI=l.any MI
 | []=>rfl
 | .mk k nm s m l::l'=>by
  rw[H2,A0J,A0J,jz l'];rfl
theorem jv (nm:I3) (l:I6):Yr nm (H2 l)=Yr nm l:=by
 unfold Yr;rw[jz];cases l with
 |nil=>rfl
 |cons a l=>cases a;rfl
mutual
theorem qa:∀t:Tm,Tv (E8 t)=Tv t
 | .mk k nm s m l=>by rw[E8,Tv,Tv,fp l,jv,E3,A0H]
theorem fp:∀l:List Tm,OV (H2 l)=OV l
 | []=>rfl
 |t::l=>by rw[H2,OV,OV,qa t,fp l]
end
theorem wk {a b:Tm} (h:E8 a=E8 b):vE a=vE b:=by
 have:∀t,vE t=vE (E8 t):=λt=>by unfold vE;rw[Va,qa]
 rw[this a,h,←this b]
theorem XY {a b:Tm} (h:E8 a=E8 b) {x:Tm} (hx:x∈GW a):∃y∈GW b,E8 y=E8 x:=by
 have h1:E8 x∈(GW b).map E8:=by
  rw[←UB,←h,UB];exact A0S hx
 obtain⟨y,hy,e⟩:=A0c.1 h1;exact⟨y,hy,e⟩
theorem OkT.er {a b:Tm} (h:OkT a) (e:E8 b=E8 a):OkT b where
 free:=by
  intro x hx hk;obtain⟨y,hy,e1⟩:=XY e hx;obtain⟨e2,e3,-⟩:=MB e1;rw[←e3];exact h.free y hy (by rw[e2];exact hk)
 valid:=by rw[wk e];exact h.valid
 own:=by
  intro x hx hk;obtain⟨y,hy,e1⟩:=XY e hx;obtain⟨e2,e3,-⟩:=MB e1;rw[←e3];exact h.own y hy (by rw[e2];exact hk)
theorem bo:∀{l:I6},OV l=0->∀t∈l,Tv t=0
 |t::l,h,x,hx=>by
  rw[XI]at h;by_cases ht:Tv t=0
  .rw[if_neg (by simp[ht])]at h;rcases A0R.1 hx with rfl|hx
   .exact ht
   .exact bo h x hx
  .rw[if_pos ht]at h;exact absurd h ht
theorem VY {t:Tm} (h:Tv t=0) (hk:t.kind=3):Nd t.name t.kids.length=true/\OV t.kids=0:=by
 obtain⟨k,nm,s,m,l⟩:=t;have hk:k=3:=hk;rw[fo hk]at h;by_cases h1:ME nm=0
 .rw[if_pos h1]at h;exact absurd h (by decide)
 rw[if_neg h1]at h;by_cases h2:Nd nm l.length=false
 .rw[if_pos h2]at h;exact absurd h (by decide)
 rw[if_neg h2]at h;by_cases h3:Yr nm l=0
 .rw[if_neg (by simp[h3])]at h;have h3:Nd nm l.length=true:=by simpa using h2
  exact⟨h3,h⟩
 .rw[if_pos h3]at h;exact absurd h h3
theorem nX {t x:Tm} (h:x∈t.kids):Hp x<Hp t:=by
 obtain⟨k,nm,s,m,l⟩:=t;have:∀l:List Tm,x∈l->Hp x<=Ev l:=by
  intro l
  induction l with
  |nil=>intro h;exact absurd h A0Y
  |cons a l ih =>
   intro h;rw[Ev];rcases A0R.1 h with rfl|h
   .exact Nat.le_max_left _ _
   .exact Nat.le_trans (ih h) (Nat.le_max_right _ _)
 have:=this l h;rw[Hp];omega
theorem Vb {t:Tm}:Q4 t=0↔I7 t=0/\t.size<=400/\Hp t<=40:=by
 unfold Q4;by_cases h:I7 t=0
 .rw[if_neg (by simp[h])];by_cases h2:400<t.size\/40<Hp t
  .rw[if_pos h2];exact⟨λh=>absurd h (by decide),λ⟨_,a,b⟩=>by omega⟩
  .rw[if_neg h2];exact⟨λ_=>⟨h,by omega,by omega⟩,λ_=>rfl⟩
 .rw[if_pos h];exact⟨λk=>absurd k h,λk=>absurd k.1 h⟩
theorem oT {t x:Tm} (h:I7 t=0) (hx:x∈t.kids):t.kind=3:=by
 obtain⟨k,nm,s,m,l⟩:=t;obtain⟨h1,-⟩:=Z2 h;obtain⟨-,h2,h3,-⟩:=HK h1;have hl:l.length≠0:=by
  intro e;have:l=[]:=List.eq_nil_of_length_eq_zero e;subst this;exact absurd hx A0Y
 show k=3;rcases h3 with h|h|h
 .exact absurd (h2 (.inl h)) hl
 .exact absurd (h2 (.inr h)) hl
 .exact h
theorem OkT.kid {t x:Tm} (h:OkT t) (hx:x∈t.kids):OkT x where
 free:=h.free.kid hx
 valid:=by
  obtain⟨h1,h2⟩:=Gk h.valid;obtain⟨h3,h4,h5⟩:=Vb.1 h1;have hk:=oT h3 hx;have hs:=t.kids_size;have hs2:=Tm.size_le hx;have hd:=nX hx;have hn:I7 x=0:=by
   obtain⟨k,nm,s,m,l⟩:=t;exact O1 (Z2 h3).2 x hx
  have hv:Q4 x=0:=Vb.2 ⟨hn,by omega,by omega⟩;unfold vE;rw[if_neg (by simp[hv])];exact bo (VY h2 hk).2 x hx
 own:=λy hy=>h.own y (by
  rw[Cp,K6];exact A0Q _ (A0F.2 ⟨x,hx,hy⟩))
theorem OkT.all:∀(n:Nat) (t:Tm),t.size<=n->OkT t->∀x∈GW t,OkT x:=by
 intro n
 induction n with
 |zero=>intro t h;have:=t.size_pos;omega
 |succ n ih =>
  intro t hn h x hx;have hs:=t.kids_size;rw[Cp,K6]at hx;rcases A0R.1 hx with rfl|hx
  .exact h
  .obtain⟨y,hy,hx⟩:=A0F.1 hx;have:=Tm.size_le hy;exact ih y (by omega) (h.kid hy) x hx
theorem OkT.alls {l:I6} (h:∀t∈l,OkT t):∀x∈alls l,OkT x:=by
 intro x hx;rw[K6]at hx;obtain⟨y,hy,hx⟩:=A0F.1 hx;exact OkT.all _ y (A0W _) (h y hy) x hx
theorem OkT.set {U l:I6} (h:P8 U l) (hl:∀x∈l,OkT x):∀x∈U,OkT x:=by
 intro x hx;obtain⟨y,hy,e⟩:=SH h hx;exact(hl y hy).er e.symm
theorem kT {n:Nat} {nm:I3} (hn:nm=bs [112,97,105,114]\/nm=bs [101,110,99]\/nm=bs [97,101,110,99]\/nm=bs [115,105,103,110]\/nm=bs [115,104,107]) (h:Nd nm n=true):n=2:=by
 have e:(OU nm).2.1=2/\(OU nm).2.2.1=2:=by
  rcases hn with rfl|rfl|rfl|rfl|rfl<;>decide
 simp only[Nd,e.1,e.2,A0D,decide_eq_true_eq]at h;omega
theorem kS {n:Nat} {nm:I3} (hn:nm=bs [112,107]\/nm=bs [104,97,115,104]\/nm=bs [115,107]) (h:Nd nm n=true):n=1:=by
 have e:(OU nm).2.1=1/\(OU nm).2.2.1=1:=by
  rcases hn with rfl|rfl|rfl<;>decide
 simp only[Nd,e.1,e.2,A0D,decide_eq_true_eq]at h;omega
theorem OkT.two {t:Tm} (h:OkT t) (hk:t.kind=3) (hn:t.name=bs [112,97,105,114]\/t.name=bs [101,110,99]\/t.name=bs [97,101,110,99]\/t.name=bs [115,105,103,110]\/t.name=bs [115,104,107]):∃a b,t.kids=[a,b]:=by
 have h2:=kT hn (VY (Gk h.valid).2 hk).1
 match t.kids,h2 with
 | [a,b],_=>exact⟨a,b,rfl⟩
theorem OkT.one {t:Tm} (h:OkT t) (hk:t.kind=3) (hn:t.name=bs [112,107]\/t.name=bs [104,97,115,104]\/t.name=bs [115,107]):∃a,t.kids=[a]:=by
 have h2:=kS hn (VY (Gk h.valid).2 hk).1
 match t.kids,h2 with
 | [a],_=>exact⟨a,rfl⟩
def Ew (t:Tm) (nm:ByteArray):Bool:=decide (t.kind=3)&&decide (t.name=nm)
def O8 (t:Tm) (i:Nat):Tm:=t.kids.getD i jd
def RV (t:Tm):Option Tm:=if Ew t (bs [101,110,99])then some (O8 t 1)else if Ew t (bs [97,101,110,99])&&Ew (O8 t 1) (bs [112,107])then some (O8 (O8 t 1) 0)else none
theorem MD {t:Tm} {nm:I3}:Ew t nm=true↔t.kind=3/\t.name=nm:=by simp[Ew]
theorem YX (t:Tm) (nm:I3):pc Q Hd [B7 t,.str nm]=some (.bool (Ew t nm)):=ar t nm
theorem JY {t:Tm} (h:OkT t) {nm:I3} (hi:Ew t nm=true) (hn:nm=bs [112,97,105,114]\/nm=bs [101,110,99]\/nm=bs [97,101,110,99]\/nm=bs [115,105,103,110]\/nm=bs [115,104,107]):∃a b,t.kids=[a,b]:=by
 obtain⟨h1,h2⟩:=MD.1 hi;subst h2;exact h.two h1 hn
theorem sB (t:Tm) (h:OkT t) (hi:Ew t (bs [101,110,99])=true\/Ew t (bs [97,101,110,99])=true) :
  (∃k k',RV t=some k/\E8 k'=E8 k/\pc Q Ki [B7 t]=some (.tup [B7 k',.int .i64 0]))\/(RV t=none/\pc Q Ki [B7 t]=some (.tup [B7 jd,.int .i64 4])):=by
 have hV:=LK t (by have:=h.size;omega);rw[h.valid]at hV;have hE:=YX t (bs [101,110,99]);have hA:=YX t (bs [97,101,110,99]);obtain⟨a,b,hk⟩:∃a b,t.kids=[a,b]:=by
  rcases hi with hi|hi
  .exact JY h hi (.inr (.inl rfl))
  .exact JY h hi (.inr (.inr (.inl rfl)))
 have hb:OkT b:=h.kid (by rw[hk];simp);have hs:=h.size;have I9:=t.kids_size;rw[hk]at I9;simp only[Tm.sizes]at I9;have hx0:Jb (A4 t.kids) 0=some (B7 a):=by rw[hk];rfl
 have hx1:Jb (A4 t.kids) 1=some (B7 b):=by rw[hk];rfl
 have hk1:O8 t 1=b:=by simp[O8,hk]
 by_cases he:Ew t (bs [101,110,99])=true
 .obtain⟨b',hC,he2⟩:=Wn b (by omega);refine .inl ⟨b,b',by rw[RV,if_pos he,hk1],he2,?_⟩;rw[he]at hE;refine M2 Ag λfr hl h0=>?_;simp[Ag]at hl h0;simp[Ag,hl,h0,hV,hE,hx1,hC]
 .have ha:Ew t (bs [97,101,110,99])=true:=hi.resolve_left he;have he':Ew t (bs [101,110,99])=false:=by simpa using he
  rw[he']at hE;rw[ha]at hA;have hP:=YX b (bs [112,107]);by_cases hp:Ew b (bs [112,107])=true
  .obtain⟨p1,p2⟩:=MD.1 hp;obtain⟨c,hc⟩:=hb.one p1 (by rw[p2];exact .inl rfl);have hsz2:=b.kids_size;rw[hc]at hsz2;simp only[Tm.sizes]at hsz2;have hy0:Jb (A4 b.kids) 0=some (B7 c):=by rw[hc];rfl
   have hk0:O8 b 0=c:=by simp[O8,hc]
   obtain⟨c',hC,he2⟩:=Wn c (by omega);refine .inl ⟨c,c',by rw[RV,if_neg he,if_pos (by rw[ha,hk1,hp];rfl),hk1,hk0],he2,?_⟩;rw[hp]at hP;refine M2 Ag λfr hl h0=>?_;simp[Ag]at hl h0;simp[Ag,hl,h0,hV,hE,hA,hx1,hP,hy0,hC]
  .have hp':Ew b (bs [112,107])=false:=by simpa using hp
   refine .inr ⟨by rw[RV,if_neg he,if_neg (by rw[hk1,hp'];simp)],?_⟩;rw[hp']at hP;refine M2 Ag λfr hl h0=>?_;simp[Ag]at hl h0;simp[Ag,hl,h0,hV,hE,hA,hx1,hP,D2,E7];rfl
theorem PK (a b:Tm) (h:a.size<=1099511627776) (h':b.size<=1099511627776):pc Q l8 [B7 a,B7 b]=some (.bool (KZ a b)):=by
 have hC:=m9 _ a b (A0W _) h h';refine O2 JJ λfr hl h0 h1=>?_;simp[JJ]at hl h0 h1;simp[JJ,hl,h0,h1,hC,KZ]
@[simp] theorem yN (h:AH) (am:Bool) (cs:G1):JW h am (.pv cs)=some (.pv cs):=rfl
@[simp] theorem xP (h:AH) (am:Bool) (g:FuncId) (caps:G1):JW h am (.fn g caps)=if caps.all AV.flat=true then some (.fn g caps)else none:=rfl
@[simp] theorem wc (h:AH) (g:FuncId) (caps:G1):Ef h (.fn g caps)=true:=rfl
@[simp] theorem xz (h:AH) (cs:G1):Ef h (.pv cs)=true:=rfl
@[simp] theorem ui (k:IntKind) (i:Int):AV.flat (.int k i)=true:=rfl
@[simp] theorem uj (s:I3):AV.flat (.str s)=true:=rfl
@[simp] theorem xL (cs:G1):AV.flat (.pv cs)=true:=rfl
theorem Zs (m:J3) (l:I6) (g:FuncId) (caps:G1) (p:Tm->Bool) (hg:C4 g=false) (B8:l.length<=1048576) (hfl:∀(h:AH) (x:Tm),Ay h true (B7 x::caps)=some (B7 x::caps)) (htm:∀h:AH,caps.all (Ef h)=true) (hp:∀x∈l,pc Q g (B7 x::caps)=some (.bool (p x))) (fr:Fr) (h:AH) (hl:fr.length=19) (h0:A0 fr 0=sl m 4 (A4 l)) (h1:A0 fr 1=.fn g caps) (h7:A0 fr 7=.int .i64 l.length) (h8:A0 fr 8=.int .i64 0) :
  B9 (lp (A3 (L5 Q) (E5 W5) O4) (fr,h)) λe C6 h'=>Kp O4.wr fr C6/\(e=.exit 0/\idx p l=-1\/e=.ret/\A0 C6 4=.int .i64 (idx p l)):=by
 refine B5 rfl fr (λn fr h'=>∃(i:Nat),i+n=l.length/\A0 fr 8=.int .i64 (i:Nat)/\R1 p i (l.drop i)=idx p l) ?_ l.length h ⟨0,by omega,h8,rfl⟩;rintro J Φ hJ hΦ n E1 H1 K ⟨i,hi,k8,hr⟩;have A6:=K.1.trans hl;have k0:=A9 K 0 h0;have k1:=A9 K 1 h1;have k7:=A9 K 7 h7;clear K;by_cases A7:i<l.length
 .have Q6:=D1 i (by omega);have hx:=N6 A7;have hP:=hp l[i] (A0E A7);have hF:=λh=>hfl h l[i];rw[A0K A7]at hr;simp only[R1]at hr;generalize l[i]=s at *
  by_cases hc:p s=true
  .rw[if_pos hc]at hr;rw[hc]at hP;simp[O4,A6,k0,k1,k7,k8,A7,hx,hP,hF,htm,hg];exact hΦ _ _ _ (.inr ⟨rfl,by simp[A6,hr]⟩)
  .have hc':p s=false:=by simpa using hc
   rw[if_neg hc]at hr;rw[hc']at hP;simp[O4,A6,k0,k1,k7,k8,A7,Q6,hx,hP,hF,htm,hg];exact G8 hJ ⟨i+1,by omega,by simp[A6],hr⟩
 .rw[A0O (by omega)]at hr;simp[O4,A6,k7,k8,A7];exact hΦ _ _ _ (.inl ⟨rfl,hr.symm⟩)
theorem Rg (m:J3) (l:I6) (g:FuncId) (caps:G1) (p:Tm->Bool) (hg:C4 g=false) (B8:l.length<=1048576)
  (hfl:∀(h:AH) (x:Tm),Ay h true (B7 x::caps)=some (B7 x::caps)) (htm:∀h:AH,caps.all (Ef h)=true) (hca:caps.all AV.flat=true) (hp:∀x∈l,pc Q g (B7 x::caps)=some (.bool (p x))) :
  pc Q Y7 [sl m 4 (A4 l),.fn g caps]=some (.bool (l.any p)):=by
 have hI:pc Q W5 [sl m 4 (A4 l),.fn g caps]=some (.int .i64 (idx p l)):=by
  refine O2 DL λfr hl h0 h1=>?_;simp[DL]at hl h0 h1;simp[DL,hl,h0];refine B9.mono (Zs m l g caps p hg B8 hfl htm hp _ _ ?_ ?_ ?_ ?_ ?_) ?_<;>first|(simp[hl,h0,h1];done)|skip
  rintro e E1 Ei ⟨K,⟨rfl,he⟩|⟨rfl,k4⟩⟩
  .have A6:E1.length=19:=K.1.trans (by simp[hl]);simp[A6,he]
  .simp[k4]
 have he:decide (0<=idx p l)=l.any p:=by
  rw[A0N,decide_eq_true_iff,idx,CX]
 refine O2 BM λfr hl h0 h1=>?_;simp[BM]at hl h0 h1;simp[BM,hl,h0,h1,hI,hca];exact he
theorem Zr (m:J3) (l:I6) (g:FuncId) (caps:G1) (p:Tm->Bool) (hg:C4 g=false) (B8:l.length<=1048576) (hfl:∀(h:AH) (x:Tm),Ay h true (B7 x::caps)=some (B7 x::caps)) (htm:∀h:AH,caps.all (Ef h)=true) (hp:∀x∈l,pc Q g (B7 x::caps)=some (.bool (p x))) (fr:Fr) (h:AH) (hl:fr.length=19) (h0:A0 fr 0=sl m 4 (A4 l)) (h1:A0 fr 1=.fn g caps) (h7:A0 fr 7=.int .i64 l.length) (h8:A0 fr 8=.int .i64 0) :
  B9 (lp (A3 (L5 Q) (E5 P9) K9) (fr,h)) λe C6 h'=>Kp K9.wr fr C6/\(e=.exit 0/\idx p l=-1\/e=.ret/\A0 C6 4=.int .i64 (idx p l)):=by
 refine B5 rfl fr (λn fr h'=>∃(i:Nat),i+n=l.length/\A0 fr 8=.int .i64 (i:Nat)/\R1 p i (l.drop i)=idx p l) ?_ l.length h ⟨0,by omega,h8,rfl⟩;rintro J Φ hJ hΦ n E1 H1 K ⟨i,hi,k8,hr⟩;have A6:=K.1.trans hl;have k0:=A9 K 0 h0;have k1:=A9 K 1 h1;have k7:=A9 K 7 h7;clear K;by_cases A7:i<l.length
 .have Q6:=D1 i (by omega);have hx:=N6 A7;have hP:=hp l[i] (A0E A7);have hF:=λh=>hfl h l[i];rw[A0K A7]at hr;simp only[R1]at hr;generalize l[i]=s at *
  by_cases hc:p s=true
  .rw[if_pos hc]at hr;rw[hc]at hP;simp[K9,A6,k0,k1,k7,k8,A7,hx,hP,hF,htm,hg];exact hΦ _ _ _ (.inr ⟨rfl,by simp[A6,hr]⟩)
  .have hc':p s=false:=by simpa using hc
   rw[if_neg hc]at hr;rw[hc']at hP;simp[K9,A6,k0,k1,k7,k8,A7,Q6,hx,hP,hF,htm,hg];exact G8 hJ ⟨i+1,by omega,by simp[A6],hr⟩
 .rw[A0O (by omega)]at hr;simp[K9,A6,k7,k8,A7];exact hΦ _ _ _ (.inl ⟨rfl,hr.symm⟩)
theorem Rf (m:J3) (l:I6) (g:FuncId) (caps:G1) (p:Tm->Bool) (hg:C4 g=false) (B8:l.length<=1048576)
  (hfl:∀(h:AH) (x:Tm),Ay h true (B7 x::caps)=some (B7 x::caps)) (htm:∀h:AH,caps.all (Ef h)=true) (hca:caps.all AV.flat=true) (hp:∀x∈l,pc Q g (B7 x::caps)=some (.bool (p x))) :
  pc Q S8 [sl m 4 (A4 l),.fn g caps]=some (.bool (l.any p)):=by
 have hI:pc Q P9 [sl m 4 (A4 l),.fn g caps]=some (.int .i64 (idx p l)):=by
  refine O2 Af λfr hl h0 h1=>?_;simp[Af]at hl h0 h1;simp[Af,hl,h0];refine B9.mono (Zr m l g caps p hg B8 hfl htm hp _ _ ?_ ?_ ?_ ?_ ?_) ?_<;>first|(simp[hl,h0,h1];done)|skip
  rintro e E1 Ei ⟨K,⟨rfl,he⟩|⟨rfl,k4⟩⟩
  .have A6:E1.length=19:=K.1.trans (by simp[hl]);simp[A6,he]
  .simp[k4]
 have he:decide (0<=idx p l)=l.any p:=by
  rw[A0N,decide_eq_true_iff,idx,CX]
 refine O2 r7 λfr hl h0 h1=>?_;simp[r7]at hl h0 h1;simp[r7,hl,h0,h1,hI,hca];exact he
def wO:List ByteArray:=[bs [112,97,105,114],bs [101,110,99],bs [97,101,110,99],bs [112,107],bs [115,105,103,110],bs [104,97,115,104]]
def HZ (S:List Tm) (u:Tm):Bool:=LP u wO&&u.kids.all (O5 S)
theorem YR (m:J3) (S:I6) (hS:u6 S) (B8:S.length<=1048576) (hs:∀x∈S,x.size<=1099511627776) (x:Tm) (hx:x.size<=1099511627776) :
  pc Q Y3 [B7 x,.pv [sl m 4 (A4 S)]]=some (.bool (!O5 S x)):=by
 have hH:=Iz m S x hS (by omega) hs hx;refine O2 BH λfr hl h0 h1=>?_;simp[BH]at hl h0 h1;simp[BH,hl,h0,h1,hH]
theorem aZ (m:J3) (S:I6) (hS:u6 S) (B8:S.length<=1048576) (hs:∀x∈S,x.size<=1099511627776) (u:Tm) (hu:u.size<=1048576) :
  pc Q U8 [sl m 4 (A4 S),B7 u]=some (.bool (HZ S u)):=by
 have I9:=u.kids_size;have HH:=Tm.length_le u.kids;have hI:=SY u (true,true) wO (by decide);simp only[CK,wO,A0A,A0C]at hI;change pc Q I1 _=some (.bool (LP u wO))at hI;have hC:=Rg u.cm u.kids Y3 [.pv [sl m 4 (A4 S)]] (λx=>!O5 S x) rfl (by omega) (λh x=>by simp) (λh=>rfl) rfl
  (λx hx=>YR m S hS B8 hs x (by have:=Tm.size_le hx;omega))
 have he:(!(u.kids.any λx=>!O5 S x))=u.kids.all (O5 S):=by simp[List.all_eq_not_any_not]
 unfold HZ;rw[←he];generalize u.kids.any (λx=>!O5 S x)=b at *
 generalize LP u wO=c at *
 cases c with
 |false =>
  refine O2 P3 λfr hl h0 h1=>?_;simp[P3]at hl h0 h1;simp[P3,hl,h0,h1,hI,A5]
 |true =>
  refine O2 P3 λfr hl h0 h1=>?_;simp[P3]at hl h0 h1;simp[P3,hl,h0,h1,hI,A5,hC,BW]
def Rb (S:List Tm) (u t:Tm):Bool :=
 if Ew t (bs [112,97,105,114])then KZ (O8 t 0) u||KZ (O8 t 1) u
 else if Ew t (bs [115,105,103,110])then KZ (O8 t 0) u
 else match RV t with
  |some k=>KZ (O8 t 0) u&&O5 S k
  |none=>false
def MJ (S:List Tm) (u:Tm):Bool:=S.any (Rb S u)
theorem cj (t:Tm) (nm:I3):LP t [nm]=Ew t nm:=by
 unfold LP Ew;simp only[A0J,A0b,A0a];congr 1;rw[A0N,JV,decide_eq_true_iff]
theorem rT (t:Tm) (a b:I3):LP t [a,b]=(Ew t a||Ew t b):=by
 rw[←cj,←cj];unfold LP;simp only[A0J,A0b,A0a];cases decide (t.kind=3)<;>simp
theorem PJ (t:Tm) (nm:I3):pc Q I1 [B7 t,sl (true,true) 1 [.str nm]]=some (.bool (Ew t nm)):=by
 have hI:=SY t (true,true) [nm] (by simp);change pc Q I1 _=some (.bool (LP t [nm]))at hI;rw[cj]at hI;simpa only[CK,A0A,A0C]using hI
theorem lq (t:Tm) (a b:I3):pc Q I1 [B7 t,sl (true,true) 1 [.str a,.str b]]=some (.bool (Ew t a||Ew t b)):=by
 have hI:=SY t (true,true) [a,b] (by simp);change pc Q I1 _=some (.bool (LP t [a,b]))at hI;rw[rT]at hI;simpa only[CK,A0A,A0C]using hI
theorem dh (m:J3) (S:I6) (hS:u6 S) (B8:S.length<=1048576) (hs:∀x∈S,x.size<=1099511627776) (u t:Tm) (hu:u.size<=1048576) (ht:OkT t) :
  pc Q s6 [B7 t,.pv (B7 u).cells,.pv [sl m 4 (A4 S)]]=some (.bool (Rb S u t)):=by
 have hP:=PJ t (bs [112,97,105,114]);have hG:=PJ t (bs [115,105,103,110]);have hE:=lq t (bs [101,110,99]) (bs [97,101,110,99]);have hts:=ht.size;have I9:=t.kids_size;unfold Rb;by_cases hp:Ew t (bs [112,97,105,114])=true
 .obtain⟨a,b,hk⟩:=JY ht hp (.inl rfl);rw[hk]at I9;simp only[Tm.sizes]at I9;have hx0:Jb (A4 t.kids) 0=some (B7 a):=by rw[hk];rfl
  have hx1:Jb (A4 t.kids) 1=some (B7 b):=by rw[hk];rfl
  have e0:O8 t 0=a:=by simp[O8,hk]
  have e1:O8 t 1=b:=by simp[O8,hk]
  have q0:=PK a u (by omega) (by omega);have q1:=PK b u (by omega) (by omega);rw[if_pos hp,e0,e1];rw[hp]at hP;generalize KZ a u=c0 at *
  generalize KZ b u=c1 at *
  cases c0 with
  |true =>
   refine Gg C8 λfr hl h0 h1 h2=>?_;simp[C8]at hl h0 h1 h2;simp[C8,hl,h0,h1,hP,hx0,q0,A5]
  |false =>
   refine Gg C8 λfr hl h0 h1 h2=>?_;simp[C8]at hl h0 h1 h2;simp[C8,hl,h0,h1,hP,hx0,hx1,q0,q1,A5]
 .have hp':Ew t (bs [112,97,105,114])=false:=by simpa using hp
  rw[if_neg hp];rw[hp']at hP;by_cases hg:Ew t (bs [115,105,103,110])=true
  .obtain⟨a,b,hk⟩:=JY ht hg (.inr (.inr (.inr (.inl rfl))));rw[hk]at I9;simp only[Tm.sizes]at I9;have hx0:Jb (A4 t.kids) 0=some (B7 a):=by rw[hk];rfl
   have e0:O8 t 0=a:=by simp[O8,hk]
   have q0:=PK a u (by omega) (by omega);rw[if_pos hg,e0];rw[hg]at hG;refine Gg C8 λfr hl h0 h1 h2=>?_;simp[C8]at hl h0 h1 h2;simp[C8,hl,h0,h1,hP,hG,hx0,q0,A5]
  .have f7:Ew t (bs [115,105,103,110])=false:=by simpa using hg
   rw[if_neg hg];rw[f7]at hG;by_cases he:Ew t (bs [101,110,99])=true\/Ew t (bs [97,101,110,99])=true
   .obtain⟨a,b,hk⟩:∃a b,t.kids=[a,b]:=by
     rcases he with he|he
     .exact JY ht he (.inr (.inl rfl))
     .exact JY ht he (.inr (.inr (.inl rfl)))
    rw[hk]at I9;simp only[Tm.sizes]at I9;have hx0:Jb (A4 t.kids) 0=some (B7 a):=by rw[hk];rfl
    have e0:O8 t 0=a:=by simp[O8,hk]
    have q0:=PK a u (by omega) (by omega);have heE:(Ew t (bs [101,110,99])||Ew t (bs [97,101,110,99]))=true:=by simpa using he
    rw[heE]at hE;rcases sB t ht he with ⟨k,k',hk1,hk2,hK⟩|⟨hk1,hK⟩
    .have hkz:k'.size<=1099511627776:=by
      rw[VP hk2];have:k.size<=t.size:=by
       unfold RV at hk1;have hb1:O8 t 1=b:=by simp[O8,hk]
       by_cases q1:Ew t (bs [101,110,99])=true
       .rw[if_pos q1,hb1]at hk1;cases hk1;omega
       .rw[if_neg q1,hb1]at hk1;by_cases q2:(Ew t (bs [97,101,110,99])&&Ew b (bs [112,107]))=true
        .rw[if_pos q2]at hk1;cases hk1;have hb:OkT b:=ht.kid (by rw[hk];simp);rw[A0D]at q2;obtain⟨p1,p2⟩:=MD.1 q2.2;obtain⟨c,hc⟩:=hb.one p1 (by rw[p2];exact .inl rfl);have hsz2:=b.kids_size;rw[hc]at hsz2;simp only[Tm.sizes]at hsz2;have:O8 b 0=c:=by simp[O8,hc]
         rw[this];omega
        .rw[if_neg q2]at hk1;cases hk1
      omega
     have hH:=Iz m S k' hS (by omega) hs hkz;rw[Tg hk2]at hH;rw[hk1,e0];generalize KZ a u=c0 at *
     cases c0 with
     |true =>
      refine Gg C8 λfr hl h0 h1 h2=>?_;simp[C8]at hl h0 h1 h2;simp[C8,hl,h0,h1,h2,hP,hG,hE,hx0,q0,hK,hH,A5]
     |false =>
      refine Gg C8 λfr hl h0 h1 h2=>?_;simp[C8]at hl h0 h1 h2;simp[C8,hl,h0,h1,hP,hG,hE,hx0,q0,hK,A5]
    .rw[hk1];refine Gg C8 λfr hl h0 h1 h2=>?_;simp[C8]at hl h0 h1 h2;simp[C8,hl,h0,hP,hG,hE,hK,A5]
   .have heE:(Ew t (bs [101,110,99])||Ew t (bs [97,101,110,99]))=false:=by
     rw[A0U,ne_eq,Bool.or_eq_true];exact he
    rw[heE]at hE;have hkn:RV t=none:=by
     unfold RV;rw[if_neg (λh=>he (.inl h)),if_neg];rw[A0D];exact λh=>he (.inr h.1)
    rw[hkn];refine Gg C8 λfr hl h0 h1 h2=>?_;simp[C8]at hl h0 h1 h2;simp[C8,hl,h0,hP,hG,hE,A5]
theorem il (m:J3) (S:I6) (hS:u6 S) (B8:S.length<=1048576) (hs:∀x∈S,OkT x) (u:Tm) (hu:u.size<=1048576) :
  pc Q Y4 [sl m 4 (A4 S),B7 u]=some (.bool (MJ S u)):=by
 have hs2:∀x∈S,x.size<=1099511627776:=λx hx=>by have:=(hs x hx).size;omega
 have hC:=Rf m S s6 [.pv (B7 u).cells,.pv [sl m 4 (A4 S)]] (Rb S u) rfl B8 (λh x=>by simp) (λh=>rfl) rfl
  (λx hx=>dh m S hS B8 hs2 u x hu (hs x hx))
 rw[show S.any (Rb S u)=MJ S u from rfl]at hC;simp only[L0]at hC;refine O2 Dn λfr hl h0 h1=>?_;simp[Dn]at hl h0 h1;simp[Dn,hl,h0,h1,hC,BW]
end Go.Abs.Q
