/- A part of the proof. -/
import Derived.Test.YtohjdamplbhdpaaGreatDoorSD23
set_option linter.all false
open List renaming getElem_mem->oD,length_map->xb,length_nil->xc,map_append->xd,map_cons->xe,map_nil->xf
open Nat renaming le_refl->xX,lt_or_eq_of_le->xY
open Bool renaming eq_false_iff->xZ,eq_iff_iff->xa
namespace Go.Abs.Q
open Go.Proofs
attribute [local simp] D1 D4 fin I2 G0 K7 I3 N4 O5
theorem Rj {t:Tm} (h:t.kind=3->t.name∈AD) {nm:H6} (hn:∀y∈AD,y≠nm):CI t nm=false:=dL h hn
theorem bB (t:Tm) (h:OkT t):pc Q Dr [B8 t]=some (.tup [B8 t,sl (true,false) 1 []]):=by
 have hI:=MO t (bs [101,120,112]);rw[Rj h.nm (by decide)]at hI;refine N0 Ge λfr hl h0=>?_;simp[Ge]at hl h0;simp[Ge,hl,h0,hI,A3]
theorem Zd (u t:Tm) (ht:OkT t) (hu:OkT u) (M8:HN u t=false) (m:J0) (S:I1):pc Q S4 [B8 t,.pv (B8 u).cells,.pv [sl (true,false) 1 []],.pv [sl m 4 (A4 S)]]=some (.bool false):=by
 have hB:=bB t ht;have hS:=MP u t (by have:=hu.size;omega) (by have:=ht.size;omega);rw[M8]at hS;refine WD IT rfl (by simp[d6]) λfr hl ha=>?_;have h0:=ha 0;have h1:=ha 1;have h2:=ha 2;have h3:=ha 3;clear ha;simp[d6]at hl h0 h1 h2 h3;simp[d6,hl,h0,h1,hB,hS]
theorem fW (a b:Tm):HN a b=HN b a:=by
 unfold HN;rw[xa,decide_eq_true_iff,decide_eq_true_iff];exact Jy.2
theorem UE {S:I1} {u:Tm} (h:P3 S u=false) {t:Tm} (ht:t∈S):HN u t=false:=by
 rw[fW,xZ];intro he;have:P3 S u=true:=List.any_eq_true.2 ⟨t,ht,he⟩;rw[h]at this;cases this
theorem dj (m:J0) (S:I1) (C2:S.length<=1048576) (hs:∀x∈S,OkT x) (u:Tm) (hu:OkT u) (hn:P3 S u=false) :
  pc Q W4 [sl m 4 (A4 S),B8 u]=some (.bool false):=by
 have hB:=bB u hu;have hC:=Oq m S S4 [.pv (B8 u).cells,.pv [sl (true,false) 1 []],.pv [sl m 4 (A4 S)]] (λ_=>false) rfl C2 (λh x=>by simp) (λh=>rfl) rfl
  (λx hx=>Zd u x (hs x hx) hu (UE hn hx) m S)
 rw[show (S.any λ_=>false)=false from by simp]at hC;simp only[H4]at hC;refine R9 CS λfr hl h0 h1=>?_;simp[CS]at hl h0 h1;simp[CS,hl,h0,h1,hB,hC,Ai]
end Go.Abs.Q
namespace Go.Abs
def tc (step:St->Option (Ex×St)) (Ψ:Ex->Fr->AH->Prop):Ex->Fr->AH->Prop
 | .normal,fr,h=>C8 (lp step (fr,h)) Ψ
 |e,fr,h=>Ψ e fr h
@[simp] theorem wg (step:St->Option (Ex×St)) (Ψ:Ex->Fr->AH->Prop) (fr:Fr) (h:AH):tc step Ψ .normal fr h=C8 (lp step (fr,h)) Ψ:=_root_.id rfl
@[simp] theorem wd (step:St->Option (Ex×St)) (Ψ:Ex->Fr->AH->Prop) (i:Nat) (fr:Fr) (h:AH):tc step Ψ (.exit i) fr h=Ψ (.exit i) fr h:=_root_.id rfl
@[simp] theorem wh (step:St->Option (Ex×St)) (Ψ:Ex->Fr->AH->Prop) (fr:Fr) (h:AH):tc step Ψ .ret fr h=Ψ .ret fr h:=_root_.id rfl
theorem J4 {step:St->Option (Ex×St)} {fr:Fr} {h:AH} {Ψ:Ex->Fr->AH->Prop} (H:C8 (step (fr,h)) (tc step Ψ)):C8 (lp step (fr,h)) Ψ:=by
 cases hs:step (fr,h)with
 |none=>rw[hs]at H;exact H.elim
 |some x =>
  obtain⟨e,D3,h'⟩:=x;rw[hs]at H;cases e with
  |normal =>
   change C8 (lp step (D3,h')) Ψ at H;cases hl:lp step (D3,h')with
   |none=>rw[hl]at H;exact H.elim
   |some y =>
    rw[lU hs hl];rw[hl]at H;exact H
  |exit i=>rw[al hs];exact H
  |ret=>rw[gT hs];exact H
end Go.Abs
namespace Go.Abs.Q
open Go.Proofs
attribute [local simp] D1 D4 fin I2 G0 K7 I3 N4 O5
theorem XO (w:AV) (l:I1) (k:Nat) (C2:l.length<=1048576) (x0 x1 x2:AV) (C:E5) (hw:w=.sl k l.length 0 l.length) (IH:∀t∈l,∃t',pc Q U5 [B8 t]=some (B8 t')/\D2 t'=D2 t) (fr:Fr) (h:AH) (hh:h.boxes=[[x0,x1,x2,w],C]) (hfam:h.fams[k]?=some ⟨A4 l,4,true⟩) (hl:fr.length=25) (h1:A0 fr 1=.ptr 0 0) (h10:A0 fr 10=w) (h11:A0 fr 11=.int .i64 l.length) (h12:A0 fr 12=.int .i64 0) :
  C8 (lp (A1 (Q8 Q) (G8 U5) Z4) (fr,h)) λe D3 h'=>Kp Z4.wr fr D3/\e=.exit 0/\∃(B:List (List AV)) (done:List Tm),h'=⟨[x0,x1,x2,w]::C::B,h.fams.set k ⟨A4 done,4,true⟩⟩/\H3 done=H3 l/\done.length=l.length:=by
 refine C3 rfl fr (λn fr h'=>∃(i:Nat),i+n=l.length/\A0 fr 12=.int .i64 (i:Nat)/\(∃(B:List (List AV)) (done:List Tm) (X:List AV),X=(done++l.drop i).map B8/\h'=⟨[x0,x1,x2,w]::C::B,h.fams.set k ⟨X,4,true⟩⟩/\H3 done=H3 (l.take i)/\done.length=i)) ?_ l.length h ⟨0,by omega,h12,⟨[],[],A4 l,by simp[D7],by rw[Ch hfam,←hh],by simp[H3],rfl⟩⟩;rintro J Φ hJ hΦ n H0 H1 K ⟨i,hi,k12,hr⟩;have B5:=K.1.trans hl;have k1:=A5 K 1 h1;have k10:=A5 K 10 h10;have k11:=A5 K 11 h11;clear K;by_cases A7:i<l.length
 .have V9:=E6 i (by omega);obtain⟨B,done,X,hX,rfl,hd,EF⟩:=hr;subst hw;obtain⟨t',hI,ht⟩:=IH l[i] (oD A7);obtain⟨q1,q2,q3⟩:=NB B8 done l A7 EF;have q4:=NC B8 done l A7 EF t';have e2:H3 (done++[t'])=H3 (l.take (i+1)):=by
   rw[List.take_succ_eq_append_getElem A7,E4,xd,←E4,hd,E4,E4,xd,xe,xf,xe,xf,ht]
  have CF:=J1 hfam;rw[←hX]at q1 q3 q4;have hq2:X[i]'q1=B8 l[i]:=by subst hX;exact q2
  clear hd ht q2 hX hh;generalize hY:(done++[t']++l.drop (i+1)).map B8=Y at *
  generalize l[i]=s at *
  simp[Z4,B5,k1,k10,k11,k12,A7,V9,hI,hq2,q3,q4,CF];exact O9 hJ ⟨i+1,by omega,by simp[B5],_,done++[t'],Y,hY.symm,rfl,e2,by simp[EF]⟩
 .obtain⟨B,done,X,hX,rfl,hd,EF⟩:=hr;have e:i=l.length:=by omega
  subst e;rw[List.take_length]at hd;rw[List.drop_length,List.append_nil,←D7]at hX;simp[Z4,B5,k11,k12];exact hΦ _ _ _ ⟨rfl,B,done,by rw[hX],hd,EF⟩
theorem da:∀(n:Nat) (t:Tm),t.size<=n->t.size<=1048576->∃t',pc Q U5 [B8 t]=some (B8 t')/\D2 t'=D2 t:=by
 intro n
 induction n with
 |zero=>intro t h;have:=t.size_pos;omega
 |succ n ih =>
  intro t hn hb;obtain⟨k,nm,s,m,kids⟩:=t;have K3:Tm.size (.mk k nm s m kids)=1+Tm.sizes kids:=rfl;have C2:=Tm.length_le kids;have hlv:(A4 kids).length=kids.length:=by rw[D7,xb]
  have hih:∀t∈kids,∃t',pc Q U5 [B8 t]=some (B8 t')/\D2 t'=D2 t:=λt ht=>ih t (by have:=Tm.size_le ht;omega) (by have:=Tm.size_le ht;omega);clear ih
  suffices h:∃v,pc Q U5 [B8 (.mk k nm s m kids)]=some v/\∃t',v=B8 t'/\D2 t'=D2 (.mk k nm s m kids) by
   obtain⟨v,h1,t',rfl,h2⟩:=h;exact⟨t',h1,h2⟩
  obtain⟨w,⟨B0,F⟩,hC,hg,hb0,hf⟩:=Kv m (A4 kids) (by omega) ⟨[[.int .i64 k,.str nm,.int .i64 s,sl m 4 (A4 kids)],[.int .i64 0,.str (bs []),.int .i64 0,.vs true 0 []]],[]⟩;simp only at hb0;subst hb0;obtain⟨c1,c2,c3⟩:=PS hg;have hlenW:=Us hg;rw[hlv]at hlenW;simp only[xc]at hg;rcases hg with ⟨hl0,b,rfl⟩|⟨M8,rfl,hk⟩
  .have:kids=[]:=by rw[D7]at hl0;exact List.map_eq_nil_iff.1 hl0
   subst this;refine Ja y9 λΨ hΨ fr hl h0=>?_;simp[y9,B8]at hl h0;simp[y9,hl,h0,hC];refine J4 ?_;simp[Z4,hl];exact hΨ _ ⟨.mk k nm s (true,b) [],rfl,rfl⟩
  .rw[hlv]at hC hlenW c1 c2 c3;simp only at hk;have Pc:=XO (.sl 0 kids.length 0 kids.length) kids 0 (by omega) (.int .i64 k) (.str nm) (.int .i64 s) [.int .i64 0,.str (bs []),.int .i64 0,.vs true 0 []] rfl hih;refine Ja y9 λΨ hΨ fr hl h0=>?_;simp[y9,B8]at hl h0;simp[y9,hl,h0,hC,hlenW];refine C8.mono (Pc _ _ ?_ ?_ ?_ ?_ ?_ ?_ ?_) ?_<;>first|exact hk|(simp[hl];done)|skip
   rintro e H0 ⟨bx,F2⟩ ⟨K,rfl,B,done,hB,hd,EF⟩;cases hB;have M7:H0.length=25:=K.1.trans (by simp[hl]);have GB:A0 H0 1=.ptr 0 0:=A5 K 1 (by simp[hl]);have FH:A0 H0 2=.ptr 1 0:=A5 K 2 (by simp[hl]);clear K;have CF:=J1 hk;have hz:∀B',y5 ⟨B',F.set 0 ⟨A4 done,4,true⟩⟩ true (.sl 0 kids.length 0 kids.length)=some (sl (false,true) 4 (A4 done)):=λB'=>Hj (b:=true) (by simp[CF]) (by rw[D7,xb,EF]);simp[M7,GB,FH,hz];exact hΨ _ ⟨.mk k nm s (false,true) done,rfl,by simp[D2,hd]⟩
end Go.Abs.Q
namespace Go.Abs.Q
open Go.Proofs
attribute [local simp] D1 D4 fin I2 G0 K7 I3 N4 O5
def JK (t:Tm) (n:Int):AV:=.agg [.int .i64 t.kind,.str t.name,.int .i64 t.sort,sl t.cm 4 (A4 t.kids),.int .i64 n]
@[simp] theorem uk (t:Tm) (n:Int):AV.agg [.int .i64 t.kind,.str t.name,.int .i64 t.sort,sl t.cm 4 (A4 t.kids),.int .i64 n]=JK t n:=rfl
@[simp] theorem pj (t:Tm) (n:Int):(JK t n).cells=[.int .i64 t.kind,.str t.name,.int .i64 t.sort,sl t.cm 4 (A4 t.kids),.int .i64 n]:=rfl
@[simp] theorem pl (t:Tm) (n:Int):(JK t n).isTup=false:=rfl
@[simp] theorem ul (h:AH) (am:Bool) (t:Tm) (n:Int):frz h am (JK t n)=some (JK t n):=rfl
@[simp] theorem sf (h:AH) (t:Tm) (n:Int):tame h (JK t n)=true:=rfl
theorem kL (u:Tm):pc Q I8 [sl (true,false) 1 [],B8 u,.fn EI []]=some (.tup [.int .i64 0,.bool false]):=by
 refine JZ M6 λfr hl h0 h1 h2=>?_;simp[M6]at hl h0 h1 h2;simp[M6,hl,h0,h1];refine J4 ?_;simp[T9,hl]
theorem Zl (u:Tm) (hu:u.size<=1048576) (B:List (List AV)) (F:List Fam) :
  ∃(u':Tm) (k:Nat) (h':AH),rc Q l9 [.vs true 0 [],JK u 1] ⟨B,F⟩=some (.sl k 1 0 1,h')/\h'.fams[k]?=some ⟨[JK u' 1],5,true⟩/\D2 u'=D2 u/\∃B',h'.boxes=B++B':=by
 obtain⟨u',hC,he⟩:=da _ u (xX _) hu;have hB:=kL u;have hI:∀B2:List (List AV),rc Q L9 [.vs true 0 [],.int .i64 0,sl (true,true) 5 [JK u' 1]] ⟨B2,F⟩=some (.sl F.length 1 0 1,⟨B2,F++[⟨[JK u' 1],5,true⟩]⟩):=by
  intro B2;refine JL (s:=ae 5 64) rfl rfl ?_;rw[show sl (true,true) 5 [JK u' 1]=.vs true 5 [JK u' 1] from by simp[sl]];change Oh 5 64 [.vs true 0 [],.int .i64 0,.vs true 5 [JK u' 1]] _=_;simp only[Oh,Ke];rw[if_pos ⟨trivial,rfl⟩,if_pos (by decide)]
 suffices hq:∃v h',rc Q l9 [.vs true 0 [],JK u 1] ⟨B,F⟩=some (v,h')/\∃k,v=.sl k 1 0 1/\h'.fams[k]?=some ⟨[JK u' 1],5,true⟩/\∃B',h'.boxes=B++B' by
  obtain⟨v,h',h1,k,rfl,h2,h3⟩:=hq;exact⟨u',k,h',h1,h2,he,h3⟩
 refine FM Fm λfr hl h0 h1=>?_;simp[Fm]at hl h0 h1;simp[Fm,hl,h0,h1,hB,hC,hI,A3,D0,E7]
theorem UW (t:Tm) (h:t.kind=3->t.name∈AD):pc Q DH [B8 t]=some (.bool false):=by
 by_cases hk:t.kind=3
 .obtain⟨-,-,-,-,-,-,-,n8,n9,n10,-⟩:=Ob (h hk);refine N0 o5 λfr hl h0=>?_;simp[o5]at hl h0;simp[o5,hl,h0,hk,n8,n9,n10]
 .refine N0 o5 λfr hl h0=>?_;simp[o5]at hl h0;simp[o5,hl,h0,hk]
theorem Zj (u:Tm) (hu:u.size<=1048576) (hf:u.kind=3->u.name∈AD) (B:List (List AV)) (F:List Fam) :
  ∃(u':Tm) (k:Nat) (h':AH),rc Q U0 [.vs true 0 [],B8 u,.int .i64 1] ⟨B,F⟩=some (.tup [.sl k 1 0 1,.bool true],h')/\h'.fams[k]?=some ⟨[JK u' 1],5,true⟩/\D2 u'=D2 u/\∃B',h'.boxes=B++B':=by
 obtain⟨u',k,⟨B1,F1⟩,hI,hk,he,⟨B',hB'⟩⟩:=Zl u hu (B++[(B8 u).cells]) F;simp only at hB' hk;subst hB';have hS:=UW u hf
 suffices hq:∃v h',rc Q U0 [.vs true 0 [],B8 u,.int .i64 1] ⟨B,F⟩=some (v,h')/\∃k,v=.tup [.sl k 1 0 1,.bool true]/\h'.fams[k]?=some ⟨[JK u' 1],5,true⟩/\∃B',h'.boxes=B++B' by
  obtain⟨v,h',h1,k,rfl,h2,h3⟩:=hq;exact⟨u',k,h',h1,h2,he,h3⟩
 simp only[H4]at hI;refine kr Et λfr hl h0 h1 h2=>?_;simp[Et]at hl h0 h1 h2;simp[Et,hl,h0,h1,h2,hS,hI,D0,E7];exact hk
theorem sZ (u:Tm) (hu:OkT u):∃u',pc Q BU [B8 u]=some (.tup [sl (false,true) 5 [JK u' 1],.int .i64 0])/\D2 u'=D2 u:=by
 have hs:=hu.size;have hV:=Dw u (by omega);rw[(Eb hu.valid).1]at hV;obtain⟨u',k,⟨B1,F1⟩,hI,hk,he,⟨B',hB'⟩⟩:=Zj u (by omega) hu.nm [(B8 u).cells] [];simp only at hB' hk;subst hB';have hz:∀B',y5 ⟨B',F1⟩ true (.sl k 1 0 1)=some (sl (false,true) 5 [JK u' 1]):=λB'=>Hj hk rfl;refine⟨u',?_,he⟩;simp only[H4]at hI;refine N0 Jh λfr hl h0=>?_;simp[Jh]at hl h0;simp[Jh,hl,h0,hV,hI,hz]
theorem Xu (m:J0) (S:I1) (hS:d9 S) (C2:S.length<=1048576) (hs:∀x∈S,x.size<=1099511627776) (u:Tm) (hu:u.size<=1099511627776) (hn:P3 S u=false) :
  pc Q N1 [JK u 1,.pv [sl m 4 (A4 S)]]=some (.bool false):=by
 have hH:=GX m S u hS (by omega) hs hu;rw[hn]at hH;refine R9 Al λfr hl h0 h1=>?_;simp[Al]at hl h0 h1;simp[Al,hl,h0,h1,hH]
theorem Xc (mm m:J0) (S:I1) (hS:d9 S) (C2:S.length<=1048576) (hs:∀x∈S,x.size<=1099511627776) (u:Tm) (hu:u.size<=1099511627776) (hn:P3 S u=false) :
  pc Q b9 [sl mm 5 [JK u 1],.fn N1 [.pv [sl m 4 (A4 S)]]]=some (.int .i64 (-1)):=by
 have hP:=Xu m S hS C2 hs u hu hn;have h01:IntKind.i64.wrap 1=1:=by decide
 refine R9 Ba λfr hl h0 h1=>?_;simp[Ba]at hl h0 h1;simp[Ba,hl,h0];refine J4 ?_;simp[Dh,hl,h0,h1,hP,h01];refine J4 ?_;simp[hl]
theorem Zg (mm m:J0) (S:I1) (hS:d9 S) (C2:S.length<=1048576) (hs:∀x∈S,x.size<=1099511627776) (u:Tm) (hu:u.size<=1099511627776) (hn:P3 S u=false) :
  pc Q P1 [sl m 4 (A4 S),sl mm 5 [JK u 1]]=some (sl (false,true) 5 [JK u 1]):=by
 have hC:∀(B:List (List AV)),rc Q K8 [sl mm 5 [JK u 1]] ⟨B,[]⟩=some (.sl 0 1 0 1,⟨B,[⟨[JK u 1],5,true⟩]⟩):=by
  intro B
  suffices hq:∃v h',rc Q K8 [sl mm 5 [JK u 1]] ⟨B,[]⟩=some (v,h')/\(v=.sl 0 1 0 1/\h'=⟨B,[⟨[JK u 1],5,true⟩]⟩) by
   obtain⟨v,h',h1,rfl,rfl⟩:=hq;exact h1
  have hr:G5=140737488355328:=rfl;have hm:maxLen=9223372036854775807:=rfl;refine YC Df λfr hl h0=>?_;simp[Df]at hl h0;simp[Df,hl,h0,Nw,FQ,A3,show TM K8=true from rfl,hr,hm]
 have hI:=Xc (false,true) m S hS C2 hs u hu hn;have hD:∀(B:List (List AV)),rc Q K4 [.sl 0 1 0 1,.fn N1 [.pv [sl m 4 (A4 S)]]] ⟨B,[⟨[JK u 1],5,true⟩]⟩=some (.sl 0 1 0 1,⟨B,[⟨[JK u 1],5,true⟩]⟩):=by
  intro B
  suffices hq:∃v h',rc Q K4 [.sl 0 1 0 1,.fn N1 [.pv [sl m 4 (A4 S)]]] ⟨B,[⟨[JK u 1],5,true⟩]⟩=some (v,h')/\(v=.sl 0 1 0 1/\h'=⟨B,[⟨[JK u 1],5,true⟩]⟩) by
   obtain⟨v,h',h1,rfl,rfl⟩:=hq;exact h1
  refine FM Am λfr hl h0 h1=>?_;simp[Am]at hl h0 h1;simp[Am,hl,h0,h1,hI]
 refine R9 Br λfr hl h0 h1=>?_;simp[Br]at hl h0 h1;simp[Br,hl,h0,h1,hC,hD,Ai]
theorem nK (m:J0) (R:I1) (t:Tm) (hR:d9 R) (C2:R.length<=1099511627776) (hs:∀x∈R,x.size<=1099511627776) (ht:t.size<=1099511627776) :
  ∃i:Nat,i<=R.length/\(∀j (hj:j<R.length),j<i->G9 R[j] t<0)/\(∀j (hj:j<R.length),i<=j->0<=G9 R[j] t) /\
   pc Q I0 [sl m 4 (A4 R),B8 t,.fn A8 []]=some (.tup [.int .i64 (i:Nat),.bool (P3 R t)]):=by
 suffices h:∃v,pc Q I0 [sl m 4 (A4 R),B8 t,.fn A8 []]=some v/\∃i:Nat,v=.tup [.int .i64 (i:Nat),.bool (P3 R t)]/\i<=R.length/\(∀j (hj:j<R.length),j<i->G9 R[j] t<0)/\(∀j (hj:j<R.length),i<=j->0<=G9 R[j] t) by
  obtain⟨v,h1,i,rfl,h2,h3,h4⟩:=h;exact⟨i,h2,h3,h4,h1⟩
 refine Xw Z8 λΨ hΨ fr hl h0 h1 h2=>?_;simp[Z8]at hl h0 h1 h2;simp[Z8,hl,h0,h1];refine(C3 (Ψ:=λe D3 h'=>e=.exit 0/\h'=⟨[(B8 t).cells],[]⟩/\∃i:Nat,A0 D3 9=.int .i64 (i:Nat)/\i<=R.length/\(∀j (hj:j<R.length),j<i->G9 R[j] t<0)/\(∀j (hj:j<R.length),i<=j->0<=G9 R[j] t)) rfl _
  (λn D3 h'=>h'=⟨[(B8 t).cells],[]⟩/\∃lo hi:Nat,hi=lo+n/\hi<=R.length/\A0 D3 9=.int .i64 (lo:Nat)/\A0 D3 10=.int .i64 (hi:Nat)/\(∀j (hj:j<R.length),j<lo->G9 R[j] t<0)/\(∀j (hj:j<R.length),hi<=j->0<=G9 R[j] t)) ?_ R.length _
  ⟨by simp,0,R.length,by omega,xX _,by simp[hl],by simp[hl],λj _ h=>absurd h (Nat.not_lt_zero _),λj hj h=>by omega⟩).mono ?_
 .rintro J Φ hJ hΦ n H0 H1 K ⟨rfl,lo,hi,hn,UF,k9,k10,g1,g2⟩;have B5:H0.length=49:=K.1.trans (by simp[hl]);have k0:=A5 K 0 (by simp[h0]:_=sl m 4 (A4 R));have k2:=A5 K 2 (by simp[h2]:_=AV.fn A8 []);have k4:=A5 K 4 (by simp[hl]:_=AV.ptr 0 0);clear K;by_cases A7:0<n
  .have hlti:(lo:Int)<(hi:Int):=by omega
   have hw1:IntKind.i64.wrap ((lo:Int)+(hi:Int))=(lo:Int)+(hi:Int):=M5 (by omega) (by omega);have hw2:IntKind.u64.wrap ((lo:Int)+(hi:Int))=(lo:Int)+(hi:Int):=iq (by omega) (by omega);obtain⟨mid,hmd⟩:∃mid,mid=(lo+hi) / 2:=⟨_,rfl⟩;have hb:=WZ (lo+hi);rw[←hmd,Int.natCast_add]at hb;have hm1:lo<=mid:=by omega
   have hm2:mid<hi:=by omega
   have hw3:IntKind.i64.wrap (mid:Int)=(mid:Int):=M5 (by omega) (by omega);have hw4:=E6 mid (by omega);have hmid:mid<R.length:=by omega
   have hx:=U2 hmid;have hC:=Z3 _ R[mid] t (xX _) (hs _ (oD hmid)) ht;by_cases hc:G9 R[mid] t<0
   .have g1':∀j (hj:j<R.length),j<mid+1->G9 R[j] t<0:=λj hj hjm=>by
     rcases xY (Nat.le_of_lt_succ hjm)with q|q
     .exact El (hR.get hj hmid q) hc
     .subst q;exact hc
    generalize R[mid]=x at *
    simp[O7,B5,k0,k2,k4,k9,k10,hlti,hw1,hw2,hw3,hw4,hb,hx,hC,hc];exact⟨hi-(mid+1),by omega,hJ _ _ _ ⟨by simp,mid+1,hi,by omega,UF,by simp[B5],by simp[k10],g1',g2⟩⟩
   .have g2':∀j (hj:j<R.length),mid<=j->0<=G9 R[j] t:=λj hj hjm=>by
     rcases xY hjm with q|q
     .rcases Int.lt_or_le (G9 R[j] t) 0 with p|p
      .exact absurd (El (hR.get hmid hj q) p) hc
      .exact p
     .subst q;omega
    generalize R[mid]=x at *
    simp[O7,B5,k0,k2,k4,k9,k10,hlti,hw1,hw2,hw3,hb,hx,hC,hc];exact⟨mid-lo,by omega,hJ _ _ _ ⟨by simp,lo,mid,by omega,by omega,by simp[k9],by simp[B5],g1,g2'⟩⟩
  .have hn0:n=0:=by omega
   have hlh:hi=lo:=by omega
   subst hlh;simp[O7,B5,k9,k10];exact hΦ _ _ _ ⟨rfl,by simp,hi,by simp[k9],UF,g1,g2⟩
 .rintro e H0 Jp ⟨K,rfl,rfl,i,k9,hi,g1,g2⟩;have B5:H0.length=49:=K.1.trans (by simp[hl]);have k0:=A5 K 0 (by simp[h0]:_=sl m 4 (A4 R));have k2:=A5 K 2 (by simp[h2]:_=AV.fn A8 []);have k4:=A5 K 4 (by simp[hl]:_=AV.ptr 0 0);have k8:=A5 K 8 (by simp[hl]:_=AV.int .i64 R.length);clear K;have hh:=fj hR t i g1 g2;by_cases A7:i<R.length
  .have hx:=U2 A7;have hC:=Z3 _ R[i] t (xX _) (hs _ (oD A7)) ht;have e:decide (G9 R[i] t=0)=P3 R t:=by
    rw[xa,decide_eq_true_iff,hh];exact⟨λh=>⟨A7,h⟩,λ⟨_,h⟩=>h⟩
   simp[B5,k0,k2,k4,k8,k9,A7,hx,hC];exact hΨ _ ⟨i,by rw[e],hi,g1,g2⟩
  .have e:P3 R t=false:=by
    rw[xZ];intro h;obtain⟨h,-⟩:=hh.1 h;omega
   simp[B5,k8,k9,A7];exact hΨ _ ⟨i,by rw[e],hi,g1,g2⟩
theorem di (m:J0) (u:Tm) (hu:OkT u):pc Q Dq [sl m 5 [JK u 1]]=some (.int .i64 0):=by
 have hV:=Dw u (by have:=hu.size;omega);rw[(Eb hu.valid).1]at hV;have hS:=UW u hu.nm;have h01:IntKind.i64.wrap 1=1:=by decide
 refine N0 Gd λfr hl h0=>?_;simp[Gd]at hl h0;simp[Gd,hl,h0];refine J4 ?_;simp[IZ,hl,hV,hS,h01];refine J4 ?_;simp[hl]
theorem ZV:pc Q q7 [sl (true,false) 1 []]=some (sl (true,false) 1 []):=by
 refine N0 r9 λfr hl h0=>?_;simp[r9]at hl h0;simp[r9,hl,h0,Nw];rfl
theorem Xf (a b:Tm) (h:a.size<=1099511627776) (h':b.size<=1099511627776):pc Q f9 [B8 a,B8 b]=some (.bool (decide (G9 a b=0))):=by
 have hC:=Z3 _ a b (xX _) h h';refine R9 Dd λfr hl h0 h1=>?_;simp[Dd]at hl h0 h1;simp[Dd,hl,h0,h1,hC]
theorem Za (m m2:J0) (u:Tm) (hu:u.size<=1048576):∃m',pc Q Y8 [sl m 1 [sl m2 5 [JK u 1]]]=some (sl m' 4 [B8 u]):=by
 have h01:IntKind.i64.wrap 1=1:=by decide
 have hr:G5=140737488355328:=rfl;have hm:maxLen=9223372036854775807:=rfl;have hmu:TM Y8=true:=rfl;obtain⟨l',hp,-,hS⟩:=Ox 0 ⟨[[.int .i64 u.kind,.str u.name,.int .i64 u.sort,sl u.cm 4 (A4 u.kids),.int .i64 1]],[⟨A4 [u],4,true⟩]⟩ [u] rfl (by simp) (by simp;omega) (by simp);have hl':l'=[u]:=List.perm_singleton.1 hp;subst hl';have hcm:Px f9 [u]:=⟨rfl,λa ha b hb=>by
  rw[List.mem_singleton]at ha hb;exact Xf a b (by rw[ha];omega) (by rw[hb];omega)⟩
 obtain⟨Z,hZ,hZR,hK⟩:=IS f9 [u] hcm 0 ⟨[[.int .i64 u.kind,.str u.name,.int .i64 u.sort,sl u.cm 4 (A4 u.kids),.int .i64 1]],[⟨A4 [u],4,true⟩]⟩ rfl (by simp);have hZ1:Z=[u]:=by
  have:(P4 [u])=[u]:=rfl;rw[this]at hZR;rw[←hZR,List.take_of_length_le (by simp[hZ])]
 subst hZ1;simp only[show P4 [u]=[u] from rfl,show A4 [u]=[B8 u] from rfl,List.length_singleton,List.set_cons_zero]at hS hK
 suffices h:∃v,pc Q Y8 [sl m 1 [sl m2 5 [JK u 1]]]=some v/\∃q:Bool×Bool,v=sl q 4 [B8 u] by
  obtain⟨v,h1,q,rfl⟩:=h;exact⟨q,h1⟩
 refine Ja Eu λΨ hΨ fr hl h0=>?_;simp[Eu]at hl h0;simp[Eu,hl,h0];refine J4 ?_;simp[GH,hl];refine J4 ?_;simp[HL,hl,A3,h01,hr,hm,hmu];refine J4 ?_;simp[hl,h01];refine J4 ?_;simp[hl,hS,hK];exact hΨ _ ⟨(false,true),rfl⟩
@[simp] theorem mY (k:IntKind) (i:Int) (cs:E5):(AV.int k i).reform cs=cs.head?:=rfl
@[simp] theorem lK (b:Bool) (cs:E5):(AV.bool b).reform cs=cs.head?:=rfl
theorem bA (m:J0) (u:Tm) (hu:u.size<=1048576):pc Q I0 [sl m 4 [B8 u],B8 u,.fn A8 []]=some (.tup [.int .i64 0,.bool true]):=by
 obtain⟨i,hi,g1,-,hB⟩:=nK m [u] u (List.pairwise_singleton _ _) (by simp) (by simp;omega) (by omega);have hi0:i=0:=by
  rcases Nat.eq_zero_or_pos i with h|h
  .exact h
  .have:=g1 0 (by simp) h;simp[Jx]at this
 subst hi0;have hh:P3 [u] u=true:=by simp[P3,HN,Jx]
 rw[hh]at hB;exact hB
theorem Xp (m m2:J0) (u:Tm) (hu:u.size<=1048576):∃m',pc Q s9 [sl m 4 [B8 u],sl m2 5 [JK u 1]]=some (sl m' 1 [.int .i64 1]):=by
 have h01:IntKind.i64.wrap 1=1:=by decide
 have hr:G5=140737488355328:=rfl;have hm:maxLen=9223372036854775807:=rfl;have hB:=bA m u hu
 suffices h:∃v,pc Q s9 [sl m 4 [B8 u],sl m2 5 [JK u 1]]=some v/\∃q:Bool×Bool,v=sl q 1 [.int .i64 1] by
  obtain⟨v,h1,q,rfl⟩:=h;exact⟨q,h1⟩
 refine TT EL λΨ hΨ fr hl h0 h1=>?_;simp[EL]at hl h0 h1;simp[EL,hl,h0,h1,hr,hm];refine J4 ?_;simp[GI,hl,h0,hB,h01];refine J4 ?_;simp[hl];exact hΨ _ ⟨(false,true),rfl⟩
theorem Zk (m:J0) (u:Tm) (xs:List Fam) (B C:List (List AV)) (p:AV) :
  rc Q J8 [.ptr B.length 0,.int .i64 0] ⟨B++[sl m 4 [B8 u],.vs true 0 [],p,.bool false]::C,xs⟩=some (A9,⟨B++[sl m 4 [B8 u],.vs true 0 [],p,.bool false]::C,xs⟩):=by
 suffices hq:∃v h',rc Q J8 [.ptr B.length 0,.int .i64 0] ⟨B++[sl m 4 [B8 u],.vs true 0 [],p,.bool false]::C,xs⟩=some (v,h')/\(v=A9/\h'=⟨B++[sl m 4 [B8 u],.vs true 0 [],p,.bool false]::C,xs⟩) by
  obtain⟨v,h',h1,rfl,rfl⟩:=hq;exact h1
 have hb:(B++[sl m 4 [B8 u],.vs true 0 [],p,.bool false]::C)[B.length]?=some [sl m 4 [B8 u],.vs true 0 [],p,.bool false]:=by simp
 generalize B++[sl m 4 [B8 u],.vs true 0 [],p,.bool false]::C=X at *
 refine FM i8 λfr hl h0 h1=>?_;simp[i8]at hl h0 h1;simp[i8];refine J4 ?_;simp[Bd,hl,h0,hb];refine J4 ?_;simp[Bc,hl]
theorem iH (m2:J0) (u:Tm) (hu:OkT u) (B:List (List AV)) (F:List Fam) :
  ∃(m m':Bool×Bool) (k:Nat) (h':AH),rc Q Y9 [sl (true,false) 1 [],sl m2 5 [JK u 1]] ⟨B,F⟩=some (.tup [.ptr B.length 0,.ptr (B.length+1) 0,.int .i64 0],h') /\
   h'.boxes=B++[[sl m 4 [B8 u],.vs true 0 [],.sl k 1 0 1,.bool false],[sl m' 1 [.int .i64 1],sl (true,true) 1 [],.bool false]]/\h'.fams[k]?=some ⟨[.int .i64 (-1)],1,false⟩:=by
 have hs:=hu.size;have h01:IntKind.i64.wrap 1=1:=by decide
 have hr:G5=140737488355328:=rfl;have hm:maxLen=9223372036854775807:=rfl;have hV:=di m2 u hu;have hC:=ZV;obtain⟨m,hCo⟩:=Za (false,true) m2 u (by omega);obtain⟨m',hP⟩:=Xp m m2 u (by omega);have hcol:=Zk m u
 suffices hq:∃v h',rc Q Y9 [sl (true,false) 1 [],sl m2 5 [JK u 1]] ⟨B,F⟩=some (v,h')/\∃k,v=.tup [.ptr B.length 0,.ptr (B.length+1) 0,.int .i64 0]/\h'.boxes=B++[[sl m 4 [B8 u],.vs true 0 [],.sl k 1 0 1,.bool false],[sl m' 1 [.int .i64 1],sl (true,true) 1 [],.bool false]]/\h'.fams[k]?=some ⟨[.int .i64 (-1)],1,false⟩ by
  obtain⟨v,h',h1,k,rfl,h2,h3⟩:=hq;exact⟨m,m',k,h',h1,h2,h3⟩
 refine FM Gc λfr hl h0 h1=>?_;simp[Gc]at hl h0 h1;simp[Gc,hl,h0];refine J4 ?_;simp[IY,hl];have hmu:TM Y9=false:=rfl;have ht:∀B':List (List AV),tame ⟨B',F++[⟨[sl m2 5 [JK u 1]],1,false⟩]⟩ (.sl F.length 1 0 1)=true:=by intro B';simp[tame,GG]
 simp[hl,h0,h1,hV,hC,hCo,A3,hr,hm,FQ,D0,E7,hmu,ht];refine J4 ?_;simp[IX,hl];refine J4 ?_;simp[IW,hl,A3,hr,hm,hmu,h01];refine J4 ?_;simp[hl];refine J4 ?_;simp[IV,hl,hcol,h01];refine J4 ?_;simp[hl,h0,h1,hP,ZP,hr,hm,D0,E7];exact⟨F.length+1,⟨rfl,rfl⟩,by simp⟩
theorem eE (m m':J0) (u:Tm) (B:List (List AV)) (F:List Fam) (k:Nat) (a b:Nat) (co:AV)
  (ha:B[a]?=some [sl m 4 [B8 u],.vs true 0 [],.sl k 1 0 1,.bool false]) (hb:B[b]?=some [sl m' 1 [.int .i64 1],co,.bool false]) (hk:F[k]?=some ⟨[.int .i64 (-1)],1,false⟩) :
  rc Q J9 [.ptr a 0,.ptr b 0] ⟨B,F⟩=some (.int .i64 0,⟨B,F⟩):=by
 suffices hq:∃v h',rc Q J9 [.ptr a 0,.ptr b 0] ⟨B,F⟩=some (v,h')/\(v=.int .i64 0/\h'=⟨B,F⟩) by
  obtain⟨v,h',h1,rfl,rfl⟩:=hq;exact h1
 refine FM i9 λfr hl h0 h1=>?_;simp[i9]at hl h0 h1;simp[i9,hl,h0,ha];refine J4 ?_;simp[Be,hl,h0,h1,ha,hb,hk]
theorem dV (m2:J0) (u:Tm) (hu:OkT u):pc Q FU [sl (true,false) 1 [],sl m2 5 [JK u 1]]=some (.tup [sl (true,false) 1 [],.int .i64 4]):=by
 obtain⟨m,m',k,⟨B',F'⟩,hS,hB,hk⟩:=iH m2 u hu [] [];simp only[List.nil_append,xc]at hB hS hk;subst hB;have hR:=eE m m' u [[sl m 4 [B8 u],.vs true 0 [],.sl k 1 0 1,.bool false],[sl m' 1 [.int .i64 1],sl (true,true) 1 [],.bool false]] F' k 0 1 _ rfl rfl hk;have hV:rc Q y6 [sl (true,false) 1 [],sl m2 5 [JK u 1]] ⟨[],[]⟩=some (.tup [.ptr 0 0,.ptr 1 0,.int .i64 0,.int .i64 0],⟨[[sl m 4 [B8 u],.vs true 0 [],.sl k 1 0 1,.bool false],[sl m' 1 [.int .i64 1],sl (true,true) 1 [],.bool false]],F'⟩):=by
  suffices hq:∃v h',rc Q y6 [sl (true,false) 1 [],sl m2 5 [JK u 1]] ⟨[],[]⟩=some (v,h')/\(v=.tup [.ptr 0 0,.ptr 1 0,.int .i64 0,.int .i64 0]/\h'=⟨[[sl m 4 [B8 u],.vs true 0 [],.sl k 1 0 1,.bool false],[sl m' 1 [.int .i64 1],sl (true,true) 1 [],.bool false]],F'⟩) by
   obtain⟨v,h',h1,rfl,rfl⟩:=hq;exact h1
  refine FM Gb λfr hl h0 h1=>?_;simp[Gb]at hl h0 h1;simp[Gb,hl,h0,h1,hS,hR]
 refine R9 Fl λfr hl h0 h1=>?_;simp[Fl]at hl h0 h1;simp[Fl,hl,h0,h1,hV]
theorem Rr (m:J0) (S:I1) (C2:S.length<=1048576) (hs:∀x∈S,OkT x) (fr:Fr) (h:AH) (h5:A0 fr 5=.vs true 0 []) (hl:fr.length=46) (h18:A0 fr 18=sl m 4 (A4 S)) (h19:A0 fr 19=.int .i64 S.length) (h20:A0 fr 20=.int .i64 0) :
  C8 (lp (A1 (Q8 Q) (G8 Q9) O6) (fr,h)) λe D3 h'=>Kp O6.wr fr D3/\(e=.exit 0/\A0 D3 5=.vs true 0 []):=by
 refine C3 rfl fr (λn fr h'=>∃(i:Nat),i+n=S.length/\A0 fr 20=.int .i64 (i:Nat)/\A0 fr 5=.vs true 0 []) ?_ S.length h ⟨0,by omega,h20,h5⟩;rintro J Φ hJ hΦ n H0 H1 K ⟨i,hi,k20,hr⟩;have B5:=K.1.trans hl;have k18:=A5 K 18 h18;have k19:=A5 K 19 h19;clear K;by_cases A7:i<S.length
 .have V9:=E6 i (by omega);have hx:=U2 A7;have hP:=Xo S[i] (hs _ (oD A7)).nm;obtain⟨bx,F⟩:=H1;generalize S[i]=s at *
  simp[O6,B5,k18,k19,k20,A7,V9,hx,hP];exact O9 hJ ⟨i+1,by omega,by simp[B5],by simp[hr]⟩
 .simp[O6,B5,k19,k20,A7];exact hΦ _ _ _ ⟨rfl,by simp[hr]⟩
theorem Vh (mm m:J0) (S:I1) (hS:d9 S) (C2:S.length<=1048576) (hs:∀x∈S,OkT x) (u:Tm) (hu:OkT u) (hn:P3 S u=false) :
  pc Q Q9 [sl m 4 (A4 S),sl mm 5 [JK u 1]]=some (.bool false):=by
 have hU:=Zg mm m S hS C2 (λx hx=>by have:=(hs x hx).size;omega) u (by have:=hu.size;omega) hn;have hM:=dV (false,true) u hu;refine R9 Ak λfr hl h0 h1=>?_;simp[Ak]at hl h0 h1;simp[Ak,hl,h0,h1,hU];refine C8.mono (Rr m S C2 hs _ _ ?_ ?_ ?_ ?_ ?_) ?_<;>first|(simp[hl];done)|skip
 rintro e H0 Jp ⟨K,rfl,k5⟩;have M7:H0.length=46:=K.1.trans (by simp[hl]);have GB:A0 H0 1=sl (false,true) 5 [JK u 1]:=A5 K 1 (by simp[hl]);clear K;simp[M7,GB,k5,hM]
theorem TQ (m:J0) (S:I1) (hS:d9 S) (C2:S.length<=1048576) (hs:∀x∈S,OkT x) (u:Tm) (hu:OkT u) (hn:P3 S u=false) :
  pc Q AI [sl m 4 (A4 S),B8 u]=some (.bool false):=by
 obtain⟨u',hO,he⟩:=sZ u hu;have hn':P3 S u'=false:=by rw[Qr he];exact hn
 have hG:=Vh (false,true) m S hS C2 hs u' (hu.er he) hn';refine R9 AQ λfr hl h0 h1=>?_;simp[AQ]at hl h0 h1;simp[AQ,hl,h0,h1,hO,hG]
end Go.Abs.Q
