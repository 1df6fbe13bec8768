/- A part of the proof. -/
import Derived.Test.YtohjdamplbhdpaaGreatDoorSK24
set_option linter.all false
open List renaming getElem_mem->A0A,map_cons->A0C,take_succ_eq_append_getElem->A0D,length_map->A0E,map_append->A0F,map_nil->A0G,replicate->A0H,mem_singleton->A0I,take_length->A0L,append_nil->A0N,length_nil->A0O
open Nat renaming le_refl->A0B,lt_or_eq_of_le->A0J
open Bool renaming eq_false_iff->A0K,eq_iff_iff->A0M
namespace Go.Abs.Q
open Go.Proofs
attribute [local simp] D9 E4 fin I8 G6 P7 M4 R4 R3
theorem UW {t:Tm} (h:t.kind=3->t.name∈Ax) {nm:I3} (hn:∀y∈Ax,y≠nm):Ew t nm=false:=iO h hn
theorem fV (t:Tm) (h:OkT t):pc Q Fi [B7 t]=some (.tup [B7 t,sl (true,false) 1 []]):=by
 have hI:=PJ t (bs [101,120,112]);rw[UW h.nm (by decide)]at hI;refine M2 JI λfr hl h0=>?_;simp[JI]at hl h0;simp[JI,hl,h0,hI,A5]
theorem dj (u t:Tm) (ht:OkT t) (hu:OkT u) (P1:KZ u t=false) (m:J3) (S:I6):pc Q U9 [B7 t,.pv (B7 u).cells,.pv [sl (true,false) 1 []],.pv [sl m 4 (A4 S)]]=some (.bool false):=by
 have hB:=fV t ht;have hS:=PK u t (by have:=hu.size;omega) (by have:=ht.size;omega);rw[P1]at hS;refine fQ LO rfl (by simp[t6]) λfr hl ha=>?_;have h0:=ha 0;have h1:=ha 1;have h2:=ha 2;have h3:=ha 3;clear ha;simp[t6]at hl h0 h1 h2 h3;simp[t6,hl,h0,h1,hB,hS]
theorem kP (a b:Tm):KZ a b=KZ b a:=by
 unfold KZ;rw[A0M,decide_eq_true_iff,decide_eq_true_iff];exact NB.2
theorem WX {S:I6} {u:Tm} (h:O5 S u=false) {t:Tm} (ht:t∈S):KZ u t=false:=by
 rw[kP,A0K];intro he;have:O5 S u=true:=List.any_eq_true.2 ⟨t,ht,he⟩;rw[h]at this;cases this
theorem iu (m:J3) (S:I6) (B8:S.length<=1048576) (hs:∀x∈S,OkT x) (u:Tm) (hu:OkT u) (hn:O5 S u=false) :
  pc Q Y5 [sl m 4 (A4 S),B7 u]=some (.bool false):=by
 have hB:=fV u hu;have hC:=Rf m S U9 [.pv (B7 u).cells,.pv [sl (true,false) 1 []],.pv [sl m 4 (A4 S)]] (λ_=>false) rfl B8 (λh x=>by simp) (λh=>rfl) rfl
  (λx hx=>dj u x (hs x hx) hu (WX hn hx) m S)
 rw[show (S.any λ_=>false)=false from by simp]at hC;simp only[L0]at hC;refine O2 Do λfr hl h0 h1=>?_;simp[Do]at hl h0 h1;simp[Do,hl,h0,h1,hB,hC,BW]
end Go.Abs.Q
namespace Go.Abs
def wl (step:St->Option (Ex×St)) (Ψ:Ex->Fr->AH->Prop):Ex->Fr->AH->Prop
 | .normal,fr,h=>B9 (lp step (fr,h)) Ψ
 |e,fr,h=>Ψ e fr h
@[simp] theorem zQ (step:St->Option (Ex×St)) (Ψ:Ex->Fr->AH->Prop) (fr:Fr) (h:AH):wl step Ψ .normal fr h=B9 (lp step (fr,h)) Ψ:=_root_.id rfl
@[simp] theorem zP (step:St->Option (Ex×St)) (Ψ:Ex->Fr->AH->Prop) (i:Nat) (fr:Fr) (h:AH):wl step Ψ (.exit i) fr h=Ψ (.exit i) fr h:=_root_.id rfl
@[simp] theorem zR (step:St->Option (Ex×St)) (Ψ:Ex->Fr->AH->Prop) (fr:Fr) (h:AH):wl step Ψ .ret fr h=Ψ .ret fr h:=_root_.id rfl
theorem K0 {step:St->Option (Ex×St)} {fr:Fr} {h:AH} {Ψ:Ex->Fr->AH->Prop} (H:B9 (step (fr,h)) (wl step Ψ)):B9 (lp step (fr,h)) Ψ:=by
 cases hs:step (fr,h)with
 |none=>rw[hs]at H;exact H.elim
 |some x =>
  obtain⟨e,C6,h'⟩:=x;rw[hs]at H;cases e with
  |normal =>
   change B9 (lp step (C6,h')) Ψ at H;cases hl:lp step (C6,h')with
   |none=>rw[hl]at H;exact H.elim
   |some y =>
    rw[qR hs hl];rw[hl]at H;exact H
  |exit i=>rw[fJ hs];exact H
  |ret=>rw[lO hs];exact H
end Go.Abs
namespace Go.Abs.Q
open Go.Proofs
attribute [local simp] D9 E4 fin I8 G6 P7 M4 R4 R3
theorem Zy (w:AV) (l:I6) (k:Nat) (B8:l.length<=1048576) (x0 x1 x2:AV) (C:G1) (hw:w=.sl k l.length 0 l.length) (IH:∀t∈l,∃t',pc Q W3 [B7 t]=some (B7 t')/\E8 t'=E8 t) (fr:Fr) (h:AH) (hh:h.boxes=[[x0,x1,x2,w],C]) (hfam:h.fams[k]?=some ⟨A4 l,4,true⟩) (hl:fr.length=25) (h1:A0 fr 1=.ptr 0 0) (h10:A0 fr 10=w) (h11:A0 fr 11=.int .i64 l.length) (h12:A0 fr 12=.int .i64 0) :
  B9 (lp (A3 (L5 Q) (E5 W3) o9) (fr,h)) λe C6 h'=>Kp o9.wr fr C6/\e=.exit 0/\∃(B:List (List AV)) (done:List Tm),h'=⟨[x0,x1,x2,w]::C::B,h.fams.set k ⟨A4 done,4,true⟩⟩/\H2 done=H2 l/\done.length=l.length:=by
 refine B5 rfl fr (λn fr h'=>∃(i:Nat),i+n=l.length/\A0 fr 12=.int .i64 (i:Nat)/\(∃(B:List (List AV)) (done:List Tm) (X:List AV),X=(done++l.drop i).map B7/\h'=⟨[x0,x1,x2,w]::C::B,h.fams.set k ⟨X,4,true⟩⟩/\H2 done=H2 (l.take i)/\done.length=i)) ?_ l.length h ⟨0,by omega,h12,⟨[],[],A4 l,by simp[D6],by rw[DC hfam,←hh],by simp[H2],rfl⟩⟩;rintro J Φ hJ hΦ n E1 H1 K ⟨i,hi,k12,hr⟩;have A6:=K.1.trans hl;have k1:=A9 K 1 h1;have k10:=A9 K 10 h10;have k11:=A9 K 11 h11;clear K;by_cases A7:i<l.length
 .have Q6:=D1 i (by omega);obtain⟨B,done,X,hX,rfl,hd,DX⟩:=hr;subst hw;obtain⟨t',hI,ht⟩:=IH l[i] (A0A A7);obtain⟨q1,q2,q3⟩:=Pt B7 done l A7 DX;have q4:=Pu B7 done l A7 DX t';have e2:H2 (done++[t'])=H2 (l.take (i+1)):=by
   rw[A0D A7,E3,A0F,←E3,hd,E3,E3,A0F,A0C,A0G,A0C,A0G,ht]
  have HH:=I2 hfam;rw[←hX]at q1 q3 q4;have hq2:X[i]'q1=B7 l[i]:=by subst hX;exact q2
  clear hd ht q2 hX hh;generalize hY:(done++[t']++l.drop (i+1)).map B7=Y at *
  generalize l[i]=s at *
  simp[o9,A6,k1,k10,k11,k12,A7,Q6,hI,hq2,q3,q4,HH];exact G8 hJ ⟨i+1,by omega,by simp[A6],_,done++[t'],Y,hY.symm,rfl,e2,by simp[DX]⟩
 .obtain⟨B,done,X,hX,rfl,hd,DX⟩:=hr;have e:i=l.length:=by omega
  subst e;rw[A0L]at hd;rw[List.drop_length,A0N,←D6]at hX;simp[o9,A6,k11,k12];exact hΦ _ _ _ ⟨rfl,B,done,by rw[hX],hd,DX⟩
theorem ie:∀(n:Nat) (t:Tm),t.size<=n->t.size<=1048576->∃t',pc Q W3 [B7 t]=some (B7 t')/\E8 t'=E8 t:=by
 intro n
 induction n with
 |zero=>intro t h;have:=t.size_pos;omega
 |succ n ih =>
  intro t hn hb;obtain⟨k,nm,s,m,kids⟩:=t;have I9:Tm.size (.mk k nm s m kids)=1+Tm.sizes kids:=rfl;have B8:=Tm.length_le kids;have hlv:(A4 kids).length=kids.length:=by rw[D6,A0E]
  have hih:∀t∈kids,∃t',pc Q W3 [B7 t]=some (B7 t')/\E8 t'=E8 t:=λt ht=>ih t (by have:=Tm.size_le ht;omega) (by have:=Tm.size_le ht;omega);clear ih
  suffices h:∃v,pc Q W3 [B7 (.mk k nm s m kids)]=some v/\∃t',v=B7 t'/\E8 t'=E8 (.mk k nm s m kids) by
   obtain⟨v,h1,t',rfl,h2⟩:=h;exact⟨t',h1,h2⟩
  obtain⟨w,⟨B0,F⟩,hC,hg,hb0,hf⟩:=Nv m (A4 kids) (by omega) ⟨[[.int .i64 k,.str nm,.int .i64 s,sl m 4 (A4 kids)],[.int .i64 0,.str (bs []),.int .i64 0,.vs true 0 []]],[]⟩;simp only at hb0;subst hb0;obtain⟨c1,c2,c3⟩:=SG hg;have hlenW:=XT hg;rw[hlv]at hlenW;simp only[A0O]at hg;rcases hg with ⟨hl0,b,rfl⟩|⟨P1,rfl,hk⟩
  .have:kids=[]:=by rw[D6]at hl0;exact List.map_eq_nil_iff.1 hl0
   subst this;refine HL Ap λΨ hΨ fr hl h0=>?_;simp[Ap,B7]at hl h0;simp[Ap,hl,h0,hC];refine K0 ?_;simp[o9,hl];exact hΨ _ ⟨.mk k nm s (true,b) [],rfl,rfl⟩
  .rw[hlv]at hC hlenW c1 c2 c3;simp only at hk;have KB:=Zy (.sl 0 kids.length 0 kids.length) kids 0 (by omega) (.int .i64 k) (.str nm) (.int .i64 s) [.int .i64 0,.str (bs []),.int .i64 0,.vs true 0 []] rfl hih;refine HL Ap λΨ hΨ fr hl h0=>?_;simp[Ap,B7]at hl h0;simp[Ap,hl,h0,hC,hlenW];refine B9.mono (KB _ _ ?_ ?_ ?_ ?_ ?_ ?_ ?_) ?_<;>first|exact hk|(simp[hl];done)|skip
   rintro e E1 ⟨bx,F2⟩ ⟨K,rfl,B,done,hB,hd,DX⟩;cases hB;have J5:E1.length=25:=K.1.trans (by simp[hl]);have Ey:A0 E1 1=.ptr 0 0:=A9 K 1 (by simp[hl]);have GG:A0 E1 2=.ptr 1 0:=A9 K 2 (by simp[hl]);clear K;have HH:=I2 hk;have hz:∀B',Dy ⟨B',F.set 0 ⟨A4 done,4,true⟩⟩ true (.sl 0 kids.length 0 kids.length)=some (sl (false,true) 4 (A4 done)):=λB'=>JX (b:=true) (by simp[HH]) (by rw[D6,A0E,DX]);simp[J5,Ey,GG,hz];exact hΨ _ ⟨.mk k nm s (false,true) done,rfl,by simp[E8,hd]⟩
end Go.Abs.Q
namespace Go.Abs.Q
open Go.Proofs
attribute [local simp] D9 E4 fin I8 G6 P7 M4 R4 R3
def MM (t:Tm) (n:Int):AV:=.agg [.int .i64 t.kind,.str t.name,.int .i64 t.sort,sl t.cm 4 (A4 t.kids),.int .i64 n]
@[simp] theorem xm (t:Tm) (n:Int):AV.agg [.int .i64 t.kind,.str t.name,.int .i64 t.sort,sl t.cm 4 (A4 t.kids),.int .i64 n]=MM t n:=rfl
@[simp] theorem tc (t:Tm) (n:Int):(MM t n).cells=[.int .i64 t.kind,.str t.name,.int .i64 t.sort,sl t.cm 4 (A4 t.kids),.int .i64 n]:=rfl
@[simp] theorem td (t:Tm) (n:Int):(MM t n).isTup=false:=rfl
@[simp] theorem xn (h:AH) (am:Bool) (t:Tm) (n:Int):JW h am (MM t n)=some (MM t n):=rfl
@[simp] theorem wA (h:AH) (t:Tm) (n:Int):Ef h (MM t n)=true:=rfl
theorem om (u:Tm):pc Q J4 [sl (true,false) 1 [],B7 u,.fn GJ []]=some (.tup [.int .i64 0,.bool false]):=by
 refine Gg N9 λfr hl h0 h1 h2=>?_;simp[N9]at hl h0 h1 h2;simp[N9,hl,h0,h1];refine K0 ?_;simp[V7,hl]
theorem dw (u:Tm) (hu:u.size<=1048576) (B:List (List AV)) (F:List Fam) :
  ∃(u':Tm) (k:Nat) (h':AH),rc Q y9 [.vs true 0 [],MM u 1] ⟨B,F⟩=some (.sl k 1 0 1,h')/\h'.fams[k]?=some ⟨[MM u' 1],5,true⟩/\E8 u'=E8 u/\∃B',h'.boxes=B++B':=by
 obtain⟨u',hC,he⟩:=ie _ u (A0B _) hu;have hB:=om u;have hI:∀B2:List (List AV),rc Q N0 [.vs true 0 [],.int .i64 0,sl (true,true) 5 [MM u' 1]] ⟨B2,F⟩=some (.sl F.length 1 0 1,⟨B2,F++[⟨[MM u' 1],5,true⟩]⟩):=by
  intro B2;refine MN (s:=fC 5 64) rfl rfl ?_;rw[show sl (true,true) 5 [MM u' 1]=.vs true 5 [MM u' 1] from by simp[sl]];change RT 5 64 [.vs true 0 [],.int .i64 0,.vs true 5 [MM u' 1]] _=_;simp only[RT,Nh];rw[if_pos ⟨trivial,rfl⟩,if_pos (by decide)]
 suffices hq:∃v h',rc Q y9 [.vs true 0 [],MM u 1] ⟨B,F⟩=some (v,h')/\∃k,v=.sl k 1 0 1/\h'.fams[k]?=some ⟨[MM u' 1],5,true⟩/\∃B',h'.boxes=B++B' by
  obtain⟨v,h',h1,k,rfl,h2,h3⟩:=hq;exact⟨u',k,h',h1,h2,he,h3⟩
 refine Gh IQ λfr hl h0 h1=>?_;simp[IQ]at hl h0 h1;simp[IQ,hl,h0,h1,hB,hC,hI,A5,D2,E7]
theorem Wo (t:Tm) (h:t.kind=3->t.name∈Ax):pc Q Ek [B7 t]=some (.bool false):=by
 by_cases hk:t.kind=3
 .obtain⟨-,-,-,-,-,-,-,n8,n9,n10,-⟩:=RP (h hk);refine M2 AC λfr hl h0=>?_;simp[AC]at hl h0;simp[AC,hl,h0,hk,n8,n9,n10]
 .refine M2 AC λfr hl h0=>?_;simp[AC]at hl h0;simp[AC,hl,h0,hk]
theorem du (u:Tm) (hu:u.size<=1048576) (hf:u.kind=3->u.name∈Ax) (B:List (List AV)) (F:List Fam) :
  ∃(u':Tm) (k:Nat) (h':AH),rc Q V9 [.vs true 0 [],B7 u,.int .i64 1] ⟨B,F⟩=some (.tup [.sl k 1 0 1,.bool true],h')/\h'.fams[k]?=some ⟨[MM u' 1],5,true⟩/\E8 u'=E8 u/\∃B',h'.boxes=B++B':=by
 obtain⟨u',k,⟨B1,F1⟩,hI,hk,he,⟨B',hB'⟩⟩:=dw u hu (B++[(B7 u).cells]) F;simp only at hB' hk;subst hB';have hS:=Wo u hf
 suffices hq:∃v h',rc Q V9 [.vs true 0 [],B7 u,.int .i64 1] ⟨B,F⟩=some (v,h')/\∃k,v=.tup [.sl k 1 0 1,.bool true]/\h'.fams[k]?=some ⟨[MM u' 1],5,true⟩/\∃B',h'.boxes=B++B' by
  obtain⟨v,h',h1,k,rfl,h2,h3⟩:=hq;exact⟨u',k,h',h1,h2,he,h3⟩
 simp only[L0]at hI;refine pj HQ λfr hl h0 h1 h2=>?_;simp[HQ]at hl h0 h1 h2;simp[HQ,hl,h0,h1,h2,hS,hI,D2,E7];exact hk
theorem vx (u:Tm) (hu:OkT u):∃u',pc Q CY [B7 u]=some (.tup [sl (false,true) 5 [MM u' 1],.int .i64 0])/\E8 u'=E8 u:=by
 have hs:=hu.size;have hV:=Fs u (by omega);rw[(Gk hu.valid).1]at hV;obtain⟨u',k,⟨B1,F1⟩,hI,hk,he,⟨B',hB'⟩⟩:=du u (by omega) hu.nm [(B7 u).cells] [];simp only at hB' hk;subst hB';have hz:∀B',Dy ⟨B',F1⟩ true (.sl k 1 0 1)=some (sl (false,true) 5 [MM u' 1]):=λB'=>JX hk rfl;refine⟨u',?_,he⟩;simp only[L0]at hI;refine M2 Mj λfr hl h0=>?_;simp[Mj]at hl h0;simp[Mj,hl,h0,hV,hI,hz]
theorem aw (m:J3) (S:I6) (hS:u6 S) (B8:S.length<=1048576) (hs:∀x∈S,x.size<=1099511627776) (u:Tm) (hu:u.size<=1099511627776) (hn:O5 S u=false) :
  pc Q O3 [MM u 1,.pv [sl m 4 (A4 S)]]=some (.bool false):=by
 have hH:=Iz m S u hS (by omega) hs hu;rw[hn]at hH;refine O2 BZ λfr hl h0 h1=>?_;simp[BZ]at hl h0 h1;simp[BZ,hl,h0,h1,hH]
theorem aT (mm m:J3) (S:I6) (hS:u6 S) (B8:S.length<=1048576) (hs:∀x∈S,x.size<=1099511627776) (u:Tm) (hu:u.size<=1099511627776) (hn:O5 S u=false) :
  pc Q s8 [sl mm 5 [MM u 1],.fn O3 [.pv [sl m 4 (A4 S)]]]=some (.int .i64 (-1)):=by
 have hP:=aw m S hS B8 hs u hu hn;have h01:IntKind.i64.wrap 1=1:=by decide
 refine O2 Cf λfr hl h0 h1=>?_;simp[Cf]at hl h0 h1;simp[Cf,hl,h0];refine K0 ?_;simp[FW,hl,h0,h1,hP,h01];refine K0 ?_;simp[hl]
theorem dq (mm m:J3) (S:I6) (hS:u6 S) (B8:S.length<=1048576) (hs:∀x∈S,x.size<=1099511627776) (u:Tm) (hu:u.size<=1099511627776) (hn:O5 S u=false) :
  pc Q Q8 [sl m 4 (A4 S),sl mm 5 [MM u 1]]=some (sl (false,true) 5 [MM u 1]):=by
 have hC:∀(B:List (List AV)),rc Q L7 [sl mm 5 [MM u 1]] ⟨B,[]⟩=some (.sl 0 1 0 1,⟨B,[⟨[MM u 1],5,true⟩]⟩):=by
  intro B
  suffices hq:∃v h',rc Q L7 [sl mm 5 [MM u 1]] ⟨B,[]⟩=some (v,h')/\(v=.sl 0 1 0 1/\h'=⟨B,[⟨[MM u 1],5,true⟩]⟩) by
   obtain⟨v,h',h1,rfl,rfl⟩:=hq;exact h1
  have hr:H6=140737488355328:=rfl;have hm:maxLen=9223372036854775807:=rfl;refine bE FU λfr hl h0=>?_;simp[FU]at hl h0;simp[FU,hl,h0,Qo,Hm,A5,show Vp L7=true from rfl,hr,hm]
 have hI:=aT (false,true) m S hS B8 hs u hu hn;have hD:∀(B:List (List AV)),rc Q L3 [.sl 0 1 0 1,.fn O3 [.pv [sl m 4 (A4 S)]]] ⟨B,[⟨[MM u 1],5,true⟩]⟩=some (.sl 0 1 0 1,⟨B,[⟨[MM u 1],5,true⟩]⟩):=by
  intro B
  suffices hq:∃v h',rc Q L3 [.sl 0 1 0 1,.fn O3 [.pv [sl m 4 (A4 S)]]] ⟨B,[⟨[MM u 1],5,true⟩]⟩=some (v,h')/\(v=.sl 0 1 0 1/\h'=⟨B,[⟨[MM u 1],5,true⟩]⟩) by
   obtain⟨v,h',h1,rfl,rfl⟩:=hq;exact h1
  refine Gh Ba λfr hl h0 h1=>?_;simp[Ba]at hl h0 h1;simp[Ba,hl,h0,h1,hI]
 refine O2 DF λfr hl h0 h1=>?_;simp[DF]at hl h0 h1;simp[DF,hl,h0,h1,hC,hD,BW]
theorem rv (m:J3) (R:I6) (t:Tm) (hR:u6 R) (B8:R.length<=1099511627776) (hs:∀x∈R,x.size<=1099511627776) (ht:t.size<=1099511627776) :
  ∃i:Nat,i<=R.length/\(∀j (hj:j<R.length),j<i->H7 R[j] t<0)/\(∀j (hj:j<R.length),i<=j->0<=H7 R[j] t) /\
   pc Q I5 [sl m 4 (A4 R),B7 t,.fn C2 []]=some (.tup [.int .i64 (i:Nat),.bool (O5 R t)]):=by
 suffices h:∃v,pc Q I5 [sl m 4 (A4 R),B7 t,.fn C2 []]=some v/\∃i:Nat,v=.tup [.int .i64 (i:Nat),.bool (O5 R t)]/\i<=R.length/\(∀j (hj:j<R.length),j<i->H7 R[j] t<0)/\(∀j (hj:j<R.length),i<=j->0<=H7 R[j] t) by
  obtain⟨v,h1,i,rfl,h2,h3,h4⟩:=h;exact⟨i,h2,h3,h4,h1⟩
 refine ay r6 λΨ hΨ fr hl h0 h1 h2=>?_;simp[r6]at hl h0 h1 h2;simp[r6,hl,h0,h1];refine(B5 (Ψ:=λe C6 h'=>e=.exit 0/\h'=⟨[(B7 t).cells],[]⟩/\∃i:Nat,A0 C6 9=.int .i64 (i:Nat)/\i<=R.length/\(∀j (hj:j<R.length),j<i->H7 R[j] t<0)/\(∀j (hj:j<R.length),i<=j->0<=H7 R[j] t)) rfl _
  (λn C6 h'=>h'=⟨[(B7 t).cells],[]⟩/\∃lo hi:Nat,hi=lo+n/\hi<=R.length/\A0 C6 9=.int .i64 (lo:Nat)/\A0 C6 10=.int .i64 (hi:Nat)/\(∀j (hj:j<R.length),j<lo->H7 R[j] t<0)/\(∀j (hj:j<R.length),hi<=j->0<=H7 R[j] t)) ?_ R.length _
  ⟨by simp,0,R.length,by omega,A0B _,by simp[hl],by simp[hl],λj _ h=>absurd h (Nat.not_lt_zero _),λj hj h=>by omega⟩).mono ?_
 .rintro J Φ hJ hΦ n E1 H1 K ⟨rfl,lo,hi,hn,WY,k9,k10,g1,g2⟩;have A6:E1.length=49:=K.1.trans (by simp[hl]);have k0:=A9 K 0 (by simp[h0]:_=sl m 4 (A4 R));have k2:=A9 K 2 (by simp[h2]:_=AV.fn C2 []);have k4:=A9 K 4 (by simp[hl]:_=AV.ptr 0 0);clear K;by_cases A7:0<n
  .have hlti:(lo:Int)<(hi:Int):=by omega
   have hw1:IntKind.i64.wrap ((lo:Int)+(hi:Int))=(lo:Int)+(hi:Int):=U4 (by omega) (by omega);have hw2:IntKind.u64.wrap ((lo:Int)+(hi:Int))=(lo:Int)+(hi:Int):=mv (by omega) (by omega);obtain⟨mid,hmd⟩:∃mid,mid=(lo+hi) / 2:=⟨_,rfl⟩;have hb:=ZK (lo+hi);rw[←hmd,Int.natCast_add]at hb;have hm1:lo<=mid:=by omega
   have hm2:mid<hi:=by omega
   have hw3:IntKind.i64.wrap (mid:Int)=(mid:Int):=U4 (by omega) (by omega);have hw4:=D1 mid (by omega);have hmid:mid<R.length:=by omega
   have hx:=N6 hmid;have hC:=m9 _ R[mid] t (A0B _) (hs _ (A0A hmid)) ht;by_cases hc:H7 R[mid] t<0
   .have g1':∀j (hj:j<R.length),j<mid+1->H7 R[j] t<0:=λj hj hjm=>by
     rcases A0J (Nat.le_of_lt_succ hjm)with q|q
     .exact HG (hR.get hj hmid q) hc
     .subst q;exact hc
    generalize R[mid]=x at *
    simp[Q3,A6,k0,k2,k4,k9,k10,hlti,hw1,hw2,hw3,hw4,hb,hx,hC,hc];exact⟨hi-(mid+1),by omega,hJ _ _ _ ⟨by simp,mid+1,hi,by omega,WY,by simp[A6],by simp[k10],g1',g2⟩⟩
   .have g2':∀j (hj:j<R.length),mid<=j->0<=H7 R[j] t:=λj hj hjm=>by
     rcases A0J hjm with q|q
     .rcases Int.lt_or_le (H7 R[j] t) 0 with p|p
      .exact absurd (HG (hR.get hmid hj q) p) hc
      .exact p
     .subst q;omega
    generalize R[mid]=x at *
    simp[Q3,A6,k0,k2,k4,k9,k10,hlti,hw1,hw2,hw3,hb,hx,hC,hc];exact⟨mid-lo,by omega,hJ _ _ _ ⟨by simp,lo,mid,by omega,by omega,by simp[k9],by simp[A6],g1,g2'⟩⟩
  .have hn0:n=0:=by omega
   have hlh:hi=lo:=by omega
   subst hlh;simp[Q3,A6,k9,k10];exact hΦ _ _ _ ⟨rfl,by simp,hi,by simp[k9],WY,g1,g2⟩
 .rintro e E1 Ei ⟨K,rfl,rfl,i,k9,hi,g1,g2⟩;have A6:E1.length=49:=K.1.trans (by simp[hl]);have k0:=A9 K 0 (by simp[h0]:_=sl m 4 (A4 R));have k2:=A9 K 2 (by simp[h2]:_=AV.fn C2 []);have k4:=A9 K 4 (by simp[hl]:_=AV.ptr 0 0);have k8:=A9 K 8 (by simp[hl]:_=AV.int .i64 R.length);clear K;have hh:=kX hR t i g1 g2;by_cases A7:i<R.length
  .have hx:=N6 A7;have hC:=m9 _ R[i] t (A0B _) (hs _ (A0A A7)) ht;have e:decide (H7 R[i] t=0)=O5 R t:=by
    rw[A0M,decide_eq_true_iff,hh];exact⟨λh=>⟨A7,h⟩,λ⟨_,h⟩=>h⟩
   simp[A6,k0,k2,k4,k8,k9,A7,hx,hC];exact hΨ _ ⟨i,by rw[e],hi,g1,g2⟩
  .have e:O5 R t=false:=by
    rw[A0K];intro h;obtain⟨h,-⟩:=hh.1 h;omega
   simp[A6,k8,k9,A7];exact hΨ _ ⟨i,by rw[e],hi,g1,g2⟩
theorem io (m:J3) (u:Tm) (hu:OkT u):pc Q Fh [sl m 5 [MM u 1]]=some (.int .i64 0):=by
 have hV:=Fs u (by have:=hu.size;omega);rw[(Gk hu.valid).1]at hV;have hS:=Wo u hu.nm;have h01:IntKind.i64.wrap 1=1:=by decide
 refine M2 JH λfr hl h0=>?_;simp[JH]at hl h0;simp[JH,hl,h0];refine K0 ?_;simp[LV,hl,hV,hS,h01];refine K0 ?_;simp[hl]
theorem dU:pc Q AM [sl (true,false) 1 []]=some (sl (true,false) 1 []):=by
 refine M2 AU λfr hl h0=>?_;simp[AU]at hl h0;simp[AU,hl,h0,Qo];rfl
theorem aY (a b:Tm) (h:a.size<=1099511627776) (h':b.size<=1099511627776):pc Q u7 [B7 a,B7 b]=some (.bool (decide (H7 a b=0))):=by
 have hC:=m9 _ a b (A0B _) h h';refine O2 FP λfr hl h0 h1=>?_;simp[FP]at hl h0 h1;simp[FP,hl,h0,h1,hC]
theorem da (m m2:J3) (u:Tm) (hu:u.size<=1048576):∃m',pc Q j8 [sl m 1 [sl m2 5 [MM u 1]]]=some (sl m' 4 [B7 u]):=by
 have h01:IntKind.i64.wrap 1=1:=by decide
 have hr:H6=140737488355328:=rfl;have hm:maxLen=9223372036854775807:=rfl;have hmu:Vp j8=true:=rfl;obtain⟨l',hp,-,hS⟩:=Rl 0 ⟨[[.int .i64 u.kind,.str u.name,.int .i64 u.sort,sl u.cm 4 (A4 u.kids),.int .i64 1]],[⟨A4 [u],4,true⟩]⟩ [u] rfl (by simp) (by simp;omega) (by simp);have hl':l'=[u]:=List.perm_singleton.1 hp;subst hl';have hcm:Sm u7 [u]:=⟨rfl,λa ha b hb=>by
  rw[A0I]at ha hb;exact aY a b (by rw[ha];omega) (by rw[hb];omega)⟩
 obtain⟨Z,hZ,hZR,hK⟩:=LN u7 [u] hcm 0 ⟨[[.int .i64 u.kind,.str u.name,.int .i64 u.sort,sl u.cm 4 (A4 u.kids),.int .i64 1]],[⟨A4 [u],4,true⟩]⟩ rfl (by simp);have hZ1:Z=[u]:=by
  have:(R0 [u])=[u]:=rfl;rw[this]at hZR;rw[←hZR,List.take_of_length_le (by simp[hZ])]
 subst hZ1;simp only[show R0 [u]=[u] from rfl,show A4 [u]=[B7 u] from rfl,List.length_singleton,List.set_cons_zero]at hS hK
 suffices h:∃v,pc Q j8 [sl m 1 [sl m2 5 [MM u 1]]]=some v/\∃q:Bool×Bool,v=sl q 4 [B7 u] by
  obtain⟨v,h1,q,rfl⟩:=h;exact⟨q,h1⟩
 refine HL HR λΨ hΨ fr hl h0=>?_;simp[HR]at hl h0;simp[HR,hl,h0];refine K0 ?_;simp[Il,hl];refine K0 ?_;simp[KA,hl,A5,h01,hr,hm,hmu];refine K0 ?_;simp[hl,h01];refine K0 ?_;simp[hl,hS,hK];exact hΨ _ ⟨(false,true),rfl⟩
@[simp] theorem rQ (k:IntKind) (i:Int) (cs:G1):(AV.int k i).reform cs=cs.head?:=rfl
@[simp] theorem qG (b:Bool) (cs:G1):(AV.bool b).reform cs=cs.head?:=rfl
theorem fR (m:J3) (u:Tm) (hu:u.size<=1048576):pc Q I5 [sl m 4 [B7 u],B7 u,.fn C2 []]=some (.tup [.int .i64 0,.bool true]):=by
 obtain⟨i,hi,g1,-,hB⟩:=rv m [u] u (List.pairwise_singleton _ _) (by simp) (by simp;omega) (by omega);have hi0:i=0:=by
  rcases Nat.eq_zero_or_pos i with h|h
  .exact h
  .have:=g1 0 (by simp) h;simp[NA]at this
 subst hi0;have hh:O5 [u] u=true:=by simp[O5,KZ,NA]
 rw[hh]at hB;exact hB
theorem aj (m m2:J3) (u:Tm) (hu:u.size<=1048576):∃m',pc Q AZ [sl m 4 [B7 u],sl m2 5 [MM u 1]]=some (sl m' 1 [.int .i64 1]):=by
 have h01:IntKind.i64.wrap 1=1:=by decide
 have hr:H6=140737488355328:=rfl;have hm:maxLen=9223372036854775807:=rfl;have hB:=fR m u hu
 suffices h:∃v,pc Q AZ [sl m 4 [B7 u],sl m2 5 [MM u 1]]=some v/\∃q:Bool×Bool,v=sl q 1 [.int .i64 1] by
  obtain⟨v,h1,q,rfl⟩:=h;exact⟨q,h1⟩
 refine Qp GM λΨ hΨ fr hl h0 h1=>?_;simp[GM]at hl h0 h1;simp[GM,hl,h0,h1,hr,hm];refine K0 ?_;simp[Im,hl,h0,hB,h01];refine K0 ?_;simp[hl];exact hΨ _ ⟨(false,true),rfl⟩
theorem dv (m:J3) (u:Tm) (xs:List Fam) (B C:List (List AV)) (p:AV) :
  rc Q K7 [.ptr B.length 0,.int .i64 0] ⟨B++[sl m 4 [B7 u],.vs true 0 [],p,.bool false]::C,xs⟩=some (C3,⟨B++[sl m 4 [B7 u],.vs true 0 [],p,.bool false]::C,xs⟩):=by
 suffices hq:∃v h',rc Q K7 [.ptr B.length 0,.int .i64 0] ⟨B++[sl m 4 [B7 u],.vs true 0 [],p,.bool false]::C,xs⟩=some (v,h')/\(v=C3/\h'=⟨B++[sl m 4 [B7 u],.vs true 0 [],p,.bool false]::C,xs⟩) by
  obtain⟨v,h',h1,rfl,rfl⟩:=hq;exact h1
 have hb:(B++[sl m 4 [B7 u],.vs true 0 [],p,.bool false]::C)[B.length]?=some [sl m 4 [B7 u],.vs true 0 [],p,.bool false]:=by simp
 generalize B++[sl m 4 [B7 u],.vs true 0 [],p,.bool false]::C=X at *
 refine Gh w9 λfr hl h0 h1=>?_;simp[w9]at hl h0 h1;simp[w9];refine K0 ?_;simp[Cj,hl,h0,hb];refine K0 ?_;simp[Ci,hl]
theorem mO (m2:J3) (u:Tm) (hu:OkT u) (B:List (List AV)) (F:List Fam) :
  ∃(m m':Bool×Bool) (k:Nat) (h':AH),rc Q j9 [sl (true,false) 1 [],sl m2 5 [MM u 1]] ⟨B,F⟩=some (.tup [.ptr B.length 0,.ptr (B.length+1) 0,.int .i64 0],h') /\
   h'.boxes=B++[[sl m 4 [B7 u],.vs true 0 [],.sl k 1 0 1,.bool false],[sl m' 1 [.int .i64 1],sl (true,true) 1 [],.bool false]]/\h'.fams[k]?=some ⟨[.int .i64 (-1)],1,false⟩:=by
 have hs:=hu.size;have h01:IntKind.i64.wrap 1=1:=by decide
 have hr:H6=140737488355328:=rfl;have hm:maxLen=9223372036854775807:=rfl;have hV:=io m2 u hu;have hC:=dU;obtain⟨m,hCo⟩:=da (false,true) m2 u (by omega);obtain⟨m',hP⟩:=aj m m2 u (by omega);have hcol:=dv m u
 suffices hq:∃v h',rc Q j9 [sl (true,false) 1 [],sl m2 5 [MM u 1]] ⟨B,F⟩=some (v,h')/\∃k,v=.tup [.ptr B.length 0,.ptr (B.length+1) 0,.int .i64 0]/\h'.boxes=B++[[sl m 4 [B7 u],.vs true 0 [],.sl k 1 0 1,.bool false],[sl m' 1 [.int .i64 1],sl (true,true) 1 [],.bool false]]/\h'.fams[k]?=some ⟨[.int .i64 (-1)],1,false⟩ by
  obtain⟨v,h',h1,k,rfl,h2,h3⟩:=hq;exact⟨m,m',k,h',h1,h2,h3⟩
 refine Gh JG λfr hl h0 h1=>?_;simp[JG]at hl h0 h1;simp[JG,hl,h0];refine K0 ?_;simp[LU,hl];have hmu:Vp j9=false:=rfl;have ht:∀B':List (List AV),Ef ⟨B',F++[⟨[sl m2 5 [MM u 1]],1,false⟩]⟩ (.sl F.length 1 0 1)=true:=by intro B';simp[Ef,MO]
 simp[hl,h0,h1,hV,hC,hCo,A5,hr,hm,Hm,D2,E7,hmu,ht];refine K0 ?_;simp[LT,hl];refine K0 ?_;simp[LS,hl,A5,hr,hm,hmu,h01];refine K0 ?_;simp[hl];refine K0 ?_;simp[LR,hl,hcol,h01];refine K0 ?_;simp[hl,h0,h1,hP,dM,hr,hm,D2,E7];exact⟨F.length+1,⟨rfl,rfl⟩,by simp⟩
theorem jM (m m':J3) (u:Tm) (B:List (List AV)) (F:List Fam) (k:Nat) (a b:Nat) (co:AV)
  (ha:B[a]?=some [sl m 4 [B7 u],.vs true 0 [],.sl k 1 0 1,.bool false]) (hb:B[b]?=some [sl m' 1 [.int .i64 1],co,.bool false]) (hk:F[k]?=some ⟨[.int .i64 (-1)],1,false⟩) :
  rc Q K8 [.ptr a 0,.ptr b 0] ⟨B,F⟩=some (.int .i64 0,⟨B,F⟩):=by
 suffices hq:∃v h',rc Q K8 [.ptr a 0,.ptr b 0] ⟨B,F⟩=some (v,h')/\(v=.int .i64 0/\h'=⟨B,F⟩) by
  obtain⟨v,h',h1,rfl,rfl⟩:=hq;exact h1
 refine Gh x4 λfr hl h0 h1=>?_;simp[x4]at hl h0 h1;simp[x4,hl,h0,ha];refine K0 ?_;simp[Ck,hl,h0,h1,ha,hb,hk]
theorem iV (m2:J3) (u:Tm) (hu:OkT u):pc Q Hu [sl (true,false) 1 [],sl m2 5 [MM u 1]]=some (.tup [sl (true,false) 1 [],.int .i64 4]):=by
 obtain⟨m,m',k,⟨B',F'⟩,hS,hB,hk⟩:=mO m2 u hu [] [];simp only[List.nil_append,A0O]at hB hS hk;subst hB;have hR:=jM m m' u [[sl m 4 [B7 u],.vs true 0 [],.sl k 1 0 1,.bool false],[sl m' 1 [.int .i64 1],sl (true,true) 1 [],.bool false]] F' k 0 1 _ rfl rfl hk;have hV:rc Q Am [sl (true,false) 1 [],sl m2 5 [MM u 1]] ⟨[],[]⟩=some (.tup [.ptr 0 0,.ptr 1 0,.int .i64 0,.int .i64 0],⟨[[sl m 4 [B7 u],.vs true 0 [],.sl k 1 0 1,.bool false],[sl m' 1 [.int .i64 1],sl (true,true) 1 [],.bool false]],F'⟩):=by
  suffices hq:∃v h',rc Q Am [sl (true,false) 1 [],sl m2 5 [MM u 1]] ⟨[],[]⟩=some (v,h')/\(v=.tup [.ptr 0 0,.ptr 1 0,.int .i64 0,.int .i64 0]/\h'=⟨[[sl m 4 [B7 u],.vs true 0 [],.sl k 1 0 1,.bool false],[sl m' 1 [.int .i64 1],sl (true,true) 1 [],.bool false]],F'⟩) by
   obtain⟨v,h',h1,rfl,rfl⟩:=hq;exact h1
  refine Gh JF λfr hl h0 h1=>?_;simp[JF]at hl h0 h1;simp[JF,hl,h0,h1,hS,hR]
 refine O2 IP λfr hl h0 h1=>?_;simp[IP]at hl h0 h1;simp[IP,hl,h0,h1,hV]
theorem Uc (m:J3) (S:I6) (B8:S.length<=1048576) (hs:∀x∈S,OkT x) (fr:Fr) (h:AH) (h5:A0 fr 5=.vs true 0 []) (hl:fr.length=46) (h18:A0 fr 18=sl m 4 (A4 S)) (h19:A0 fr 19=.int .i64 S.length) (h20:A0 fr 20=.int .i64 0) :
  B9 (lp (A3 (L5 Q) (E5 T5) Q1) (fr,h)) λe C6 h'=>Kp Q1.wr fr C6/\(e=.exit 0/\A0 C6 5=.vs true 0 []):=by
 refine B5 rfl fr (λn fr h'=>∃(i:Nat),i+n=S.length/\A0 fr 20=.int .i64 (i:Nat)/\A0 fr 5=.vs true 0 []) ?_ S.length h ⟨0,by omega,h20,h5⟩;rintro J Φ hJ hΦ n E1 H1 K ⟨i,hi,k20,hr⟩;have A6:=K.1.trans hl;have k18:=A9 K 18 h18;have k19:=A9 K 19 h19;clear K;by_cases A7:i<S.length
 .have Q6:=D1 i (by omega);have hx:=N6 A7;have hP:=ai S[i] (hs _ (A0A A7)).nm;obtain⟨bx,F⟩:=H1;generalize S[i]=s at *
  simp[Q1,A6,k18,k19,k20,A7,Q6,hx,hP];exact G8 hJ ⟨i+1,by omega,by simp[A6],by simp[hr]⟩
 .simp[Q1,A6,k19,k20,A7];exact hΦ _ _ _ ⟨rfl,by simp[hr]⟩
theorem YS (mm m:J3) (S:I6) (hS:u6 S) (B8:S.length<=1048576) (hs:∀x∈S,OkT x) (u:Tm) (hu:OkT u) (hn:O5 S u=false) :
  pc Q T5 [sl m 4 (A4 S),sl mm 5 [MM u 1]]=some (.bool false):=by
 have hU:=dq mm m S hS B8 (λx hx=>by have:=(hs x hx).size;omega) u (by have:=hu.size;omega) hn;have hM:=iV (false,true) u hu;refine O2 BY λfr hl h0 h1=>?_;simp[BY]at hl h0 h1;simp[BY,hl,h0,h1,hU];refine B9.mono (Uc m S B8 hs _ _ ?_ ?_ ?_ ?_ ?_) ?_<;>first|(simp[hl];done)|skip
 rintro e E1 Ei ⟨K,rfl,k5⟩;have J5:E1.length=46:=K.1.trans (by simp[hl]);have Ey:A0 E1 1=sl (false,true) 5 [MM u 1]:=A9 K 1 (by simp[hl]);clear K;simp[J5,Ey,k5,hM]
theorem Vs (m:J3) (S:I6) (hS:u6 S) (B8:S.length<=1048576) (hs:∀x∈S,OkT x) (u:Tm) (hu:OkT u) (hn:O5 S u=false) :
  pc Q BA [sl m 4 (A4 S),B7 u]=some (.bool false):=by
 obtain⟨u',hO,he⟩:=vx u hu;have hn':O5 S u'=false:=by rw[Tg he];exact hn
 have hG:=YS (false,true) m S hS B8 hs u' (hu.er he) hn';refine O2 BI λfr hl h0 h1=>?_;simp[BI]at hl h0 h1;simp[BI,hl,h0,h1,hO,hG]
theorem Tm.kind_mk (k:Int) (nm:I3) (s:Int) (m:J3) (l:I6):(Tm.mk k nm s m l).kind=k:=rfl
theorem Tm.name_mk (k:Int) (nm:I3) (s:Int) (m:J3) (l:I6):(Tm.mk k nm s m l).name=nm:=rfl
theorem Tm.sort_mk (k:Int) (nm:I3) (s:Int) (m:J3) (l:I6):(Tm.mk k nm s m l).sort=s:=rfl
theorem aU (t:Tm) (hb:t.size<=1048576):∃t',pc Q LG [B7 t,sl (true,false) 1 [],B7 t]=some (.tup [B7 t',.int .i64 0])/\E8 t'=E8 t:=by
 obtain⟨t',hC,hE⟩:=Ut _ t (A0B _) (by omega);refine⟨t',?_,hE⟩;refine Gg Lh λfr hl h0 h1 h2=>?_;simp[Lh]at hl h0 h1 h2;simp[Lh,hl,h0,h1,h2,hC];refine K0 ?_;simp[NP,hl,hC]
theorem lM (m:J3) (l:I6) (k:Nat) (B8:l.length<=1048576) (Z:I6) (hZ:Z.length=l.length) (I9:∀t∈l,t.size<=1048576) (IH:∀t∈l,∃(K:I6) (m':J3),pc Q He [sl t.cm 4 (A4 t.kids)]=some (sl m' 4 (A4 K))/\H2 K=H2 t.kids) (fr:Fr) (h:AH) (hfam:h.fams[k]?=some ⟨A4 Z,4,true⟩) (hl:fr.length=42) (h3:A0 fr 3=.sl k l.length 0 l.length) (h9:A0 fr 9=sl m 4 (A4 l)) (h10:A0 fr 10=.int .i64 l.length) (h11:A0 fr 11=.int .i64 0) :
  B9 (lp (A3 (L5 Q) (E5 He) FZ) (fr,h)) λe C6 h'=>Kp FZ.wr fr C6/\e=.exit 0/\∃(B:List (List AV)) (done:List Tm),h'=⟨B,h.fams.set k ⟨A4 done,4,true⟩⟩/\H2 done=H2 l/\done.length=l.length:=by
 refine B5 rfl fr (λn fr h'=>∃(i:Nat),i+n=l.length/\A0 fr 11=.int .i64 (i:Nat)/\(∃(B:List (List AV)) (done:List Tm) (X:List AV),X=(done++Z.drop i).map B7/\h'=⟨B,h.fams.set k ⟨X,4,true⟩⟩/\H2 done=H2 (l.take i)/\done.length=i)) ?_ l.length h ⟨0,by omega,h11,⟨h.boxes,[],A4 Z,by simp[D6],by rw[DC hfam],by simp[H2],rfl⟩⟩;rintro J Φ hJ hΦ n E1 H1 K ⟨i,hi,k11,hr⟩;have A6:=K.1.trans hl;have k3:=A9 K 3 h3;have k9:=A9 K 9 h9;have k10:=A9 K 10 h10;clear K;by_cases A7:i<l.length
 .have Q6:=D1 i (by omega);obtain⟨B,done,X,hX,rfl,hd,DX⟩:=hr;have hltZ:i<Z.length:=by omega
  obtain⟨t1,hR,ht1⟩:=aU l[i] (I9 _ (A0A A7));obtain⟨K,mk,hO,hK⟩:=IH l[i] (A0A A7);have hx:=N6 A7;obtain⟨q1,q2',q3⟩:=Pt B7 done Z hltZ DX;have q4:=λt'=>Pu B7 done Z hltZ DX t';rw[←hX]at q1 q3 q4;rw[hZ]at q3;have q2:X[i]'q1=B7 Z[i]:=by subst hX;exact q2'
  clear q2';have e2:∀t',E8 t'=E8 l[i]->H2 (done++[t'])=H2 (l.take (i+1)):=λt' ht=>by
   rw[A0D A7,E3,A0F,←E3,hd,E3,E3,A0F,A0C,A0G,A0C,A0G,ht]
  have HH:=I2 hfam;clear hd;generalize l[i]=s at *
  obtain⟨d1,d2,d3,d4⟩:=MB ht1;have hag:AV.agg [.int .i64 t1.kind,.str t1.name,.int .i64 t1.sort,sl mk 4 (A4 K)]=B7 (.mk t1.kind t1.name t1.sort mk K):=rfl;have her:E8 (.mk t1.kind t1.name t1.sort mk K)=E8 s:=by
   obtain⟨k0,nm0,s0,m0,l0⟩:=s;simp only[Tm.kind,Tm.name,Tm.sort,Tm.kids]at d1 d2 d3 hK;simp only[E8,hK,Tm.mk.injEq];exact⟨d1,d2,d3,trivial,trivial⟩
  by_cases hk0:s.kids=[]
  .have hag2:AV.agg [.int .i64 t1.kind,.str t1.name,.int .i64 t1.sort,sl (true,false) 1 []]=B7 (.mk t1.kind t1.name t1.sort (true,false) []):=rfl;have her2:E8 (.mk t1.kind t1.name t1.sort (true,false) [])=E8 s:=by
    rw[←her];have:K=[]:=by
     rw[hk0]at hK;cases K with
     |nil=>rfl
     |cons a K=>simp[H2]at hK
    simp only[E8,this]
   have hkn:s.kids.length=0:=by rw[hk0];rfl
   have q5:=q4 (.mk t1.kind t1.name t1.sort (true,false) []);have e3:=e2 _ her2;generalize hY:(done++[Tm.mk t1.kind t1.name t1.sort (true,false) []]++Z.drop (i+1)).map B7=Y at *
   clear hX;simp[FZ,A6,k3,k9,k10,k11,A7,Q6,hR,hO,hx,q2,q3,HH,hag,hkn,hag2,q5,Tm.kind_mk,Tm.name_mk,Tm.sort_mk];exact G8 hJ ⟨i+1,by omega,by simp[A6],_,_,Y,hY.symm,rfl,e3,by simp[DX]⟩
  .have hkn:s.kids.length≠0:=by
    intro h;exact hk0 (List.eq_nil_of_length_eq_zero h)
   have q5:=q4 (.mk t1.kind t1.name t1.sort mk K);have e3:=e2 _ her;generalize hY:(done++[Tm.mk t1.kind t1.name t1.sort mk K]++Z.drop (i+1)).map B7=Y at *
   simp[FZ,A6,k3,k9,k10,k11,A7,Q6,hR,hO,hx,q2,q3,HH,hag,hkn,q5];exact G8 hJ ⟨i+1,by omega,by simp[A6],_,_,Y,hY.symm,rfl,e3,by simp[DX]⟩
 .obtain⟨B,done,X,hX,rfl,hd,DX⟩:=hr;have e:i=l.length:=by omega
  subst e;rw[A0L]at hd;rw[List.drop_of_length_le (by omega),A0N,←D6]at hX;simp[FZ,A6,k10,k11];exact hΦ _ _ _ ⟨rfl,B,done,by rw[hX],hd,DX⟩
theorem pW:∀(n:Nat) (l:I6),Tm.sizes l<=n->Tm.sizes l<=1048576->∀m:Bool×Bool,∃(l':I6) (m':J3),pc Q He [sl m 4 (A4 l)]=some (sl m' 4 (A4 l'))/\H2 l'=H2 l:=by
 intro n
 induction n with
 |zero =>
  intro l h _ m;have hl0:l=[]:=by
   cases l with
   |nil=>rfl
   |cons a l =>
    have:=a.size_pos;simp only[Tm.sizes]at h;omega
  subst hl0
  suffices h:∃v,pc Q He [sl m 4 (A4 [])]=some v/\∃q:Bool×Bool,v=sl q 4 (A4 []) by
   obtain⟨v,h1,q,rfl⟩:=h;exact⟨[],q,h1,rfl⟩
  have hr:H6=140737488355328:=rfl;have hm:maxLen=9223372036854775807:=rfl;have hn:A4 []=[]:=rfl;refine HL Ku λΨ hΨ fr hl h0=>?_;simp[Ku]at hl h0;simp[Ku,hl,h0,hr,hm,hn];refine K0 ?_;simp[FZ,hl];exact hΨ _ ⟨(false,true),rfl⟩
 |succ n ih =>
  intro l hn hb m;have hll:=Tm.length_le l;have hlv:(A4 l).length=l.length:=by rw[D6,A0E]
  have hr:(l.length:Int)*56<=H6/\(l.length:Int)<=maxLen:=by
   have e1:H6=140737488355328:=rfl;have e2:maxLen=9223372036854775807:=rfl;omega
  have hz:A0H l.length (AV.agg [.int .i64 0,.str (bs []),.int .i64 0,.vs true 0 []])=A4 (A0H l.length jd):=by
   rw[mw,D6,List.map_replicate]
  suffices h:∃v,pc Q He [sl m 4 (A4 l)]=some v/\∃q:List Tm×(Bool×Bool),v=sl q.2 4 (A4 q.1)/\H2 q.1=H2 l by
   obtain⟨v,h1,q,rfl,h2⟩:=h;exact⟨q.1,q.2,h1,h2⟩
  have KB:=lM m l 0 (by omega) (A0H l.length jd) (by simp) (λt ht=>by have:=Tm.size_le ht;omega) (λt ht=>by
   have h1:=Tm.size_le ht;have h2:=t.kids_size;obtain⟨K,m',a,b⟩:=ih t.kids (by omega) (by omega) t.cm;exact⟨K,m',a,b⟩)
  clear ih;refine HL Ku λΨ hΨ fr hl h0=>?_;simp[Ku]at hl h0;simp[Ku,hl,h0,hr,hz];refine B9.mono (KB _ _ ?_ ?_ ?_ ?_ ?_ ?_) ?_<;>first|(simp[hl];done)|skip
  rintro e E1 h1 ⟨K,rfl,B,done,rfl,hd,DX⟩;have J5:E1.length=42:=K.1.trans (by simp[hl]);have ON:A0 E1 3=.sl 0 l.length 0 l.length:=A9 K 3 (by simp[hl]);clear K;have hf:∀B',Dy ⟨B',[⟨A4 done,4,true⟩]⟩ true (.sl 0 l.length 0 l.length)=some (sl (false,true) 4 (A4 done)):=λB'=>JX (b:=true) rfl (by rw[D6,A0E,DX]);simp[J5,ON,hf];exact hΨ _ ⟨(done,(false,true)),rfl,hd⟩
theorem aJ (m:J3) (l:I6) (B8:l.length<=1048576) (hv:∀t∈l,OkT t) (fr:Fr) (h:AH) (hl:fr.length=26) (h14:A0 fr 14=sl m 4 (A4 l)) (h15:A0 fr 15=.int .i64 l.length) (h16:A0 fr 16=.int .i64 0) :
  B9 (lp (A3 (L5 Q) (E5 Jw) Gt) (fr,h)) λe C6 h'=>Kp Gt.wr fr C6/\e=.exit 0:=by
 refine B5 rfl fr (λn fr h'=>∃(i:Nat),i+n=l.length/\A0 fr 16=.int .i64 (i:Nat)/\True) ?_ l.length h ⟨0,by omega,h16,trivial⟩;rintro J Φ hJ hΦ n E1 H1 K ⟨i,hi,k16,hr⟩;have A6:=K.1.trans hl;have k14:=A9 K 14 h14;have k15:=A9 K 15 h15;clear K;by_cases A7:i<l.length
 .have Q6:=D1 i (by omega);have hx:=N6 A7;have ho:=hv l[i] (A0A A7);have hV:=Fs l[i] (by have:=ho.size;omega);rw[(Gk ho.valid).1]at hV;obtain⟨bx,F⟩:=H1;generalize l[i]=s at *
  simp[Gt,A6,k14,k15,k16,A7,Q6,hx,hV];exact G8 hJ ⟨i+1,by omega,by simp[A6],trivial⟩
 .simp[Gt,A6,k15,k16,A7];exact hΦ _ _ _ rfl
theorem Wv (u:Tm) (hu:OkT u):pc Q Jw [sl (true,false) 1 [],sl (true,true) 4 [B7 u]]=some (.int .i64 0):=by
 have hfl:(([((true,false),[]),((true,true),[u])]:List ML).flatMap λq=>q.2)=[u]:=by simp
 obtain⟨mc,hC⟩:=Wk (true,true) [((true,false),[]),((true,true),[u])] (by simp) (by unfold Lr;rw[hfl];simp);rw[hfl]at hC;simp only[A0C,A0G,dN,show A4 []=[] from rfl,show A4 [u]=[B7 u] from rfl,o7 (true,false) rfl 4 1]at hC;refine O2 Pf λfr hl h0 h1=>?_;simp[Pf]at hl h0 h1;simp[Pf,hl,h0,h1,hC,A5];refine B9.mono (aJ mc [u] (by simp) (λt ht=>by rw[A0I.1 ht];exact hu) _ _ ?_ ?_ ?_ ?_) ?_<;>first|(simp[hl,show A4 [u]=[B7 u] from rfl];done)|skip
 rintro e E1 Ei ⟨K,rfl⟩;have A6:E1.length=26:=K.1.trans (by simp[hl]);simp[A6]
theorem PL (u:Tm) (hf:u.kind=3->u.name∈Ax):pc Q DA [B7 u]=some (sl (true,true) 4 [B7 u]):=by
 by_cases hk:u.kind=3
 .obtain⟨-,-,-,-,-,-,n7,-,-,-,-,n12,-⟩:=RP (hf hk);have hag:AV.agg [.int .i64 3,.str u.name,.int .i64 u.sort,sl u.cm 4 (A4 u.kids)]=B7 u:=by rw[←hk];exact Yk u
  refine M2 DW λfr hl h0=>?_;simp[DW]at hl h0;simp[DW,hl,h0,hk,hag,n7,n12,A5]
 .refine M2 DW λfr hl h0=>?_;simp[DW]at hl h0;simp[DW,hl,h0,hk,A5]
theorem le (u:Tm) (hu:OkT u):∃(u':Tm) (m':J3),pc Q MH [B7 u]=some (.tup [sl m' 4 [B7 u'],.int .i64 0])/\E8 u'=E8 u:=by
 have hR:=Wv u hu;have hS:=PL u hu.nm;obtain⟨l',m',hO,he⟩:=pW _ [u] (A0B _) (by have:=hu.size;simp only[Tm.sizes];omega) (true,true);obtain⟨u',rfl⟩:∃u',l'=[u']:=by
  have hl:l'.length=1:=by
   have:=congrArg List.length he;simpa[E3]using this
  match l',hl with
  | [a],_=>exact⟨a,rfl⟩
 have he':E8 u'=E8 u:=by simpa[H2]using he
 rw[show A4 [u]=[B7 u] from rfl,show A4 [u']=[B7 u'] from rfl]at hO;refine⟨u',m',?_,he'⟩;refine M2 Pe λfr hl h0=>?_;simp[Pe]at hl h0;simp[Pe,hl,h0,hR,hS,hO,A5]
end Go.Abs.Q
