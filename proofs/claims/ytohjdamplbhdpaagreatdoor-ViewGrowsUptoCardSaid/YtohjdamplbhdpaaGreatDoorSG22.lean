/- A part of the proof. -/
import Derived.Test.YtohjdamplbhdpaaGreatDoorSG21
set_option linter.all false
open List renaming getElem_mem->xk,drop_eq_getElem_cons->xl,map_append->xm,drop_eq_nil_of_le->xn,getElem_of_mem->xo,map_cons->xr,length_drop->xt,length_take->xu,mem_append->xw,mem_of_mem_drop->xy,mem_cons->xz,length_append->yA,any_eq_true->yC,length_cons->yD,length_map->yE,map_nil->yF
open Nat renaming le_refl->xp,lt_or_eq_of_le->xq
open Bool renaming and_eq_true->yB
namespace Go.Abs.Q
open Go.Proofs
attribute [local simp] D0 D1 fin I1 E7 K8 I3
theorem Wg (a:Nat):D6 .shr (.int .u64 (a:Int)) (.int .u64 1)=some (.int .u64 ((a / 2:Nat):Int)):=by
 have e:Int.fdiv (a:Int) (2 ^ (min (1:Int).toNat IntKind.u64.bits))=((a / 2:Nat):Int):=by
  rw[show min (1:Int).toNat IntKind.u64.bits=1 from rfl];rw[Int.fdiv_eq_ediv_of_nonneg _ (by decide)];omega
 simp only[D6];rw[if_pos (by decide),e]
theorem jN {n:Int} (h0:0<=n) (h1:n<=9223372036854775807):IntKind.u64.wrap n=n:=by
 simp only[IntKind.wrap,IntKind.bits,IntKind.signed];simp;omega
def d9 (R:List Tm):Prop:=R.Pairwise λa b=>H0 a b<0
theorem d9.get {R:I2} (h:d9 R) {i j:Nat} (hi:i<R.length) (hj:j<R.length) (hij:i<j):H0 R[i] R[j]<0:=(List.pairwise_iff_getElem.1 h) i j hi hj hij
theorem gG {R:I2} (h:d9 R) (t:Tm) (i:Nat) (h1:∀j (hj:j<R.length),j<i->H0 R[j] t<0) (h2:∀j (hj:j<R.length),i<=j->0<=H0 R[j] t) :
  P2 R t=true↔∃hi:i<R.length,H0 R[i] t=0:=by
 simp only[P2,yC,GW,decide_eq_true_eq];constructor
 .rintro⟨x,hx,hc⟩;obtain⟨j,hj,rfl⟩:=xo hx;have hij:i<=j:=by
   rcases Nat.lt_or_ge j i with q|q
   .have:=h1 j hj q;omega
   .exact q
  refine⟨by omega,?_⟩;rcases xq hij with q|q
  .have a:=h.get (by omega) hj q;have b:=h2 i (by omega) (xp _);have:=gt a (by omega:H0 R[j] t<=0);omega
  .subst q;exact hc
 .rintro⟨hi,hc⟩;exact⟨_,xk hi,hc⟩
theorem lr (m:I8) (R:I2) (t:Tm) (hR:d9 R) (C2:R.length<=1099511627776) (hs:∀x∈R,x.size<=1099511627776) (ht:t.size<=1099511627776) :
  ∃i:Nat,i<=R.length/\(∀j (hj:j<R.length),j<i->H0 R[j] t<0)/\(∀j (hj:j<R.length),i<=j->0<=H0 R[j] t) /\
   pc Q G3 [sl m 4 (A3 R),B8 t,.fn A8 []]=some (.tup [.int .i64 (i:Nat),.bool (P2 R t)]):=by
 suffices h:∃v,pc Q G3 [sl m 4 (A3 R),B8 t,.fn A8 []]=some v/\∃i:Nat,v=.tup [.int .i64 (i:Nat),.bool (P2 R t)]/\i<=R.length/\(∀j (hj:j<R.length),j<i->H0 R[j] t<0)/\(∀j (hj:j<R.length),i<=j->0<=H0 R[j] t) by
  obtain⟨v,h1,i,rfl,h2,h3,h4⟩:=h;exact⟨i,h2,h3,h4,h1⟩
 refine YF O9 λΨ hΨ fr hl h0 h1 h2=>?_;simp[O9]at hl h0 h1 h2;simp[O9,hl,h0,h1];refine(C3 (Ψ:=λe D4 h'=>e=.exit 0/\h'=⟨[(B8 t).cells],[]⟩/\∃i:Nat,A0 D4 9=.int .i64 (i:Nat)/\i<=R.length/\(∀j (hj:j<R.length),j<i->H0 R[j] t<0)/\(∀j (hj:j<R.length),i<=j->0<=H0 R[j] t)) rfl _
  (λn D4 h'=>h'=⟨[(B8 t).cells],[]⟩/\∃lo hi:Nat,hi=lo+n/\hi<=R.length/\A0 D4 9=.int .i64 (lo:Nat)/\A0 D4 10=.int .i64 (hi:Nat)/\(∀j (hj:j<R.length),j<lo->H0 R[j] t<0)/\(∀j (hj:j<R.length),hi<=j->0<=H0 R[j] t)) ?_ R.length _
  ⟨by simp,0,R.length,by omega,xp _,by simp[hl],by simp[hl],λj _ h=>absurd h (Nat.not_lt_zero _),λj hj h=>by omega⟩).mono ?_
 .rintro J Φ hJ hΦ n G9 H1 K ⟨rfl,lo,hi,hn,UO,k9,k10,g1,g2⟩;have B4:G9.length=49:=K.1.trans (by simp[hl]);have k0:=A5 K 0 (by simp[h0]:_=sl m 4 (A3 R));have k2:=A5 K 2 (by simp[h2]:_=AV.fn A8 []);have k4:=A5 K 4 (by simp[hl]:_=AV.ptr 0 0);clear K;by_cases A6:0<n
  .have hlti:(lo:Int)<(hi:Int):=by omega
   have hw1:IntKind.i64.wrap ((lo:Int)+(hi:Int))=(lo:Int)+(hi:Int):=M3 (by omega) (by omega);have hw2:IntKind.u64.wrap ((lo:Int)+(hi:Int))=(lo:Int)+(hi:Int):=jN (by omega) (by omega);obtain⟨mid,hmd⟩:∃mid,mid=(lo+hi) / 2:=⟨_,rfl⟩;have hb:=Wg (lo+hi);rw[←hmd,Int.natCast_add]at hb;have hm1:lo<=mid:=by omega
   have hm2:mid<hi:=by omega
   have hw3:IntKind.i64.wrap (mid:Int)=(mid:Int):=M3 (by omega) (by omega);have hw4:=E5 mid (by omega);have hmid:mid<R.length:=by omega
   have hx:=S4 hmid;have hC:=Z4 _ R[mid] t (xp _) (hs _ (xk hmid)) ht;by_cases hc:H0 R[mid] t<0
   .have g1':∀j (hj:j<R.length),j<mid+1->H0 R[j] t<0:=λj hj hjm=>by
     rcases xq (Nat.le_of_lt_succ hjm)with q|q
     .exact Ep (hR.get hj hmid q) hc
     .subst q;exact hc
    generalize R[mid]=x at *
    simp[J3,B4,k0,k2,k4,k9,k10,hlti,hw1,hw2,hw3,hw4,hb,hx,hC,hc];exact⟨hi-(mid+1),by omega,hJ _ _ _ ⟨by simp,mid+1,hi,by omega,UO,by simp[B4],by simp[k10],g1',g2⟩⟩
   .have g2':∀j (hj:j<R.length),mid<=j->0<=H0 R[j] t:=λj hj hjm=>by
     rcases xq hjm with q|q
     .rcases Int.lt_or_le (H0 R[j] t) 0 with p|p
      .exact absurd (Ep (hR.get hmid hj q) p) hc
      .exact p
     .subst q;omega
    generalize R[mid]=x at *
    simp[J3,B4,k0,k2,k4,k9,k10,hlti,hw1,hw2,hw3,hb,hx,hC,hc];exact⟨mid-lo,by omega,hJ _ _ _ ⟨by simp,lo,mid,by omega,by omega,by simp[k9],by simp[B4],g1,g2'⟩⟩
  .have hn0:n=0:=by omega
   have hlh:hi=lo:=by omega
   subst hlh;simp[J3,B4,k9,k10];exact hΦ _ _ _ ⟨rfl,by simp,hi,by simp[k9],UO,g1,g2⟩
 .rintro e G9 Jb ⟨K,rfl,rfl,i,k9,hi,g1,g2⟩;have B4:G9.length=49:=K.1.trans (by simp[hl]);have k0:=A5 K 0 (by simp[h0]:_=sl m 4 (A3 R));have k2:=A5 K 2 (by simp[h2]:_=AV.fn A8 []);have k4:=A5 K 4 (by simp[hl]:_=AV.ptr 0 0);have k8:=A5 K 8 (by simp[hl]:_=AV.int .i64 R.length);clear K;have hh:=gG hR t i g1 g2;by_cases A6:i<R.length
  .have hx:=S4 A6;have hC:=Z4 _ R[i] t (xp _) (hs _ (xk A6)) ht;have e:decide (H0 R[i] t=0)=P2 R t:=by
    rw[Bool.eq_iff_iff,decide_eq_true_iff,hh];exact⟨λh=>⟨A6,h⟩,λ⟨_,h⟩=>h⟩
   simp[B4,k0,k2,k4,k8,k9,A6,hx,hC];exact hΨ _ ⟨i,by rw[e],hi,g1,g2⟩
  .have e:P2 R t=false:=by
    rw[Bool.eq_false_iff];intro h;obtain⟨h,-⟩:=hh.1 h;omega
   simp[B4,k8,k9,A6];exact hΨ _ ⟨i,by rw[e],hi,g1,g2⟩
@[simp] theorem xR (k:IntKind) (i:Int) (b:Bool):(AV.tup [.int k i,.bool b]).scalar=true:=rfl
theorem Ge (m:I8) (R:I2) (t:Tm) (hR:d9 R) (C2:R.length<=1099511627776) (hs:∀x∈R,x.size<=1099511627776) (ht:t.size<=1099511627776) :
  pc Q M0 [sl m 4 (A3 R),B8 t]=some (.bool (P2 R t)):=by
 obtain⟨i,-,-,-,hB⟩:=lr m R t hR C2 hs ht;refine Q6 EN λfr hl h0 h1=>?_;simp[EN]at hl h0 h1;simp[EN,hl,h0,h1,hB]
def Rq (R:List Tm) (i:Nat) (t:Tm):List Tm:=R.take i++t::R.drop i
theorem YN (m:I8) (xs:E6) (Yv:xs.length<=1048576) (h:AH):∃w h',rc Q I4 [sl m 4 xs] h=some (w,h')/\cH h.fams.length 4 xs w h'/\h'.boxes=h.boxes/\∃e,h'.fams=h.fams++e:=by
 have hr:xs.length*56<=G4/\xs.length<=maxLen:=by simp only[G4,maxLen];omega
 suffices hq:∃w h',rc Q I4 [sl m 4 xs] h=some (w,h')/\∀Ψ:AV->AH->Prop,(∀w h',cH h.fams.length 4 xs w h'/\h'.boxes=h.boxes/\(∃e,h'.fams=h.fams++e)->Ψ w h')->Ψ w h' by
  obtain⟨w,h',h1,h2⟩:=hq;exact⟨w,h',h1,h2 _ λ_ _ h=>h⟩
 refine YL V1 λfr hl h0=>?_;simp[V1]at hl h0;by_cases he:xs=[]
 .subst he;obtain⟨m1,m2⟩:=m;cases m2 with
  |false =>
   simp[V1,hl,h0,OG];exact λΨ hΨ=>hΨ _ _ (.inl ⟨rfl,false,Fw 4⟩) rfl [] (by simp)
  |true =>
   simp[V1,hl,h0,OG,FX,A4];exact λΨ hΨ=>hΨ _ _ (.inl ⟨rfl,true,rfl⟩) rfl [] (by simp)
 .have he':xs.isEmpty=false:=by simpa using he
  simp[V1,hl,h0,OG,he',FX,A4,he,hr,show TU I4=true from rfl];exact λΨ hΨ=>hΨ _ _ (.inr ⟨he,rfl,by simp⟩) rfl _ rfl
theorem XK (R:I2) (i:Nat) (t:Tm):A3 (Rq R i t)=(A3 R).take i++B8 t::(A3 R).drop i:=by
 rw[Rq,D7,D7,xm,xr,List.map_take,List.map_drop]
theorem gL {R:I2} (hR:d9 R) (t:Tm) {i:Nat} (hi:i<=R.length) (h1:∀j (hj:j<R.length),j<i->H0 R[j] t<0) (h2:∀j (hj:j<R.length),i<=j->0<=H0 R[j] t) (hn:P2 R t=false) :
  d9 (Rq R i t)/\∀e,e∈(Rq R i t).map D5↔e=D5 t\/e∈R.map D5:=by
 have gI:∀x∈R,H0 x t≠0:=by
  intro x hx hc;have:P2 R t=true:=by
   simp only[P2,yC,GW,decide_eq_true_eq];exact⟨x,hx,hc⟩
  rw[this]at hn;cases hn
 have ha:∀x∈R.take i,H0 x t<0:=by
  intro x hx;obtain⟨j,hj,rfl⟩:=xo hx;rw[xu]at hj;rw[List.getElem_take];exact h1 j (by omega) (by omega)
 have hb:∀x∈R.drop i,H0 t x<0:=by
  intro x hx;have hm:=xy hx;obtain⟨j,hj,rfl⟩:=xo hx;rw[xt]at hj;rw[List.getElem_drop]at hm ⊢;have a:=h2 (i+j) (by omega) (by omega);have b:=gI _ hm;exact KG.1.2 (by omega)
 refine⟨?_,λe=>?_⟩
 .unfold d9 Rq;rw[List.pairwise_append];refine⟨hR.sublist (List.take_sublist i R),List.pairwise_cons.2 ⟨hb,hR.sublist (List.drop_sublist i R)⟩,λx hx y hy=>?_⟩;rcases xz.1 hy with rfl|hy
  .exact ha x hx
  .exact Ep (ha x hx) (hb y hy)
 .have:e∈R.map D5↔e∈(R.take i).map D5\/e∈(R.drop i).map D5:=by
   rw[←xw,←xm,List.take_append_drop]
  rw[this,Rq,xm,xr,xw,xz];constructor
  .rintro(h|h|h)
   .exact .inr (.inl h)
   .exact .inl h
   .exact .inr (.inr h)
  .rintro(h|h|h)
   .exact .inr (.inl h)
   .exact .inl h
   .exact .inr (.inr h)
theorem XJ (K b:Nat) (O:Orc) (args:E6) (h:AH):(dD K b).run O args h=Ku K b args h:=rfl
theorem nl {k:Nat} {xs:E6} {w x:AV} {h:AH} (hg:cH k 4 xs w h) (hx:x.isAgg=true) (i:Nat) (hi:i<=xs.length) (hl:xs.length<=1048576) :
  ∃h' k',rc Q L0 [w,.int .i64 (i:Nat),sl (true,true) 4 [x]] h=some (.sl k' (xs.length+1) 0 (xs.length+1),h')/\h'.boxes=h.boxes/\∃b,h'.fams[k']?=some ⟨xs.take i++x::xs.drop i,4,b⟩:=by
 have e1:sl (true,true) 4 [x]=.vs true 4 [x]:=by simp[sl]
 rcases hg with ⟨rfl,b,rfl⟩|⟨M5,rfl,hk⟩
 .have hi0:i=0:=by simpa using hi
  subst hi0;refine⟨⟨h.boxes,h.fams++[⟨[x],4,true⟩]⟩,h.fams.length,JV (s:=dD 4 56) rfl rfl ?_,rfl,true,by simp⟩;rw[e1];rw[XJ];simp only[sl,Ku];rw[if_pos ⟨trivial,hx⟩,if_pos (by decide)];rfl
 .have CI:=J0 hk;refine⟨⟨h.boxes,h.fams.set k ⟨xs.take i++x::xs.drop i,4,true⟩⟩,k,JV (s:=dD 4 56) rfl rfl ?_,rfl,true,by simp[CI]⟩;rw[e1];rw[XJ];simp only[Ku,hk];rw[if_pos ⟨trivial,hx⟩,if_pos ⟨trivial,trivial,trivial,List.length_pos_iff.2 M5,trivial,trivial,by omega,by omega,by simp only[G4];omega,by simp only[maxLen];omega⟩];simp
theorem ky (m:I8) (R:I2) (t:Tm) (hR:d9 R) (C2:R.length<=1048576) (hs:∀x∈R,x.size<=1099511627776) (ht:t.size<=1099511627776) (hn:P2 R t=false) :
  ∃(R':List Tm) (m':Bool×Bool),pc Q i5 [sl m 4 (A3 R),B8 t]=some (sl m' 4 (A3 R'))/\d9 R'/\(∀e,e∈R'.map D5↔e=D5 t\/e∈R.map D5)/\(∀x∈R',x=t\/x∈R)/\R'.length=R.length+1:=by
 obtain⟨i,hi,g1,g2,hB⟩:=lr m R t hR (by omega) hs ht;obtain⟨s1,s2⟩:=gL hR t hi g1 g2 hn;rw[hn]at hB;have hlR:(A3 R).length=R.length:=by rw[D7,yE]
 suffices h:∃v,pc Q i5 [sl m 4 (A3 R),B8 t]=some v/\∃q:Bool×Bool,v=sl q 4 (A3 (Rq R i t)) by
  obtain⟨v,h1,q,rfl⟩:=h;refine⟨Rq R i t,q,h1,s1,s2,λx hx=>?_,?_⟩
  .rw[Rq]at hx;rcases xw.1 hx with h|h
   .exact .inr (List.mem_of_mem_take h)
   .rcases xz.1 h with rfl|h
    .exact .inl rfl
    .exact .inr (xy h)
  .rw[Rq,yA,yD,xu,xt];omega
 obtain⟨w,⟨B,F⟩,hC,hg,hb,hf⟩:=YN m (A3 R) (by omega) ⟨[(B8 t).cells],[]⟩;simp only at hb;subst hb;obtain⟨⟨B',F'⟩,k',hI,hb',b,CH⟩:=nl (x:=B8 t) hg (by cases t;rfl) i (by omega) (by omega);simp only at hb';subst hb';rw[hlR]at hI;rw[←XK]at CH;have hz:y8 ⟨[(B8 t).cells],F'⟩ true (.sl k' (R.length+1) 0 (R.length+1))=some (sl (false,true) 4 (A3 (Rq R i t))):=Ho CH (by
  rw[XK,yA,yD,xu,xt,hlR];omega)
 obtain⟨c1,c2,c3⟩:=Pb hg;simp only[H3]at hC hI hz;refine Ta Df λΨ hΨ fr hl h0 h1=>?_;simp[Df]at hl h0 h1;simp[Df,hl,h0,h1,hB,hC,hI,hz,A4];exact hΨ _ ⟨_,rfl⟩
end Go.Abs.Q
namespace Go.Abs.Q
open Go.Proofs
attribute [local simp] D0 D1 fin I1 E7 K8 I3 N6 P4
def ta:List (ByteArray×Int×Int×Int):=[(bs [112,97,105,114],2,2,1),(bs [101,110,99],2,2,1),(bs [97,101,110,99],2,2,1),(bs [112,107],1,1,1),(bs [115,105,103,110],2,2,1),(bs [104,97,115,104],1,1,1),(bs [120,111,114],2,8,1),(bs [122,101,114,111],0,0,1),(bs [101,120,112],2,2,1),(bs [109,117,108],2,8,1),(bs [105,110,118],1,1,1),(bs [111,110,101],0,0,1),(bs [115,107],1,1,2),(bs [115,104,107],2,2,2),(bs [110,101,119],1,8,2),(bs [102,115,116],1,1,3),(bs [115,110,100],1,1,3),(bs [100,101,99],2,2,3),(bs [97,100,101,99],2,2,3),(bs [111,112,101,110],2,2,3),(bs [114,101,97,100],1,1,3)]
def HS (x:ByteArray×Int×Int×Int):AV:=.agg [.str x.1,.int .i64 x.2.1,.int .i64 x.2.2.1,.int .i64 x.2.2.2]
def zS:ByteArray×Int×Int×Int:=(bs [],0,0,0)
def Lp (nm:ByteArray):ByteArray×Int×Int×Int:=(ta.find? λx=>decide (x.1=nm)).getD zS
theorem Ba (kd least most:Int) (nm:H7) (G1:E6) (v:AV) (F:List Fam) (hg:NB 4 G1 v ⟨[[v]],F⟩) (hb:G1.length<=100) :
  ∃(v':AV) (F':List Fam),rc Q P7 [.int .i64 kd,.str nm,.int .i64 least,.int .i64 most,.ptr 0 0] ⟨[[v]],F⟩=some (A9,⟨[[v']],F'⟩)/\NB 4 (G1++[HS (nm,least,most,kd)]) v' ⟨[[v']],F'⟩:=by
 obtain⟨v',⟨B',F'⟩,ha,g',hb'⟩:=Qv (c:=G7 P7) (bytes:=40) (x:=HS (nm,least,most,kd)) hg rfl (true,true) (by omega) (by omega);simp only at hb';subst hb'
 suffices hq:∃x h',rc Q P7 [.int .i64 kd,.str nm,.int .i64 least,.int .i64 most,.ptr 0 0] ⟨[[v]],F⟩=some (x,h')/\(x=A9/\h'=⟨[[v']],F'⟩) by
  obtain⟨x,h',h1,rfl,rfl⟩:=hq;exact⟨v',F',h1,FU g' rfl⟩
 obtain⟨c1,c2,c3⟩:=Dm hg;obtain⟨c4,c5,c6⟩:=Dm g';simp only[HS]at ha;refine tJ Mh (by simp[Ca]) λfr hl ha=>?_;have h0:=ha 0;have h1:=ha 1;have h2:=ha 2;have h3:=ha 3;have h4:=ha 4;clear ha;simp[Ca]at hl h0 h1 h2 h3 h4;simp[Ca,hl,h0,h1,h2,h3,h4,c3,c4,c5,ha,A4,D2,E8]
theorem Zk:∃m,pc Q U6 []=some (sl m 4 (ta.map HS)):=by
 suffices h:∃v,pc Q U6 []=some v/\∃q:Bool×Bool,v=sl q 4 (ta.map HS) by
  obtain⟨v,h1,q,rfl⟩:=h;exact⟨q,h1⟩
 have g0:NB 4 [] (.vs true 0 []) ⟨[[.vs true 0 []]],[]⟩:=OU _ _;obtain⟨v1,F1,c1,g1⟩:=Ba 1 2 2 (bs [112,97,105,114]) _ _ _ g0 (by simp);obtain⟨v2,F2,c2,g2⟩:=Ba 1 2 2 (bs [101,110,99]) _ _ _ g1 (by simp);obtain⟨v3,F3,c3,g3⟩:=Ba 1 2 2 (bs [97,101,110,99]) _ _ _ g2 (by simp);obtain⟨v4,F4,c4,g4⟩:=Ba 1 1 1 (bs [112,107]) _ _ _ g3 (by simp);obtain⟨v5,F5,c5,g5⟩:=Ba 1 2 2 (bs [115,105,103,110]) _ _ _ g4 (by simp);obtain⟨v6,F6,c6,g6⟩:=Ba 1 1 1 (bs [104,97,115,104]) _ _ _ g5 (by simp);obtain⟨v7,F7,c7,g7⟩:=Ba 1 2 8 (bs [120,111,114]) _ _ _ g6 (by simp);obtain⟨v8,F8,c8,g8⟩:=Ba 1 0 0 (bs [122,101,114,111]) _ _ _ g7 (by simp);obtain⟨v9,F9,c9,g9⟩:=Ba 1 2 2 (bs [101,120,112]) _ _ _ g8 (by simp);obtain⟨v10,F10,c10,g10⟩:=Ba 1 2 8 (bs [109,117,108]) _ _ _ g9 (by simp);obtain⟨v11,F11,c11,g11⟩:=Ba 1 1 1 (bs [105,110,118]) _ _ _ g10 (by simp);obtain⟨v12,F12,c12,g12⟩:=Ba 1 0 0 (bs [111,110,101]) _ _ _ g11 (by simp);obtain⟨v13,F13,c13,g13⟩:=Ba 2 1 1 (bs [115,107]) _ _ _ g12 (by simp);obtain⟨v14,F14,c14,g14⟩:=Ba 2 2 2 (bs [115,104,107]) _ _ _ g13 (by simp);obtain⟨v15,F15,c15,g15⟩:=Ba 2 1 8 (bs [110,101,119]) _ _ _ g14 (by simp);obtain⟨v16,F16,c16,g16⟩:=Ba 3 1 1 (bs [102,115,116]) _ _ _ g15 (by simp);obtain⟨v17,F17,c17,g17⟩:=Ba 3 1 1 (bs [115,110,100]) _ _ _ g16 (by simp);obtain⟨v18,F18,c18,g18⟩:=Ba 3 2 2 (bs [100,101,99]) _ _ _ g17 (by simp);obtain⟨v19,F19,c19,g19⟩:=Ba 3 2 2 (bs [97,100,101,99]) _ _ _ g18 (by simp);obtain⟨v20,F20,c20,g20⟩:=Ba 3 2 2 (bs [111,112,101,110]) _ _ _ g19 (by simp);obtain⟨v21,F21,c21,g21⟩:=Ba 3 1 1 (bs [114,101,97,100]) _ _ _ g20 (by simp);have hg:NB 4 (ta.map HS) v21 ⟨[[v21]],F21⟩:=g21;clear g0 g1 g2 g3 g4 g5 g6 g7 g8 g9 g10 g11 g12 g13 g14 g15 g16 g17 g18 g19 g20 g21;obtain⟨m,hz⟩:=ZB hg;obtain⟨d1,d2,d3⟩:=Dm hg;refine LH (C:=Q) ((Pa _).trans rfl) ((Lw _).trans OJ) (by simp[EC]) λΨ hΨ fr hl ha=>?_;rw[Ti];clear ha;simp[EC]at hl ;simp[EC,hl,hz,d3,c1,c2,c3,c4,c5,c6,c7,c8,c9,c10,c11,c12,c13,c14,c15,c16,c17,c18,c19,c20,c21];exact hΨ _ ⟨m,rfl⟩
abbrev Sy:=ByteArray×Int×Int×Int
@[simp] theorem od (x:Sy):(HS x).cells=[.str x.1,.int .i64 x.2.1,.int .i64 x.2.2.1,.int .i64 x.2.2.2]:=rfl
@[simp] theorem oe (x:Sy):(HS x).isTup=false:=rfl
theorem Xb (m:I8) (l:List Sy) (nm:H7) (C2:l.length<=1048576) (fr:Fr) (h:AH) (hh:h.boxes=[(HS zS).cells]) (hl:fr.length=18) (h0:A0 fr 0=.str nm) (h2:A0 fr 2=.ptr 0 0) (h5:A0 fr 5=sl m 4 (l.map HS)) (h6:A0 fr 6=.int .i64 l.length) (h7:A0 fr 7=.int .i64 0) :
  C8 (lp (A1 (Q8 Q) (G7 Cj) o9) (fr,h)) λe D4 h'=>Kp o9.wr fr D4/\(e=.exit 0/\(∃B,h'.boxes=(HS zS).cells::B)/\l.find? (λx=>decide (x.1=nm))=none\/e=.ret/\∃x B,h'.boxes=(HS x).cells::B/\l.find? (λx=>decide (x.1=nm))=some x):=by
 refine C3 rfl fr (λn fr h'=>∃(i:Nat),i+n=l.length/\A0 fr 7=.int .i64 (i:Nat)/\((∃B,h'.boxes=(HS zS).cells::B)/\(l.drop i).find? (λx=>decide (x.1=nm))=l.find? λx=>decide (x.1=nm))) ?_ l.length h ⟨0,by omega,h7,⟨[],hh⟩,rfl⟩;rintro J Φ hJ hΦ n G9 H1 K ⟨i,hi,k7,hr⟩;have B4:=K.1.trans hl;have k0:=A5 K 0 h0;have k2:=A5 K 2 h2;have k5:=A5 K 5 h5;have k6:=A5 K 6 h6;clear K;by_cases A6:i<l.length
 .have V7:=E5 i (by omega);obtain⟨⟨B,hB⟩,hr⟩:=hr;obtain⟨bx,F⟩:=H1;simp only at hB;subst hB;have hx:=H8 (f:=HS) (List.getElem?_eq_getElem A6);rw[xl A6,List.find?_cons]at hr;clear hh;generalize l[i]=s at *
  obtain⟨s1,s2,s3,s4⟩:=s;by_cases hc:s1=nm
  .subst hc;simp only[decide_true]at hr;simp only[HS]at hx;simp[o9,B4,k0,k2,k5,k6,k7,A6,hx,HS,zS];exact hΦ _ _ _ (.inr ⟨rfl,(s1,s2,s3,s4),_,rfl,hr.symm⟩)
  .simp only[hc,decide_false]at hr;simp only[HS]at hx;simp[o9,B4,k0,k5,k6,k7,A6,V7,hx,HS,zS,hc];exact O4 hJ ⟨i+1,by omega,by simp[B4],⟨_,rfl⟩,hr⟩
 .obtain⟨⟨B,hB⟩,hr⟩:=hr;rw[xn (by omega)]at hr;simp[o9,B4,k6,k7,A6];exact hΦ _ _ _ (.inl ⟨rfl,⟨B,hB⟩,hr.symm⟩)
theorem Ue (nm:H7):pc Q Cj [.str nm]=some (HS (Lp nm)):=by
 obtain⟨m,hS⟩:=Zk;refine N4 Hd λfr hl h0=>?_;simp[Hd]at hl h0;simp[Hd,hl,hS];refine C8.mono (Xb m ta nm (by decide) _ _ ?_ ?_ ?_ ?_ ?_ ?_ ?_) ?_<;>first|(simp[hl,h0,HS,zS];done)|skip
 rintro e G9 ⟨bx,F⟩ ⟨K,⟨rfl,⟨B,hB⟩,hf⟩|⟨rfl,x,B,hB,hf⟩⟩
 .simp only at hB;subst hB;have M7:G9.length=18:=K.1.trans (by simp[hl]);have FM:A0 G9 2=.ptr 0 0:=A5 K 2 (by simp[hl]);clear K;simp[M7,FM,HS,zS,D2,E8];simp[Lp,hf,zS]
 .simp only at hB;subst hB;have M7:G9.length=18:=K.1.trans (by simp[hl]);have FM:A0 G9 2=.ptr 0 0:=A5 K 2 (by simp[hl]);clear K;simp[FM,HS];simp[Lp,hf]
def JN (nm:ByteArray):Int:=(Lp nm).2.2.2
def Ko (nm:ByteArray) (n:Int):Bool:=decide ((Lp nm).2.1<=n)&&decide (n<=(Lp nm).2.2.1)
def JS (t:Tm):Bool:=decide (t.kind=3)||decide (t.sort≠1)
def WK (nm:ByteArray) (l:List Tm):Int :=
 if nm=bs [115,107]\/nm=bs [115,104,107]then (if l.any JS=true then 10 else 0)
 else if nm=bs [110,101,119]then (match l with | []=>0|a::_=>if a.kind=2 then 0 else 10)else 0
mutual
def RS:Tm->Int
 | .mk k nm _ _ l=>if k≠3 then 0 else if JN nm=0 then 10 else if Ko nm l.length=false then 6 else if WK nm l≠0 then WK nm l else Lq l
def Lq:List Tm->Int
 | []=>0
 |t::l=>if RS t≠0 then RS t else Lq l
end
theorem Ut (t:Tm) (l:I2):Lq (t::l)=if RS t≠0 then RS t else Lq l:=rfl
theorem kT (m:I8) (l:I2) (C2:l.length<=1099511627776) (fr:Fr) (h:AH) (hl:fr.length=74) (h38:A0 fr 38=sl m 4 (A3 l)) (h39:A0 fr 39=.int .i64 l.length) (h40:A0 fr 40=.int .i64 0) :
  C8 (lp (A1 (Q8 Q) (G7 i7) a8) (fr,h)) λe D4 h'=>Kp a8.wr fr D4/\(e=.exit 1/\(∃B,h'.boxes=h.boxes++B)/\l.any JS=false\/e=.ret/\A0 D4 2=.int .i64 10/\l.any JS=true):=by
 refine C3 rfl fr (λn fr h'=>∃(i:Nat),i+n=l.length/\A0 fr 40=.int .i64 (i:Nat)/\((∃B,h'.boxes=h.boxes++B)/\(l.drop i).any JS=l.any JS)) ?_ l.length h ⟨0,by omega,h40,⟨[],by simp⟩,rfl⟩;rintro J Φ hJ hΦ n G9 H1 K ⟨i,hi,k40,hr⟩;have B4:=K.1.trans hl;have k38:=A5 K 38 h38;have k39:=A5 K 39 h39;clear K;by_cases A6:i<l.length
 .have V7:=E5 i (by omega);obtain⟨⟨B,hB⟩,hr⟩:=hr;obtain⟨bx,F⟩:=H1;simp only at hB;have hx:=S4 A6;rw[xl A6,List.any_cons]at hr;generalize l[i]=s at *
  by_cases hc:JS s=true
  .rw[hc,Bool.true_or]at hr;by_cases hk:s.kind=3
   .simp[a8,B4,k38,k39,k40,A6,hx,hk];exact hΦ _ _ _ (.inr ⟨rfl,by simp[B4],hr.symm⟩)
   .have hs:s.sort≠1:=by simpa[JS,hk]using hc
    simp[a8,B4,k38,k39,k40,A6,hx,hk,hs];exact hΦ _ _ _ (.inr ⟨rfl,by simp[B4],hr.symm⟩)
  .simp only[JS,Bool.or_eq_true,decide_eq_true_eq,not_or,ne_eq,Decidable.not_not]at hc;have hn:JS s=false:=by simp[JS,hc]
   rw[hn,Bool.false_or]at hr;have hk:=hc.1;have hs:=hc.2;clear hc hn;simp[a8,B4,k38,k39,k40,A6,V7,hx,hk,hs];exact O4 hJ ⟨i+1,by omega,by simp[B4],⟨B++[[.int .i64 s.kind,.str s.name,.int .i64 1,sl s.cm 4 (A3 s.kids)]],by simp[hB]⟩,hr⟩
 .obtain⟨⟨B,hB⟩,hr⟩:=hr;rw[xn (by omega)]at hr;simp[a8,B4,k39,k40,A6];exact hΦ _ _ _ (.inl ⟨rfl,⟨B,hB⟩,hr.symm⟩)
theorem XV (m:I8) (l:I2) (C2:l.length<=1099511627776) (IH:∀t∈l,pc Q i7 [B8 t]=some (.int .i64 (RS t))) (fr:Fr) (h:AH) (hl:fr.length=74) (h62:A0 fr 62=sl m 4 (A3 l)) (h63:A0 fr 63=.int .i64 l.length) (h64:A0 fr 64=.int .i64 0) :
  C8 (lp (A1 (Q8 Q) (G7 i7) AE) (fr,h)) λe D4 h'=>Kp AE.wr fr D4/\(e=.exit 3/\Lq l=0\/e=.ret/\A0 D4 2=.int .i64 (Lq l)):=by
 refine C3 rfl fr (λn fr h'=>∃(i:Nat),i+n=l.length/\A0 fr 64=.int .i64 (i:Nat)/\(Lq (l.drop i)=Lq l)) ?_ l.length h ⟨0,by omega,h64,rfl⟩;rintro J Φ hJ hΦ n G9 H1 K ⟨i,hi,k64,hr⟩;have B4:=K.1.trans hl;have k62:=A5 K 62 h62;have k63:=A5 K 63 h63;clear K;by_cases A6:i<l.length
 .have V7:=E5 i (by omega);have hx:=S4 A6;have hI:=IH l[i] (xk A6);rw[xl A6,Ut]at hr;obtain⟨bx,F⟩:=H1;generalize l[i]=s at *
  by_cases hc:RS s=0
  .rw[if_neg (by simp[hc])]at hr;rw[hc]at hI;simp[AE,B4,k62,k63,k64,A6,V7,hx,hI];exact O4 hJ ⟨i+1,by omega,by simp[B4],hr⟩
  .rw[if_pos hc]at hr;simp[AE,B4,k62,k63,k64,A6,hx,hI,hc];exact hΦ _ _ _ (.inr ⟨rfl,by simp[B4,hr]⟩)
 .rw[xn (by omega)]at hr;simp[AE,B4,k63,k64,A6];exact hΦ _ _ _ (.inl ⟨rfl,hr.symm⟩)
theorem gx {n:Nat} (h:Ko (bs [110,101,119]) n=true):1<=n:=by
 have e:(Lp (bs [110,101,119])).2.1=1:=by decide
 simp only[Ko,e,yB,decide_eq_true_eq]at h;omega
theorem jG (t:Tm) (h:t.kind≠3):RS t=0:=by
 obtain⟨k,nm,s,m,l⟩:=t;have h:k≠3:=h;rw[RS,if_pos h]
theorem bu {k:Int} {nm:H7} {s:Int} {m:I8} {l:I2} (h:k=3):RS (.mk k nm s m l)=if JN nm=0 then 10 else if Ko nm l.length=false then 6 else if WK nm l≠0 then WK nm l else Lq l:=by
 rw[RS,if_neg (by simp[h])]
theorem dz:∀(n:Nat) (t:Tm),t.size<=n->t.size<=1099511627776->pc Q i7 [B8 t]=some (.int .i64 (RS t)):=by
 intro n
 induction n with
 |zero=>intro t h;have:=t.size_pos;omega
 |succ n ih =>
  intro t hn hb;obtain⟨k,nm,s,m,kids⟩:=t;have K4:Tm.size (.mk k nm s m kids)=1+Tm.sizes kids:=rfl;have C2:=Tm.length_le kids;have hS:=Ue nm;have hlp0:=XV m kids (by omega) (λt ht=>ih t (by have:=Tm.size_le ht;omega) (by have:=Tm.size_le ht;omega));have hlp1:=kT m kids (by omega);clear ih;by_cases hk:k=3
  .subst hk;rw[bu rfl];by_cases hkd:JN nm=0
   .rw[if_pos hkd];simp only[JN]at hkd;generalize Lp nm=q at *
    obtain⟨q1,q2,q3,q4⟩:=q;simp only[HS]at hS hkd;refine N4 G0 λfr hl h0=>?_;simp[G0,B8]at hl h0;simp[G0,hl,h0,hS,hkd]
   .rw[if_neg hkd];by_cases hf:Ko nm kids.length=false
    .rw[if_pos hf];simp only[JN]at hkd;simp only[Ko]at hf;generalize Lp nm=q at *
     obtain⟨q1,q2,q3,q4⟩:=q;simp only[HS]at hS hkd hf;refine N4 G0 λfr hl h0=>?_;simp[G0,B8]at hl h0;by_cases h2:(kids.length:Int)<q2
     .simp[G0,hl,h0,hS,hkd,h2]
     .have h3:q3<(kids.length:Int):=by
       rw[Bool.and_eq_false_iff]at hf;rcases hf with hf|hf
       .simp only[decide_eq_false_iff_not]at hf;omega
       .simp only[decide_eq_false_iff_not]at hf;omega
      simp[G0,hl,h0,hS,hkd,h2,h3]
    .have hf':Ko nm kids.length=true:=by simpa using hf
     rw[if_neg hf];have hnf:=@gx kids.length;have BU:¬((kids.length:Int)<(Lp nm).2.1)/\¬((Lp nm).2.2.1<(kids.length:Int)):=by
      simp only[Ko,yB,decide_eq_true_eq]at hf';omega
     obtain⟨hf1,hf2⟩:=BU;have Ch:nm=bs [110,101,119]->1<=kids.length:=λe=>hnf (by rw[←e];exact hf');clear hf hf' hnf;simp only[JN]at hkd;generalize Lp nm=q at *
     obtain⟨q1,q2,q3,q4⟩:=q;simp only[HS]at hS hkd hf1 hf2;by_cases hsk:nm=bs [115,107]\/nm=bs [115,104,107]
     .have hag:WK nm kids=if kids.any JS=true then 10 else 0:=by unfold WK;rw[if_pos hsk]
      rw[hag];clear Ch hag;generalize kids.any JS=b at hlp1 ⊢;have hmain:∀(nm':ByteArray),nm'=nm->(nm'=bs [115,107]\/nm'≠bs [115,107]/\nm'=bs [115,104,107])->pc Q i7 [B8 (.mk 3 nm s m kids)]=some (.int .i64 (if (if b=true then (10:Int)else 0)≠0 then if b=true then 10 else 0 else Lq kids)):=by
       intro nm' e hn2;subst e;refine N4 G0 λfr hl h0=>?_;simp[G0,B8]at hl h0;rcases hn2 with hn2|⟨hn1,hn2⟩
       .subst hn2;simp[G0,hl,h0,hS,hkd,hf1,hf2];refine C8.mono (hlp1 _ _ ?_ ?_ ?_ ?_) ?_<;>first|(simp[hl];done)|skip
        rintro e Cs ⟨bx,F⟩ ⟨K,⟨rfl,⟨B,hB⟩,ha⟩|⟨rfl,k2,ha⟩⟩
        .simp only at hB;subst hB;have Jc:Cs.length=74:=K.1.trans (by simp[hl]);have k1:A0 Cs 1=.ptr 0 0:=A5 K 1 (by simp[hl]);clear K;simp[Jc,k1,ha];refine C8.mono (hlp0 _ _ ?_ ?_ ?_ ?_) ?_<;>first|(simp[Jc];done)|skip
         rintro e fr3 h3 ⟨K,⟨rfl,he⟩|⟨rfl,h2⟩⟩
         .have hl3:fr3.length=74:=K.1.trans (by simp[Jc]);simp[hl3,he]
         .simp[h2]
        .simp[k2,ha]
       .subst hn2;simp[G0,hl,h0,hS,hkd,hf1,hf2,hn1];refine C8.mono (hlp1 _ _ ?_ ?_ ?_ ?_) ?_<;>first|(simp[hl];done)|skip
        rintro e Cs ⟨bx,F⟩ ⟨K,⟨rfl,⟨B,hB⟩,ha⟩|⟨rfl,k2,ha⟩⟩
        .simp only at hB;subst hB;have Jc:Cs.length=74:=K.1.trans (by simp[hl]);have k1:A0 Cs 1=.ptr 0 0:=A5 K 1 (by simp[hl]);clear K;simp[Jc,k1,ha];refine C8.mono (hlp0 _ _ ?_ ?_ ?_ ?_) ?_<;>first|(simp[Jc];done)|skip
         rintro e fr3 h3 ⟨K,⟨rfl,he⟩|⟨rfl,h2⟩⟩
         .have hl3:fr3.length=74:=K.1.trans (by simp[Jc]);simp[hl3,he]
         .simp[h2]
        .simp[k2,ha]
      refine hmain nm rfl ?_;by_cases h1:nm=bs [115,107]
      .exact .inl h1
      .exact .inr ⟨h1,hsk.resolve_left h1⟩
     .have hsk1:nm≠bs [115,107]:=λe=>hsk (.inl e);have hsk2:nm≠bs [115,104,107]:=λe=>hsk (.inr e);by_cases hn1:nm=bs [110,101,119]
      .have CI:=Ch hn1;subst hn1;cases kids with
       |nil=>simp at CI
       |cons a kids =>
        have hag:WK (bs [110,101,119]) (a::kids)=if a.kind=2 then 0 else 10:=by unfold WK;rw[if_neg hsk,if_pos rfl]
        rw[hag];have hx:IU (A3 (a::kids)) 0=some (B8 a):=S4 (l:=a::kids) (i:=0) (by simp);generalize a::kids=kids' at *
        by_cases ha:a.kind=2
        .refine N4 G0 λfr hl h0=>?_;simp[G0,B8]at hl h0;simp[G0,hl,h0,hS,hkd,hf1,hf2,hsk1,hsk2,hx,ha];refine C8.mono (hlp0 _ _ ?_ ?_ ?_ ?_) ?_<;>first|(simp[hl];done)|skip
         rintro e fr3 h3 ⟨K,⟨rfl,he⟩|⟨rfl,h2⟩⟩
         .have hl3:fr3.length=74:=K.1.trans (by simp[hl]);simp[hl3,he]
         .simp[h2]
        .refine N4 G0 λfr hl h0=>?_;simp[G0,B8]at hl h0;simp[G0,hl,h0,hS,hkd,hf1,hf2,hsk1,hsk2,hx,ha]
      .have hag:WK nm kids=0:=by unfold WK;rw[if_neg hsk,if_neg hn1]
       rw[hag];refine N4 G0 λfr hl h0=>?_;simp[G0,B8]at hl h0;simp[G0,hl,h0,hS,hkd,hf1,hf2,hsk1,hsk2,hn1];refine C8.mono (hlp0 _ _ ?_ ?_ ?_ ?_) ?_<;>first|(simp[hl];done)|skip
       rintro e fr3 h3 ⟨K,⟨rfl,he⟩|⟨rfl,h2⟩⟩
       .have hl3:fr3.length=74:=K.1.trans (by simp[hl]);simp[hl3,he]
       .simp[h2]
  .rw[jG (.mk k nm s m kids) hk];refine N4 G0 λfr hl h0=>?_;simp[G0,B8]at hl h0;simp[G0,hl,h0,hk]
def vE (t:Tm):Int:=if S5 t≠0 then S5 t else RS t
theorem IX (t:Tm) (hb:t.size<=1099511627776):pc Q DY [B8 t]=some (.int .i64 (vE t)):=by
 have h1:=Dv t hb;have h2:=dz _ t (xp _) hb;unfold vE;by_cases hv:S5 t=0
 .rw[if_neg (by simp[hv])];rw[hv]at h1;refine N4 CC λfr hl h0=>?_;simp[CC]at hl h0;simp[CC,hl,h0,h1,h2]
 .rw[if_pos hv];refine N4 CC λfr hl h0=>?_;simp[CC]at hl h0;simp[CC,hl,h0,h1,hv]
def AG:List ByteArray:=[bs [112,97,105,114],bs [101,110,99],bs [97,101,110,99],bs [112,107],bs [115,105,103,110],bs [104,97,115,104],bs [115,107],bs [115,104,107]]
def fI (t:Tm):Prop:=∀x∈EH t,x.kind=3->x.name∈AG
theorem fI.kid {t x:Tm} (h:fI t) (hx:x∈t.kids):fI x:=λy hy=>h y (by
 rw[Ac,J1];exact List.mem_cons_of_mem _ (List.mem_flatMap.2 ⟨x,hx,hy⟩))
theorem fI.name {t:Tm} (h:fI t) (hk:t.kind=3):t.name∈AG:=h t (by rw[Ac];exact List.mem_cons_self) hk
theorem Om {nm:H7} (h:nm∈AG):nm≠bs [102,115,116]/\nm≠bs [115,110,100]/\nm≠bs [100,101,99]/\nm≠bs [97,100,101,99]/\nm≠bs [111,112,101,110]/\nm≠bs [114,101,97,100]/\nm≠bs [120,111,114]/\nm≠bs [109,117,108]/\nm≠bs [105,110,118]/\nm≠bs [111,110,101]/\nm≠bs [101,120,112]/\nm≠bs [122,101,114,111]/\nm≠bs [110,101,119]/\JN nm≠3/\JN nm≠0:=by
 have:∀nm∈AG,nm≠bs [102,115,116]/\nm≠bs [115,110,100]/\nm≠bs [100,101,99]/\nm≠bs [97,100,101,99]/\nm≠bs [111,112,101,110]/\nm≠bs [114,101,97,100]/\nm≠bs [120,111,114]/\nm≠bs [109,117,108]/\nm≠bs [105,110,118]/\nm≠bs [111,110,101]/\nm≠bs [101,120,112]/\nm≠bs [122,101,114,111]/\nm≠bs [110,101,119]/\JN nm≠3/\JN nm≠0:=by decide
 exact this nm h
theorem XY (m:I8) (l:I2) (nm:H7) (C0 C1:E6) (C2:l.length<=1048576) (IH:∀t∈l,∃t',pc Q Y0 [B8 t]=some (.tup [B8 t',.int .i64 0])/\D5 t'=D5 t) (fr:Fr) (h:AH) (hh:h.boxes=[C0,C1,[.int .i64 3,.str nm,.int .i64 0,.vs true 0 []]]) (hl:fr.length=90) (h2:A0 fr 2=.ptr 1 0) (h4:A0 fr 4=.ptr 2 0) (h19:A0 fr 19=sl m 4 (A3 l)) (h20:A0 fr 20=.int .i64 l.length) (h21:A0 fr 21=.int .i64 0) :
  C8 (lp (A1 (Q8 Q) (G7 Y0) BR) (fr,h)) λe D4 h'=>Kp BR.wr fr D4/\e=.exit 0/\∃(B:List (List AV)) (v:AV) (done:List Tm),h'.boxes=C0::C1::[.int .i64 3,.str nm,.int .i64 0,v]::B/\NB 4 (A3 done) v h'/\G8 done=G8 l:=by
 refine C3 rfl fr (λn fr h'=>∃(i:Nat),i+n=l.length/\A0 fr 21=.int .i64 (i:Nat)/\(∃(B:List (List AV)) (v:AV) (done:List Tm),h'.boxes=C0::C1::[.int .i64 3,.str nm,.int .i64 0,v]::B/\NB 4 (A3 done) v h'/\G8 done=G8 (l.take i)/\done.length=i)) ?_ l.length h ⟨0,by omega,h21,[],_,[],hh,OU _ _,by simp[G8],rfl⟩;rintro J Φ hJ hΦ n G9 H1 K ⟨i,hi,k21,hr⟩;have B4:=K.1.trans hl;have k2:=A5 K 2 h2;have k4:=A5 K 4 h4;have k19:=A5 K 19 h19;have k20:=A5 K 20 h20;clear K;by_cases A6:i<l.length
 .have V7:=E5 i (by omega);obtain⟨B,v,done,hB,hg,hd,EF⟩:=hr;obtain⟨bx,F⟩:=H1;simp only at hB;subst hB;have hx:=S4 A6;obtain⟨t',hI,ht⟩:=IH l[i] (xk A6);have xi:(A3 done).length=done.length:=by rw[D7,yE]
  obtain⟨v',⟨bx',F'⟩,ha,DG,gH⟩:=Qv (c:=G7 Y0) (bytes:=56) (x:=B8 t') (h:=⟨C0::C1::[.int .i64 3,.str nm,.int .i64 0,v]::(B++[(B8 l[i]).cells]++[(B8 t').cells]),F⟩) (FU hg rfl) rfl (true,true) (by omega) (by omega);have e2:G8 (done++[t'])=G8 (l.take (i+1)):=by
   rw[List.take_succ_eq_append_getElem A6,D3,xm,←D3,hd,D3,D3,xm,xr,yF,xr,yF,ht]
  have hg2:NB 4 (A3 (done++[t'])) v' ⟨bx',F'⟩:=by rw[Dz];exact DG
  clear ht hd hh;generalize l[i]=s at *
  simp only at gH;subst gH;simp only[H3,List.append_assoc,List.singleton_append]at ha;obtain⟨c1,c2,-⟩:=Dm DG;simp[BR,B4,k4,k19,k20,k21,A6,V7,hx,hI,A4,ha,c1,c2];exact O4 hJ ⟨i+1,by omega,by simp[B4],_,v',done++[t'],rfl,FU hg2 rfl,e2,by simp[EF]⟩
 .obtain⟨B,v,done,hB,hg,hd,EF⟩:=hr;obtain⟨bx,F⟩:=H1;simp only at hB;subst hB;rw[List.take_of_length_le (by omega)]at hd;simp[BR,B4,k20,k21,A6];exact hΦ _ _ _ ⟨rfl,B,v,done,rfl,hg,hd⟩
theorem gz {k:Int} {nm:H7} {s:Int} {n:Nat} (h:t8 k s nm n=0) (hk:k=3):s=0:=by
 subst hk;unfold t8 at h;by_cases hs:s=0
 .exact hs
 .rw[if_pos (.inr (.inl ⟨rfl,hs⟩))]at h;exact absurd h (by decide)
theorem eD:∀(n:Nat) (t:Tm),t.size<=n->t.size<=1048576->fI t->L3 t=0->∃t',pc Q Y0 [B8 t]=some (.tup [B8 t',.int .i64 0])/\D5 t'=D5 t:=by
 intro n
 induction n with
 |zero=>intro t h;have:=t.size_pos;omega
 |succ n ih =>
  intro t hn hb hf gI
  suffices h:∃v,pc Q Y0 [B8 t]=some v/\∃t',v=.tup [B8 t',.int .i64 0]/\D5 t'=D5 t by
   obtain⟨v,h1,t',rfl,h2⟩:=h;exact⟨t',h1,h2⟩
  obtain⟨k,nm,s,m,kids⟩:=t;have K4:Tm.size (.mk k nm s m kids)=1+Tm.sizes kids:=rfl;have C2:=Tm.length_le kids;obtain⟨hno1,hno2⟩:=CS gI;have Pk:=XY m kids nm [.int .i64 k,.str nm,.int .i64 s,sl m 4 (A3 kids)] [.int .i64 0,.str (bs []),.int .i64 0,.vs true 0 []] (by omega) (λt ht=>ih t (by have:=Tm.size_le ht;omega) (by have:=Tm.size_le ht;omega) (hf.kid ht) (BM hno2 t ht));clear ih;by_cases hk:k=3
  .obtain⟨n1,n2,n3,n4,n5,n6,n7,n8,n9,n10,n11,-⟩:=Om (hf.name hk);simp only[Tm.name]at n1 n2 n3 n4 n5 n6 n7 n8 n9 n10 n11;have hs0:=gz hno1 hk;subst hk hs0;refine Jk BC λΨ hΨ fr hl h0=>?_;simp[BC,B8]at hl h0;simp[BC,hl,h0,D2,E8];refine C8.mono (Pk _ _ ?_ ?_ ?_ ?_ ?_ ?_ ?_) ?_<;>first|(simp[hl];done)|skip
   rintro e G9 ⟨bx,F⟩ ⟨K,rfl,B,v,done,hB,hg,hd⟩;simp only at hB;subst hB;have M7:G9.length=90:=K.1.trans (by simp[hl]);have GN:A0 G9 1=.ptr 0 0:=A5 K 1 (by simp[hl]);have FM:A0 G9 2=.ptr 1 0:=A5 K 2 (by simp[hl]);have MT:A0 G9 4=.ptr 2 0:=A5 K 4 (by simp[hl]);clear K;obtain⟨mm,hz⟩:=WT hg;obtain⟨c1,c2,c3⟩:=Dm hg;simp[M7,GN,FM,MT,hz,n1,n2,n3,n4,n5,n6,n7,n8,n9,n10,n11];exact hΨ _ ⟨.mk 3 nm 0 mm done,rfl,by simp[D5,hd]⟩
  .refine Jk BC λΨ hΨ fr hl h0=>?_;simp[BC,B8]at hl h0;simp[BC,hl,h0,hk];exact hΨ _ ⟨.mk k nm s m kids,rfl,rfl⟩
end Go.Abs.Q
