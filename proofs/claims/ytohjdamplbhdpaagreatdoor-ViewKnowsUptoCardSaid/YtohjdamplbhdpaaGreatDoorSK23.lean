/- A part of the proof. -/
import Derived.Test.YtohjdamplbhdpaaGreatDoorSK22
set_option linter.all false
open Nat renaming le_refl->A0A,lt_or_eq_of_le->A0G
open List renaming getElem_mem->A0B,drop_eq_getElem_cons->A0C,map_append->A0D,drop_eq_nil_of_le->A0E,getElem_of_mem->A0F,map_cons->A0H,length_drop->A0I,length_take->A0J,length_map->A0K,mem_append->A0L,mem_of_mem_drop->A0M,mem_cons->A0N,length_append->A0O,any_eq_true->A0Q,length_cons->A0R,map_nil->A0S
open Bool renaming and_eq_true->A0P
namespace Go.Abs.Q
open Go.Proofs
attribute [local simp] D9 E4 fin I8 G6 P7 M4
theorem ZK (a:Nat):G7 .shr (.int .u64 (a:Int)) (.int .u64 1)=some (.int .u64 ((a / 2:Nat):Int)):=by
 have e:Int.fdiv (a:Int) (2 ^ (min (1:Int).toNat IntKind.u64.bits))=((a / 2:Nat):Int):=by
  rw[show min (1:Int).toNat IntKind.u64.bits=1 from rfl];rw[Int.fdiv_eq_ediv_of_nonneg _ (by decide)];omega
 simp only[G7];rw[if_pos (by decide),e]
theorem mv {n:Int} (h0:0<=n) (h1:n<=9223372036854775807):IntKind.u64.wrap n=n:=by
 simp only[IntKind.wrap,IntKind.bits,IntKind.signed];simp;omega
def u6 (R:List Tm):Prop:=R.Pairwise λa b=>H7 a b<0
theorem u6.get {R:I6} (h:u6 R) {i j:Nat} (hi:i<R.length) (hj:j<R.length) (hij:i<j):H7 R[i] R[j]<0:=(List.pairwise_iff_getElem.1 h) i j hi hj hij
theorem kX {R:I6} (h:u6 R) (t:Tm) (i:Nat) (h1:∀j (hj:j<R.length),j<i->H7 R[j] t<0) (h2:∀j (hj:j<R.length),i<=j->0<=H7 R[j] t) :
  O5 R t=true↔∃hi:i<R.length,H7 R[i] t=0:=by
 simp only[O5,A0Q,KZ,decide_eq_true_eq];constructor
 .rintro⟨x,hx,hc⟩;obtain⟨j,hj,rfl⟩:=A0F hx;have hij:i<=j:=by
   rcases Nat.lt_or_ge j i with q|q
   .have:=h1 j hj q;omega
   .exact q
  refine⟨by omega,?_⟩;rcases A0G hij with q|q
  .have a:=h.get (by omega) hj q;have b:=h2 i (by omega) (A0A _);have:=lP a (by omega:H7 R[j] t<=0);omega
  .subst q;exact hc
 .rintro⟨hi,hc⟩;exact⟨_,A0B hi,hc⟩
theorem qS (m:J3) (R:I6) (t:Tm) (hR:u6 R) (B8:R.length<=1099511627776) (hs:∀x∈R,x.size<=1099511627776) (ht:t.size<=1099511627776) :
  ∃i:Nat,i<=R.length/\(∀j (hj:j<R.length),j<i->H7 R[j] t<0)/\(∀j (hj:j<R.length),i<=j->0<=H7 R[j] t) /\
   pc Q H3 [sl m 4 (A4 R),B7 t,.fn C2 []]=some (.tup [.int .i64 (i:Nat),.bool (O5 R t)]):=by
 suffices h:∃v,pc Q H3 [sl m 4 (A4 R),B7 t,.fn C2 []]=some v/\∃i:Nat,v=.tup [.int .i64 (i:Nat),.bool (O5 R t)]/\i<=R.length/\(∀j (hj:j<R.length),j<i->H7 R[j] t<0)/\(∀j (hj:j<R.length),i<=j->0<=H7 R[j] t) by
  obtain⟨v,h1,i,rfl,h2,h3,h4⟩:=h;exact⟨i,h2,h3,h4,h1⟩
 refine ay Q5 λΨ hΨ fr hl h0 h1 h2=>?_;simp[Q5]at hl h0 h1 h2;simp[Q5,hl,h0,h1];refine(B5 (Ψ:=λe C6 h'=>e=.exit 0/\h'=⟨[(B7 t).cells],[]⟩/\∃i:Nat,A0 C6 9=.int .i64 (i:Nat)/\i<=R.length/\(∀j (hj:j<R.length),j<i->H7 R[j] t<0)/\(∀j (hj:j<R.length),i<=j->0<=H7 R[j] t)) rfl _
  (λn C6 h'=>h'=⟨[(B7 t).cells],[]⟩/\∃lo hi:Nat,hi=lo+n/\hi<=R.length/\A0 C6 9=.int .i64 (lo:Nat)/\A0 C6 10=.int .i64 (hi:Nat)/\(∀j (hj:j<R.length),j<lo->H7 R[j] t<0)/\(∀j (hj:j<R.length),hi<=j->0<=H7 R[j] t)) ?_ R.length _
  ⟨by simp,0,R.length,by omega,A0A _,by simp[hl],by simp[hl],λj _ h=>absurd h (Nat.not_lt_zero _),λj hj h=>by omega⟩).mono ?_
 .rintro J Φ hJ hΦ n E1 H1 K ⟨rfl,lo,hi,hn,WY,k9,k10,g1,g2⟩;have A6:E1.length=49:=K.1.trans (by simp[hl]);have k0:=A9 K 0 (by simp[h0]:_=sl m 4 (A4 R));have k2:=A9 K 2 (by simp[h2]:_=AV.fn C2 []);have k4:=A9 K 4 (by simp[hl]:_=AV.ptr 0 0);clear K;by_cases A7:0<n
  .have hlti:(lo:Int)<(hi:Int):=by omega
   have hw1:IntKind.i64.wrap ((lo:Int)+(hi:Int))=(lo:Int)+(hi:Int):=U4 (by omega) (by omega);have hw2:IntKind.u64.wrap ((lo:Int)+(hi:Int))=(lo:Int)+(hi:Int):=mv (by omega) (by omega);obtain⟨mid,hmd⟩:∃mid,mid=(lo+hi) / 2:=⟨_,rfl⟩;have hb:=ZK (lo+hi);rw[←hmd,Int.natCast_add]at hb;have hm1:lo<=mid:=by omega
   have hm2:mid<hi:=by omega
   have hw3:IntKind.i64.wrap (mid:Int)=(mid:Int):=U4 (by omega) (by omega);have hw4:=D1 mid (by omega);have hmid:mid<R.length:=by omega
   have hx:=N6 hmid;have hC:=m9 _ R[mid] t (A0A _) (hs _ (A0B hmid)) ht;by_cases hc:H7 R[mid] t<0
   .have g1':∀j (hj:j<R.length),j<mid+1->H7 R[j] t<0:=λj hj hjm=>by
     rcases A0G (Nat.le_of_lt_succ hjm)with q|q
     .exact HG (hR.get hj hmid q) hc
     .subst q;exact hc
    generalize R[mid]=x at *
    simp[J9,A6,k0,k2,k4,k9,k10,hlti,hw1,hw2,hw3,hw4,hb,hx,hC,hc];exact⟨hi-(mid+1),by omega,hJ _ _ _ ⟨by simp,mid+1,hi,by omega,WY,by simp[A6],by simp[k10],g1',g2⟩⟩
   .have g2':∀j (hj:j<R.length),mid<=j->0<=H7 R[j] t:=λj hj hjm=>by
     rcases A0G hjm with q|q
     .rcases Int.lt_or_le (H7 R[j] t) 0 with p|p
      .exact absurd (HG (hR.get hmid hj q) p) hc
      .exact p
     .subst q;omega
    generalize R[mid]=x at *
    simp[J9,A6,k0,k2,k4,k9,k10,hlti,hw1,hw2,hw3,hb,hx,hC,hc];exact⟨mid-lo,by omega,hJ _ _ _ ⟨by simp,lo,mid,by omega,by omega,by simp[k9],by simp[A6],g1,g2'⟩⟩
  .have hn0:n=0:=by omega
   have hlh:hi=lo:=by omega
   subst hlh;simp[J9,A6,k9,k10];exact hΦ _ _ _ ⟨rfl,by simp,hi,by simp[k9],WY,g1,g2⟩
 .rintro e E1 Ei ⟨K,rfl,rfl,i,k9,hi,g1,g2⟩;have A6:E1.length=49:=K.1.trans (by simp[hl]);have k0:=A9 K 0 (by simp[h0]:_=sl m 4 (A4 R));have k2:=A9 K 2 (by simp[h2]:_=AV.fn C2 []);have k4:=A9 K 4 (by simp[hl]:_=AV.ptr 0 0);have k8:=A9 K 8 (by simp[hl]:_=AV.int .i64 R.length);clear K;have hh:=kX hR t i g1 g2;by_cases A7:i<R.length
  .have hx:=N6 A7;have hC:=m9 _ R[i] t (A0A _) (hs _ (A0B A7)) ht;have e:decide (H7 R[i] t=0)=O5 R t:=by
    rw[Bool.eq_iff_iff,decide_eq_true_iff,hh];exact⟨λh=>⟨A7,h⟩,λ⟨_,h⟩=>h⟩
   simp[A6,k0,k2,k4,k8,k9,A7,hx,hC];exact hΨ _ ⟨i,by rw[e],hi,g1,g2⟩
  .have e:O5 R t=false:=by
    rw[Bool.eq_false_iff];intro h;obtain⟨h,-⟩:=hh.1 h;omega
   simp[A6,k8,k9,A7];exact hΨ _ ⟨i,by rw[e],hi,g1,g2⟩
@[simp] theorem zk (k:IntKind) (i:Int) (b:Bool):(AV.tup [.int k i,.bool b]).scalar=true:=rfl
theorem Iz (m:J3) (R:I6) (t:Tm) (hR:u6 R) (B8:R.length<=1099511627776) (hs:∀x∈R,x.size<=1099511627776) (ht:t.size<=1099511627776) :
  pc Q N2 [sl m 4 (A4 R),B7 t]=some (.bool (O5 R t)):=by
 obtain⟨i,-,-,-,hB⟩:=qS m R t hR B8 hs ht;refine O2 GO λfr hl h0 h1=>?_;simp[GO]at hl h0 h1;simp[GO,hl,h0,h1,hB]
def UU (R:List Tm) (i:Nat) (t:Tm):List Tm:=R.take i++t::R.drop i
theorem bH (m:J3) (xs:G1) (Wa:xs.length<=1048576) (h:AH):∃w h',rc Q J1 [sl m 4 xs] h=some (w,h')/\gB h.fams.length 4 xs w h'/\h'.boxes=h.boxes/\∃e,h'.fams=h.fams++e:=by
 have hr:xs.length*56<=H6/\xs.length<=maxLen:=by simp only[H6,maxLen];omega
 suffices hq:∃w h',rc Q J1 [sl m 4 xs] h=some (w,h')/\∀Ψ:AV->AH->Prop,(∀w h',gB h.fams.length 4 xs w h'/\h'.boxes=h.boxes/\(∃e,h'.fams=h.fams++e)->Ψ w h')->Ψ w h' by
  obtain⟨w,h',h1,h2⟩:=hq;exact⟨w,h',h1,h2 _ λ_ _ h=>h⟩
 refine bE X0 λfr hl h0=>?_;simp[X0]at hl h0;by_cases he:xs=[]
 .subst he;obtain⟨m1,m2⟩:=m;cases m2 with
  |false =>
   simp[X0,hl,h0,Qo];exact λΨ hΨ=>hΨ _ _ (.inl ⟨rfl,false,IN 4⟩) rfl [] (by simp)
  |true =>
   simp[X0,hl,h0,Qo,Hm,A5];exact λΨ hΨ=>hΨ _ _ (.inl ⟨rfl,true,rfl⟩) rfl [] (by simp)
 .have he':xs.isEmpty=false:=by simpa using he
  simp[X0,hl,h0,Qo,he',Hm,A5,he,hr,show Vp J1=true from rfl];exact λΨ hΨ=>hΨ _ _ (.inr ⟨he,rfl,by simp⟩) rfl _ rfl
theorem Zi (R:I6) (i:Nat) (t:Tm):A4 (UU R i t)=(A4 R).take i++B7 t::(A4 R).drop i:=by
 rw[UU,D6,D6,A0D,A0H,List.map_take,List.map_drop]
theorem ke {R:I6} (hR:u6 R) (t:Tm) {i:Nat} (hi:i<=R.length) (h1:∀j (hj:j<R.length),j<i->H7 R[j] t<0) (h2:∀j (hj:j<R.length),i<=j->0<=H7 R[j] t) (hn:O5 R t=false) :
  u6 (UU R i t)/\∀e,e∈(UU R i t).map E8↔e=E8 t\/e∈R.map E8:=by
 have kY:∀x∈R,H7 x t≠0:=by
  intro x hx hc;have:O5 R t=true:=by
   simp only[O5,A0Q,KZ,decide_eq_true_eq];exact⟨x,hx,hc⟩
  rw[this]at hn;cases hn
 have ha:∀x∈R.take i,H7 x t<0:=by
  intro x hx;obtain⟨j,hj,rfl⟩:=A0F hx;rw[A0J]at hj;rw[List.getElem_take];exact h1 j (by omega) (by omega)
 have hb:∀x∈R.drop i,H7 t x<0:=by
  intro x hx;have hm:=A0M hx;obtain⟨j,hj,rfl⟩:=A0F hx;rw[A0I]at hj;rw[List.getElem_drop]at hm ⊢;have a:=h2 (i+j) (by omega) (by omega);have b:=kY _ hm;exact NB.1.2 (by omega)
 refine⟨?_,λe=>?_⟩
 .unfold u6 UU;rw[List.pairwise_append];refine⟨hR.sublist (List.take_sublist i R),List.pairwise_cons.2 ⟨hb,hR.sublist (List.drop_sublist i R)⟩,λx hx y hy=>?_⟩;rcases A0N.1 hy with rfl|hy
  .exact ha x hx
  .exact HG (ha x hx) (hb y hy)
 .have:e∈R.map E8↔e∈(R.take i).map E8\/e∈(R.drop i).map E8:=by
   rw[←A0L,←A0D,List.take_append_drop]
  rw[this,UU,A0D,A0H,A0L,A0N];constructor
  .rintro(h|h|h)
   .exact .inr (.inl h)
   .exact .inl h
   .exact .inr (.inr h)
  .rintro(h|h|h)
   .exact .inr (.inl h)
   .exact .inl h
   .exact .inr (.inr h)
theorem Zh (K b:Nat) (O:Orc) (args:G1) (h:AH):(gf K b).run O args h=Nh K b args h:=rfl
theorem sN {k:Nat} {xs:G1} {w x:AV} {h:AH} (hg:gB k 4 xs w h) (hx:x.isAgg=true) (i:Nat) (hi:i<=xs.length) (hl:xs.length<=1048576) :
  ∃h' k',rc Q L8 [w,.int .i64 (i:Nat),sl (true,true) 4 [x]] h=some (.sl k' (xs.length+1) 0 (xs.length+1),h')/\h'.boxes=h.boxes/\∃b,h'.fams[k']?=some ⟨xs.take i++x::xs.drop i,4,b⟩:=by
 have e1:sl (true,true) 4 [x]=.vs true 4 [x]:=by simp[sl]
 rcases hg with ⟨rfl,b,rfl⟩|⟨P1,rfl,hk⟩
 .have hi0:i=0:=by simpa using hi
  subst hi0;refine⟨⟨h.boxes,h.fams++[⟨[x],4,true⟩]⟩,h.fams.length,MN (s:=gf 4 56) rfl rfl ?_,rfl,true,by simp⟩;rw[e1];rw[Zh];simp only[sl,Nh];rw[if_pos ⟨trivial,hx⟩,if_pos (by decide)];rfl
 .have HH:=I2 hk;refine⟨⟨h.boxes,h.fams.set k ⟨xs.take i++x::xs.drop i,4,true⟩⟩,k,MN (s:=gf 4 56) rfl rfl ?_,rfl,true,by simp[HH]⟩;rw[e1];rw[Zh];simp only[Nh,hk];rw[if_pos ⟨trivial,hx⟩,if_pos ⟨trivial,trivial,trivial,List.length_pos_iff.2 P1,trivial,trivial,by omega,by omega,by simp only[H6];omega,by simp only[maxLen];omega⟩];simp
theorem pS (m:J3) (R:I6) (t:Tm) (hR:u6 R) (B8:R.length<=1048576) (hs:∀x∈R,x.size<=1099511627776) (ht:t.size<=1099511627776) (hn:O5 R t=false) :
  ∃(R':List Tm) (m':Bool×Bool),pc Q u9 [sl m 4 (A4 R),B7 t]=some (sl m' 4 (A4 R'))/\u6 R'/\(∀e,e∈R'.map E8↔e=E8 t\/e∈R.map E8)/\(∀x∈R',x=t\/x∈R)/\R'.length=R.length+1:=by
 obtain⟨i,hi,g1,g2,hB⟩:=qS m R t hR (by omega) hs ht;obtain⟨s1,s2⟩:=ke hR t hi g1 g2 hn;rw[hn]at hB;have hlR:(A4 R).length=R.length:=by rw[D6,A0K]
 suffices h:∃v,pc Q u9 [sl m 4 (A4 R),B7 t]=some v/\∃q:Bool×Bool,v=sl q 4 (A4 (UU R i t)) by
  obtain⟨v,h1,q,rfl⟩:=h;refine⟨UU R i t,q,h1,s1,s2,λx hx=>?_,?_⟩
  .rw[UU]at hx;rcases A0L.1 hx with h|h
   .exact .inr (List.mem_of_mem_take h)
   .rcases A0N.1 h with rfl|h
    .exact .inl rfl
    .exact .inr (A0M h)
  .rw[UU,A0O,A0R,A0J,A0I];omega
 obtain⟨w,⟨B,F⟩,hC,hg,hb,hf⟩:=bH m (A4 R) (by omega) ⟨[(B7 t).cells],[]⟩;simp only at hb;subst hb;obtain⟨⟨B',F'⟩,k',hI,hb',b,Dd⟩:=sN (x:=B7 t) hg (by cases t;rfl) i (by omega) (by omega);simp only at hb';subst hb';rw[hlR]at hI;rw[←Zi]at Dd;have hz:Dy ⟨[(B7 t).cells],F'⟩ true (.sl k' (R.length+1) 0 (R.length+1))=some (sl (false,true) 4 (A4 (UU R i t))):=JX Dd (by
  rw[Zi,A0O,A0R,A0J,A0I,hlR];omega)
 obtain⟨c1,c2,c3⟩:=SG hg;simp only[L0]at hC hI hz;refine Qp FQ λΨ hΨ fr hl h0 h1=>?_;simp[FQ]at hl h0 h1;simp[FQ,hl,h0,h1,hB,hC,hI,hz,A5];exact hΨ _ ⟨_,rfl⟩
end Go.Abs.Q
namespace Go.Abs.Q
open Go.Proofs
attribute [local simp] D9 E4 fin I8 G6 P7 M4 R4 R3
def wX:List (ByteArray×Int×Int×Int):=[(bs [112,97,105,114],2,2,1),(bs [101,110,99],2,2,1),(bs [97,101,110,99],2,2,1),(bs [112,107],1,1,1),(bs [115,105,103,110],2,2,1),(bs [104,97,115,104],1,1,1),(bs [120,111,114],2,8,1),(bs [122,101,114,111],0,0,1),(bs [101,120,112],2,2,1),(bs [109,117,108],2,8,1),(bs [105,110,118],1,1,1),(bs [111,110,101],0,0,1),(bs [115,107],1,1,2),(bs [115,104,107],2,2,2),(bs [110,101,119],1,8,2),(bs [102,115,116],1,1,3),(bs [115,110,100],1,1,3),(bs [100,101,99],2,2,3),(bs [97,100,101,99],2,2,3),(bs [111,112,101,110],2,2,3),(bs [114,101,97,100],1,1,3)]
def Jz (x:ByteArray×Int×Int×Int):AV:=.agg [.str x.1,.int .i64 x.2.1,.int .i64 x.2.2.1,.int .i64 x.2.2.2]
def zS:ByteArray×Int×Int×Int:=(bs [],0,0,0)
def OU (nm:ByteArray):ByteArray×Int×Int×Int:=(wX.find? λx=>decide (x.1=nm)).getD zS
theorem Cc (kd least most:Int) (nm:I3) (D7:G1) (v:AV) (F:List Fam) (hg:GT 4 D7 v ⟨[[v]],F⟩) (hb:D7.length<=100) :
  ∃(v':AV) (F':List Fam),rc Q R7 [.int .i64 kd,.str nm,.int .i64 least,.int .i64 most,.ptr 0 0] ⟨[[v]],F⟩=some (C3,⟨[[v']],F'⟩)/\GT 4 (D7++[Jz (nm,least,most,kd)]) v' ⟨[[v']],F'⟩:=by
 obtain⟨v',⟨B',F'⟩,ha,g',hb'⟩:=Gv (c:=E5 R7) (bytes:=40) (x:=Jz (nm,least,most,kd)) hg rfl (true,true) (by omega) (by omega);simp only at hb';subst hb'
 suffices hq:∃x h',rc Q R7 [.int .i64 kd,.str nm,.int .i64 least,.int .i64 most,.ptr 0 0] ⟨[[v]],F⟩=some (x,h')/\(x=C3/\h'=⟨[[v']],F'⟩) by
  obtain⟨x,h',h1,rfl,rfl⟩:=hq;exact⟨v',F',h1,GU g' rfl⟩
 obtain⟨c1,c2,c3⟩:=y7 hg;obtain⟨c4,c5,c6⟩:=y7 g';simp only[Jz]at ha;refine wJ PM (by simp[Ds]) λfr hl ha=>?_;have h0:=ha 0;have h1:=ha 1;have h2:=ha 2;have h3:=ha 3;have h4:=ha 4;clear ha;simp[Ds]at hl h0 h1 h2 h3 h4;simp[Ds,hl,h0,h1,h2,h3,h4,c3,c4,c5,ha,A5,D2,E7]
theorem dX:∃m,pc Q W6 []=some (sl m 4 (wX.map Jz)):=by
 suffices h:∃v,pc Q W6 []=some v/\∃q:Bool×Bool,v=sl q 4 (wX.map Jz) by
  obtain⟨v,h1,q,rfl⟩:=h;exact⟨q,h1⟩
 have g0:GT 4 [] (.vs true 0 []) ⟨[[.vs true 0 []]],[]⟩:=Gu _ _;obtain⟨v1,F1,c1,g1⟩:=Cc 1 2 2 (bs [112,97,105,114]) _ _ _ g0 (by simp);obtain⟨v2,F2,c2,g2⟩:=Cc 1 2 2 (bs [101,110,99]) _ _ _ g1 (by simp);obtain⟨v3,F3,c3,g3⟩:=Cc 1 2 2 (bs [97,101,110,99]) _ _ _ g2 (by simp);obtain⟨v4,F4,c4,g4⟩:=Cc 1 1 1 (bs [112,107]) _ _ _ g3 (by simp);obtain⟨v5,F5,c5,g5⟩:=Cc 1 2 2 (bs [115,105,103,110]) _ _ _ g4 (by simp);obtain⟨v6,F6,c6,g6⟩:=Cc 1 1 1 (bs [104,97,115,104]) _ _ _ g5 (by simp);obtain⟨v7,F7,c7,g7⟩:=Cc 1 2 8 (bs [120,111,114]) _ _ _ g6 (by simp);obtain⟨v8,F8,c8,g8⟩:=Cc 1 0 0 (bs [122,101,114,111]) _ _ _ g7 (by simp);obtain⟨v9,F9,c9,g9⟩:=Cc 1 2 2 (bs [101,120,112]) _ _ _ g8 (by simp);obtain⟨v10,F10,c10,g10⟩:=Cc 1 2 8 (bs [109,117,108]) _ _ _ g9 (by simp);obtain⟨v11,F11,c11,g11⟩:=Cc 1 1 1 (bs [105,110,118]) _ _ _ g10 (by simp);obtain⟨v12,F12,c12,g12⟩:=Cc 1 0 0 (bs [111,110,101]) _ _ _ g11 (by simp);obtain⟨v13,F13,c13,g13⟩:=Cc 2 1 1 (bs [115,107]) _ _ _ g12 (by simp);obtain⟨v14,F14,c14,g14⟩:=Cc 2 2 2 (bs [115,104,107]) _ _ _ g13 (by simp);obtain⟨v15,F15,c15,g15⟩:=Cc 2 1 8 (bs [110,101,119]) _ _ _ g14 (by simp);obtain⟨v16,F16,c16,g16⟩:=Cc 3 1 1 (bs [102,115,116]) _ _ _ g15 (by simp);obtain⟨v17,F17,c17,g17⟩:=Cc 3 1 1 (bs [115,110,100]) _ _ _ g16 (by simp);obtain⟨v18,F18,c18,g18⟩:=Cc 3 2 2 (bs [100,101,99]) _ _ _ g17 (by simp);obtain⟨v19,F19,c19,g19⟩:=Cc 3 2 2 (bs [97,100,101,99]) _ _ _ g18 (by simp);obtain⟨v20,F20,c20,g20⟩:=Cc 3 2 2 (bs [111,112,101,110]) _ _ _ g19 (by simp);obtain⟨v21,F21,c21,g21⟩:=Cc 3 1 1 (bs [114,101,97,100]) _ _ _ g20 (by simp);have hg:GT 4 (wX.map Jz) v21 ⟨[[v21]],F21⟩:=g21;clear g0 g1 g2 g3 g4 g5 g6 g7 g8 g9 g10 g11 g12 g13 g14 g15 g16 g17 g18 g19 g20 g21;obtain⟨m,hz⟩:=QW hg;obtain⟨d1,d2,d3⟩:=y7 hg;refine Nt (C:=Q) ((SF _).trans rfl) ((Oe _).trans Qr) (by simp[GB]) λΨ hΨ fr hl ha=>?_;rw[WC];clear ha;simp[GB]at hl ;simp[GB,hl,hz,d3,c1,c2,c3,c4,c5,c6,c7,c8,c9,c10,c11,c12,c13,c14,c15,c16,c17,c18,c19,c20,c21];exact hΨ _ ⟨m,rfl⟩
abbrev Sy:=ByteArray×Int×Int×Int
@[simp] theorem sd (x:Sy):(Jz x).cells=[.str x.1,.int .i64 x.2.1,.int .i64 x.2.2.1,.int .i64 x.2.2.2]:=rfl
@[simp] theorem sf (x:Sy):(Jz x).isTup=false:=rfl
theorem aI (m:J3) (l:List Sy) (nm:I3) (B8:l.length<=1048576) (fr:Fr) (h:AH) (hh:h.boxes=[(Jz zS).cells]) (hl:fr.length=18) (h0:A0 fr 0=.str nm) (h2:A0 fr 2=.ptr 0 0) (h5:A0 fr 5=sl m 4 (l.map Jz)) (h6:A0 fr 6=.int .i64 l.length) (h7:A0 fr 7=.int .i64 0) :
  B9 (lp (A3 (L5 Q) (E5 EC) AJ) (fr,h)) λe C6 h'=>Kp AJ.wr fr C6/\(e=.exit 0/\(∃B,h'.boxes=(Jz zS).cells::B)/\l.find? (λx=>decide (x.1=nm))=none\/e=.ret/\∃x B,h'.boxes=(Jz x).cells::B/\l.find? (λx=>decide (x.1=nm))=some x):=by
 refine B5 rfl fr (λn fr h'=>∃(i:Nat),i+n=l.length/\A0 fr 7=.int .i64 (i:Nat)/\((∃B,h'.boxes=(Jz zS).cells::B)/\(l.drop i).find? (λx=>decide (x.1=nm))=l.find? λx=>decide (x.1=nm))) ?_ l.length h ⟨0,by omega,h7,⟨[],hh⟩,rfl⟩;rintro J Φ hJ hΦ n E1 H1 K ⟨i,hi,k7,hr⟩;have A6:=K.1.trans hl;have k0:=A9 K 0 h0;have k2:=A9 K 2 h2;have k5:=A9 K 5 h5;have k6:=A9 K 6 h6;clear K;by_cases A7:i<l.length
 .have Q6:=D1 i (by omega);obtain⟨⟨B,hB⟩,hr⟩:=hr;obtain⟨bx,F⟩:=H1;simp only at hB;subst hB;have hx:=G0 (f:=Jz) (List.getElem?_eq_getElem A7);rw[A0C A7,List.find?_cons]at hr;clear hh;generalize l[i]=s at *
  obtain⟨s1,s2,s3,s4⟩:=s;by_cases hc:s1=nm
  .subst hc;simp only[decide_true]at hr;simp only[Jz]at hx;simp[AJ,A6,k0,k2,k5,k6,k7,A7,hx,Jz,zS];exact hΦ _ _ _ (.inr ⟨rfl,(s1,s2,s3,s4),_,rfl,hr.symm⟩)
  .simp only[hc,decide_false]at hr;simp only[Jz]at hx;simp[AJ,A6,k0,k5,k6,k7,A7,Q6,hx,Jz,zS,hc];exact G8 hJ ⟨i+1,by omega,by simp[A6],⟨_,rfl⟩,hr⟩
 .obtain⟨⟨B,hB⟩,hr⟩:=hr;rw[A0E (by omega)]at hr;simp[AJ,A6,k6,k7,A7];exact hΦ _ _ _ (.inl ⟨rfl,⟨B,hB⟩,hr.symm⟩)
theorem Wu (nm:I3):pc Q EC [.str nm]=some (Jz (OU nm)):=by
 obtain⟨m,hS⟩:=dX;refine M2 KS λfr hl h0=>?_;simp[KS]at hl h0;simp[KS,hl,hS];refine B9.mono (aI m wX nm (by decide) _ _ ?_ ?_ ?_ ?_ ?_ ?_ ?_) ?_<;>first|(simp[hl,h0,Jz,zS];done)|skip
 rintro e E1 ⟨bx,F⟩ ⟨K,⟨rfl,⟨B,hB⟩,hf⟩|⟨rfl,x,B,hB,hf⟩⟩
 .simp only at hB;subst hB;have J5:E1.length=18:=K.1.trans (by simp[hl]);have GG:A0 E1 2=.ptr 0 0:=A9 K 2 (by simp[hl]);clear K;simp[J5,GG,Jz,zS,D2,E7];simp[OU,hf,zS]
 .simp only at hB;subst hB;have J5:E1.length=18:=K.1.trans (by simp[hl]);have GG:A0 E1 2=.ptr 0 0:=A9 K 2 (by simp[hl]);clear K;simp[GG,Jz];simp[OU,hf]
def ME (nm:ByteArray):Int:=(OU nm).2.2.2
def Nd (nm:ByteArray) (n:Int):Bool:=decide ((OU nm).2.1<=n)&&decide (n<=(OU nm).2.2.1)
def MI (t:Tm):Bool:=decide (t.kind=3)||decide (t.sort≠1)
def Yr (nm:ByteArray) (l:List Tm):Int :=
 if nm=bs [115,107]\/nm=bs [115,104,107]then (if l.any MI=true then 10 else 0)
 else if nm=bs [110,101,119]then (match l with | []=>0|a::_=>if a.kind=2 then 0 else 10)else 0
mutual
def Tv:Tm->Int
 | .mk k nm _ _ l=>if k≠3 then 0 else if ME nm=0 then 10 else if Nd nm l.length=false then 6 else if Yr nm l≠0 then Yr nm l else OV l
def OV:List Tm->Int
 | []=>0
 |t::l=>if Tv t≠0 then Tv t else OV l
end
theorem XI (t:Tm) (l:I6):OV (t::l)=if Tv t≠0 then Tv t else OV l:=rfl
theorem oc (m:J3) (l:I6) (B8:l.length<=1099511627776) (fr:Fr) (h:AH) (hl:fr.length=74) (h38:A0 fr 38=sl m 4 (A4 l)) (h39:A0 fr 39=.int .i64 l.length) (h40:A0 fr 40=.int .i64 0) :
  B9 (lp (A3 (L5 Q) (E5 w7) r8) (fr,h)) λe C6 h'=>Kp r8.wr fr C6/\(e=.exit 1/\(∃B,h'.boxes=h.boxes++B)/\l.any MI=false\/e=.ret/\A0 C6 2=.int .i64 10/\l.any MI=true):=by
 refine B5 rfl fr (λn fr h'=>∃(i:Nat),i+n=l.length/\A0 fr 40=.int .i64 (i:Nat)/\((∃B,h'.boxes=h.boxes++B)/\(l.drop i).any MI=l.any MI)) ?_ l.length h ⟨0,by omega,h40,⟨[],by simp⟩,rfl⟩;rintro J Φ hJ hΦ n E1 H1 K ⟨i,hi,k40,hr⟩;have A6:=K.1.trans hl;have k38:=A9 K 38 h38;have k39:=A9 K 39 h39;clear K;by_cases A7:i<l.length
 .have Q6:=D1 i (by omega);obtain⟨⟨B,hB⟩,hr⟩:=hr;obtain⟨bx,F⟩:=H1;simp only at hB;have hx:=N6 A7;rw[A0C A7,List.any_cons]at hr;generalize l[i]=s at *
  by_cases hc:MI s=true
  .rw[hc,Bool.true_or]at hr;by_cases hk:s.kind=3
   .simp[r8,A6,k38,k39,k40,A7,hx,hk];exact hΦ _ _ _ (.inr ⟨rfl,by simp[A6],hr.symm⟩)
   .have hs:s.sort≠1:=by simpa[MI,hk]using hc
    simp[r8,A6,k38,k39,k40,A7,hx,hk,hs];exact hΦ _ _ _ (.inr ⟨rfl,by simp[A6],hr.symm⟩)
  .simp only[MI,Bool.or_eq_true,decide_eq_true_eq,not_or,ne_eq,Decidable.not_not]at hc;have hn:MI s=false:=by simp[MI,hc]
   rw[hn,Bool.false_or]at hr;have hk:=hc.1;have hs:=hc.2;clear hc hn;simp[r8,A6,k38,k39,k40,A7,Q6,hx,hk,hs];exact G8 hJ ⟨i+1,by omega,by simp[A6],⟨B++[[.int .i64 s.kind,.str s.name,.int .i64 1,sl s.cm 4 (A4 s.kids)]],by simp[hB]⟩,hr⟩
 .obtain⟨⟨B,hB⟩,hr⟩:=hr;rw[A0E (by omega)]at hr;simp[r8,A6,k39,k40,A7];exact hΦ _ _ _ (.inl ⟨rfl,⟨B,hB⟩,hr.symm⟩)
theorem Zx (m:J3) (l:I6) (B8:l.length<=1099511627776) (IH:∀t∈l,pc Q w7 [B7 t]=some (.int .i64 (Tv t))) (fr:Fr) (h:AH) (hl:fr.length=74) (h62:A0 fr 62=sl m 4 (A4 l)) (h63:A0 fr 63=.int .i64 l.length) (h64:A0 fr 64=.int .i64 0) :
  B9 (lp (A3 (L5 Q) (E5 w7) At) (fr,h)) λe C6 h'=>Kp At.wr fr C6/\(e=.exit 3/\OV l=0\/e=.ret/\A0 C6 2=.int .i64 (OV l)):=by
 refine B5 rfl fr (λn fr h'=>∃(i:Nat),i+n=l.length/\A0 fr 64=.int .i64 (i:Nat)/\(OV (l.drop i)=OV l)) ?_ l.length h ⟨0,by omega,h64,rfl⟩;rintro J Φ hJ hΦ n E1 H1 K ⟨i,hi,k64,hr⟩;have A6:=K.1.trans hl;have k62:=A9 K 62 h62;have k63:=A9 K 63 h63;clear K;by_cases A7:i<l.length
 .have Q6:=D1 i (by omega);have hx:=N6 A7;have hI:=IH l[i] (A0B A7);rw[A0C A7,XI]at hr;obtain⟨bx,F⟩:=H1;generalize l[i]=s at *
  by_cases hc:Tv s=0
  .rw[if_neg (by simp[hc])]at hr;rw[hc]at hI;simp[At,A6,k62,k63,k64,A7,Q6,hx,hI];exact G8 hJ ⟨i+1,by omega,by simp[A6],hr⟩
  .rw[if_pos hc]at hr;simp[At,A6,k62,k63,k64,A7,hx,hI,hc];exact hΦ _ _ _ (.inr ⟨rfl,by simp[A6,hr]⟩)
 .rw[A0E (by omega)]at hr;simp[At,A6,k63,k64,A7];exact hΦ _ _ _ (.inl ⟨rfl,hr.symm⟩)
theorem lT {n:Nat} (h:Nd (bs [110,101,119]) n=true):1<=n:=by
 have e:(OU (bs [110,101,119])).2.1=1:=by decide
 simp only[Nd,e,A0P,decide_eq_true_eq]at h;omega
theorem mg (t:Tm) (h:t.kind≠3):Tv t=0:=by
 obtain⟨k,nm,s,m,l⟩:=t;have h:k≠3:=h;rw[Tv,if_pos h]
theorem fo {k:Int} {nm:I3} {s:Int} {m:J3} {l:I6} (h:k=3):Tv (.mk k nm s m l)=if ME nm=0 then 10 else if Nd nm l.length=false then 6 else if Yr nm l≠0 then Yr nm l else OV l:=by
 rw[Tv,if_neg (by simp[h])]
theorem ic:∀(n:Nat) (t:Tm),t.size<=n->t.size<=1099511627776->pc Q w7 [B7 t]=some (.int .i64 (Tv t)):=by
 intro n
 induction n with
 |zero=>intro t h;have:=t.size_pos;omega
 |succ n ih =>
  intro t hn hb;obtain⟨k,nm,s,m,kids⟩:=t;have I9:Tm.size (.mk k nm s m kids)=1+Tm.sizes kids:=rfl;have B8:=Tm.length_le kids;have hS:=Wu nm;have hlp0:=Zx m kids (by omega) (λt ht=>ih t (by have:=Tm.size_le ht;omega) (by have:=Tm.size_le ht;omega));have hlp1:=oc m kids (by omega);clear ih;by_cases hk:k=3
  .subst hk;rw[fo rfl];by_cases hkd:ME nm=0
   .rw[if_pos hkd];simp only[ME]at hkd;generalize OU nm=q at *
    obtain⟨q1,q2,q3,q4⟩:=q;simp only[Jz]at hS hkd;refine M2 G5 λfr hl h0=>?_;simp[G5,B7]at hl h0;simp[G5,hl,h0,hS,hkd]
   .rw[if_neg hkd];by_cases hf:Nd nm kids.length=false
    .rw[if_pos hf];simp only[ME]at hkd;simp only[Nd]at hf;generalize OU nm=q at *
     obtain⟨q1,q2,q3,q4⟩:=q;simp only[Jz]at hS hkd hf;refine M2 G5 λfr hl h0=>?_;simp[G5,B7]at hl h0;by_cases h2:(kids.length:Int)<q2
     .simp[G5,hl,h0,hS,hkd,h2]
     .have h3:q3<(kids.length:Int):=by
       rw[Bool.and_eq_false_iff]at hf;rcases hf with hf|hf
       .simp only[decide_eq_false_iff_not]at hf;omega
       .simp only[decide_eq_false_iff_not]at hf;omega
      simp[G5,hl,h0,hS,hkd,h2,h3]
    .have hf':Nd nm kids.length=true:=by simpa using hf
     rw[if_neg hf];have hnf:=@lT kids.length;have Cl:¬((kids.length:Int)<(OU nm).2.1)/\¬((OU nm).2.2.1<(kids.length:Int)):=by
      simp only[Nd,A0P,decide_eq_true_eq]at hf';omega
     obtain⟨hf1,hf2⟩:=Cl;have Dz:nm=bs [110,101,119]->1<=kids.length:=λe=>hnf (by rw[←e];exact hf');clear hf hf' hnf;simp only[ME]at hkd;generalize OU nm=q at *
     obtain⟨q1,q2,q3,q4⟩:=q;simp only[Jz]at hS hkd hf1 hf2;by_cases hsk:nm=bs [115,107]\/nm=bs [115,104,107]
     .have hag:Yr nm kids=if kids.any MI=true then 10 else 0:=by unfold Yr;rw[if_pos hsk]
      rw[hag];clear Dz hag;generalize kids.any MI=b at hlp1 ⊢;have hmain:∀(nm':ByteArray),nm'=nm->(nm'=bs [115,107]\/nm'≠bs [115,107]/\nm'=bs [115,104,107])->pc Q w7 [B7 (.mk 3 nm s m kids)]=some (.int .i64 (if (if b=true then (10:Int)else 0)≠0 then if b=true then 10 else 0 else OV kids)):=by
       intro nm' e hn2;subst e;refine M2 G5 λfr hl h0=>?_;simp[G5,B7]at hl h0;rcases hn2 with hn2|⟨hn1,hn2⟩
       .subst hn2;simp[G5,hl,h0,hS,hkd,hf1,hf2];refine B9.mono (hlp1 _ _ ?_ ?_ ?_ ?_) ?_<;>first|(simp[hl];done)|skip
        rintro e V8 ⟨bx,F⟩ ⟨K,⟨rfl,⟨B,hB⟩,ha⟩|⟨rfl,k2,ha⟩⟩
        .simp only at hB;subst hB;have GI:V8.length=74:=K.1.trans (by simp[hl]);have k1:A0 V8 1=.ptr 0 0:=A9 K 1 (by simp[hl]);clear K;simp[GI,k1,ha];refine B9.mono (hlp0 _ _ ?_ ?_ ?_ ?_) ?_<;>first|(simp[GI];done)|skip
         rintro e fr3 h3 ⟨K,⟨rfl,he⟩|⟨rfl,h2⟩⟩
         .have hl3:fr3.length=74:=K.1.trans (by simp[GI]);simp[hl3,he]
         .simp[h2]
        .simp[k2,ha]
       .subst hn2;simp[G5,hl,h0,hS,hkd,hf1,hf2,hn1];refine B9.mono (hlp1 _ _ ?_ ?_ ?_ ?_) ?_<;>first|(simp[hl];done)|skip
        rintro e V8 ⟨bx,F⟩ ⟨K,⟨rfl,⟨B,hB⟩,ha⟩|⟨rfl,k2,ha⟩⟩
        .simp only at hB;subst hB;have GI:V8.length=74:=K.1.trans (by simp[hl]);have k1:A0 V8 1=.ptr 0 0:=A9 K 1 (by simp[hl]);clear K;simp[GI,k1,ha];refine B9.mono (hlp0 _ _ ?_ ?_ ?_ ?_) ?_<;>first|(simp[GI];done)|skip
         rintro e fr3 h3 ⟨K,⟨rfl,he⟩|⟨rfl,h2⟩⟩
         .have hl3:fr3.length=74:=K.1.trans (by simp[GI]);simp[hl3,he]
         .simp[h2]
        .simp[k2,ha]
      refine hmain nm rfl ?_;by_cases h1:nm=bs [115,107]
      .exact .inl h1
      .exact .inr ⟨h1,hsk.resolve_left h1⟩
     .have hsk1:nm≠bs [115,107]:=λe=>hsk (.inl e);have hsk2:nm≠bs [115,104,107]:=λe=>hsk (.inr e);by_cases hn1:nm=bs [110,101,119]
      .have HH:=Dz hn1;subst hn1;cases kids with
       |nil=>simp at HH
       |cons a kids =>
        have hag:Yr (bs [110,101,119]) (a::kids)=if a.kind=2 then 0 else 10:=by unfold Yr;rw[if_neg hsk,if_pos rfl]
        rw[hag];have hx:Jb (A4 (a::kids)) 0=some (B7 a):=N6 (l:=a::kids) (i:=0) (by simp);generalize a::kids=kids' at *
        by_cases ha:a.kind=2
        .refine M2 G5 λfr hl h0=>?_;simp[G5,B7]at hl h0;simp[G5,hl,h0,hS,hkd,hf1,hf2,hsk1,hsk2,hx,ha];refine B9.mono (hlp0 _ _ ?_ ?_ ?_ ?_) ?_<;>first|(simp[hl];done)|skip
         rintro e fr3 h3 ⟨K,⟨rfl,he⟩|⟨rfl,h2⟩⟩
         .have hl3:fr3.length=74:=K.1.trans (by simp[hl]);simp[hl3,he]
         .simp[h2]
        .refine M2 G5 λfr hl h0=>?_;simp[G5,B7]at hl h0;simp[G5,hl,h0,hS,hkd,hf1,hf2,hsk1,hsk2,hx,ha]
      .have hag:Yr nm kids=0:=by unfold Yr;rw[if_neg hsk,if_neg hn1]
       rw[hag];refine M2 G5 λfr hl h0=>?_;simp[G5,B7]at hl h0;simp[G5,hl,h0,hS,hkd,hf1,hf2,hsk1,hsk2,hn1];refine B9.mono (hlp0 _ _ ?_ ?_ ?_ ?_) ?_<;>first|(simp[hl];done)|skip
       rintro e fr3 h3 ⟨K,⟨rfl,he⟩|⟨rfl,h2⟩⟩
       .have hl3:fr3.length=74:=K.1.trans (by simp[hl]);simp[hl3,he]
       .simp[h2]
  .rw[mg (.mk k nm s m kids) hk];refine M2 G5 λfr hl h0=>?_;simp[G5,B7]at hl h0;simp[G5,hl,h0,hk]
def vE (t:Tm):Int:=if Q4 t≠0 then Q4 t else Tv t
theorem LK (t:Tm) (hb:t.size<=1099511627776):pc Q FJ [B7 t]=some (.int .i64 (vE t)):=by
 have h1:=Fs t hb;have h2:=ic _ t (A0A _) hb;unfold vE;by_cases hv:Q4 t=0
 .rw[if_neg (by simp[hv])];rw[hv]at h1;refine M2 DR λfr hl h0=>?_;simp[DR]at hl h0;simp[DR,hl,h0,h1,h2]
 .rw[if_pos hv];refine M2 DR λfr hl h0=>?_;simp[DR]at hl h0;simp[DR,hl,h0,h1,hv]
def Ax:List ByteArray:=[bs [112,97,105,114],bs [101,110,99],bs [97,101,110,99],bs [112,107],bs [115,105,103,110],bs [104,97,115,104],bs [115,107],bs [115,104,107]]
def jl (t:Tm):Prop:=∀x∈GW t,x.kind=3->x.name∈Ax
theorem jl.kid {t x:Tm} (h:jl t) (hx:x∈t.kids):jl x:=λy hy=>h y (by
 rw[Cp,K6];exact List.mem_cons_of_mem _ (List.mem_flatMap.2 ⟨x,hx,hy⟩))
theorem jl.name {t:Tm} (h:jl t) (hk:t.kind=3):t.name∈Ax:=h t (by rw[Cp];exact List.mem_cons_self) hk
theorem RP {nm:I3} (h:nm∈Ax):nm≠bs [102,115,116]/\nm≠bs [115,110,100]/\nm≠bs [100,101,99]/\nm≠bs [97,100,101,99]/\nm≠bs [111,112,101,110]/\nm≠bs [114,101,97,100]/\nm≠bs [120,111,114]/\nm≠bs [109,117,108]/\nm≠bs [105,110,118]/\nm≠bs [111,110,101]/\nm≠bs [101,120,112]/\nm≠bs [122,101,114,111]/\nm≠bs [110,101,119]/\ME nm≠3/\ME nm≠0:=by
 have:∀nm∈Ax,nm≠bs [102,115,116]/\nm≠bs [115,110,100]/\nm≠bs [100,101,99]/\nm≠bs [97,100,101,99]/\nm≠bs [111,112,101,110]/\nm≠bs [114,101,97,100]/\nm≠bs [120,111,114]/\nm≠bs [109,117,108]/\nm≠bs [105,110,118]/\nm≠bs [111,110,101]/\nm≠bs [101,120,112]/\nm≠bs [122,101,114,111]/\nm≠bs [110,101,119]/\ME nm≠3/\ME nm≠0:=by decide
 exact this nm h
theorem aA (m:J3) (l:I6) (nm:I3) (C0 C1:G1) (B8:l.length<=1048576) (IH:∀t∈l,∃t',pc Q d7 [B7 t]=some (.tup [B7 t',.int .i64 0])/\E8 t'=E8 t) (fr:Fr) (h:AH) (hh:h.boxes=[C0,C1,[.int .i64 3,.str nm,.int .i64 0,.vs true 0 []]]) (hl:fr.length=90) (h2:A0 fr 2=.ptr 1 0) (h4:A0 fr 4=.ptr 2 0) (h19:A0 fr 19=sl m 4 (A4 l)) (h20:A0 fr 20=.int .i64 l.length) (h21:A0 fr 21=.int .i64 0) :
  B9 (lp (A3 (L5 Q) (E5 d7) CU) (fr,h)) λe C6 h'=>Kp CU.wr fr C6/\e=.exit 0/\∃(B:List (List AV)) (v:AV) (done:List Tm),h'.boxes=C0::C1::[.int .i64 3,.str nm,.int .i64 0,v]::B/\GT 4 (A4 done) v h'/\H2 done=H2 l:=by
 refine B5 rfl fr (λn fr h'=>∃(i:Nat),i+n=l.length/\A0 fr 21=.int .i64 (i:Nat)/\(∃(B:List (List AV)) (v:AV) (done:List Tm),h'.boxes=C0::C1::[.int .i64 3,.str nm,.int .i64 0,v]::B/\GT 4 (A4 done) v h'/\H2 done=H2 (l.take i)/\done.length=i)) ?_ l.length h ⟨0,by omega,h21,[],_,[],hh,Gu _ _,by simp[H2],rfl⟩;rintro J Φ hJ hΦ n E1 H1 K ⟨i,hi,k21,hr⟩;have A6:=K.1.trans hl;have k2:=A9 K 2 h2;have k4:=A9 K 4 h4;have k19:=A9 K 19 h19;have k20:=A9 K 20 h20;clear K;by_cases A7:i<l.length
 .have Q6:=D1 i (by omega);obtain⟨B,v,done,hB,hg,hd,DX⟩:=hr;obtain⟨bx,F⟩:=H1;simp only at hB;subst hB;have hx:=N6 A7;obtain⟨t',hI,ht⟩:=IH l[i] (A0B A7);have hda:(A4 done).length=done.length:=by rw[D6,A0K]
  obtain⟨v',⟨bx',F'⟩,ha,f7,Qz⟩:=Gv (c:=E5 d7) (bytes:=56) (x:=B7 t') (h:=⟨C0::C1::[.int .i64 3,.str nm,.int .i64 0,v]::(B++[(B7 l[i]).cells]++[(B7 t').cells]),F⟩) (GU hg rfl) rfl (true,true) (by omega) (by omega);have e2:H2 (done++[t'])=H2 (l.take (i+1)):=by
   rw[List.take_succ_eq_append_getElem A7,E3,A0D,←E3,hd,E3,E3,A0D,A0H,A0S,A0H,A0S,ht]
  have hg2:GT 4 (A4 (done++[t'])) v' ⟨bx',F'⟩:=by rw[o8];exact f7
  clear ht hd hh;generalize l[i]=s at *
  simp only at Qz;subst Qz;simp only[L0,List.append_assoc,List.singleton_append]at ha;obtain⟨c1,c2,-⟩:=y7 f7;simp[CU,A6,k4,k19,k20,k21,A7,Q6,hx,hI,A5,ha,c1,c2];exact G8 hJ ⟨i+1,by omega,by simp[A6],_,v',done++[t'],rfl,GU hg2 rfl,e2,by simp[DX]⟩
 .obtain⟨B,v,done,hB,hg,hd,DX⟩:=hr;obtain⟨bx,F⟩:=H1;simp only at hB;subst hB;rw[List.take_of_length_le (by omega)]at hd;simp[CU,A6,k20,k21,A7];exact hΦ _ _ _ ⟨rfl,B,v,done,rfl,hg,hd⟩
theorem lU {k:Int} {nm:I3} {s:Int} {n:Nat} (h:r9 k s nm n=0) (hk:k=3):s=0:=by
 subst hk;unfold r9 at h;by_cases hs:s=0
 .exact hs
 .rw[if_pos (.inr (.inl ⟨rfl,hs⟩))]at h;exact absurd h (by decide)
theorem ik:∀(n:Nat) (t:Tm),t.size<=n->t.size<=1048576->jl t->I7 t=0->∃t',pc Q d7 [B7 t]=some (.tup [B7 t',.int .i64 0])/\E8 t'=E8 t:=by
 intro n
 induction n with
 |zero=>intro t h;have:=t.size_pos;omega
 |succ n ih =>
  intro t hn hb hf kY
  suffices h:∃v,pc Q d7 [B7 t]=some v/\∃t',v=.tup [B7 t',.int .i64 0]/\E8 t'=E8 t by
   obtain⟨v,h1,t',rfl,h2⟩:=h;exact⟨t',h1,h2⟩
  obtain⟨k,nm,s,m,kids⟩:=t;have I9:Tm.size (.mk k nm s m kids)=1+Tm.sizes kids:=rfl;have B8:=Tm.length_le kids;obtain⟨hno1,hno2⟩:=Z2 kY;have KB:=aA m kids nm [.int .i64 k,.str nm,.int .i64 s,sl m 4 (A4 kids)] [.int .i64 0,.str (bs []),.int .i64 0,.vs true 0 []] (by omega) (λt ht=>ih t (by have:=Tm.size_le ht;omega) (by have:=Tm.size_le ht;omega) (hf.kid ht) (O1 hno2 t ht));clear ih;by_cases hk:k=3
  .obtain⟨n1,n2,n3,n4,n5,n6,n7,n8,n9,n10,n11,-⟩:=RP (hf.name hk);simp only[Tm.name]at n1 n2 n3 n4 n5 n6 n7 n8 n9 n10 n11;have hs0:=lU hno1 hk;subst hk hs0;refine HL By λΨ hΨ fr hl h0=>?_;simp[By,B7]at hl h0;simp[By,hl,h0,D2,E7];refine B9.mono (KB _ _ ?_ ?_ ?_ ?_ ?_ ?_ ?_) ?_<;>first|(simp[hl];done)|skip
   rintro e E1 ⟨bx,F⟩ ⟨K,rfl,B,v,done,hB,hg,hd⟩;simp only at hB;subst hB;have J5:E1.length=90:=K.1.trans (by simp[hl]);have Ey:A0 E1 1=.ptr 0 0:=A9 K 1 (by simp[hl]);have GG:A0 E1 2=.ptr 1 0:=A9 K 2 (by simp[hl]);have LC:A0 E1 4=.ptr 2 0:=A9 K 4 (by simp[hl]);clear K;obtain⟨mm,hz⟩:=OZ hg;obtain⟨c1,c2,c3⟩:=y7 hg;simp[J5,Ey,GG,LC,hz,n1,n2,n3,n4,n5,n6,n7,n8,n9,n10,n11];exact hΨ _ ⟨.mk 3 nm 0 mm done,rfl,by simp[E8,hd]⟩
  .refine HL By λΨ hΨ fr hl h0=>?_;simp[By,B7]at hl h0;simp[By,hl,h0,hk];exact hΨ _ ⟨.mk k nm s m kids,rfl,rfl⟩
mutual
theorem aO:∀t:Tm,I7 (E8 t)=I7 t
 | .mk k nm s m l=>by rw[E8,I7,I7,Wg l,E3,A0K]
theorem Wg:∀l:List Tm,R2 (H2 l)=R2 l
 | []=>rfl
 |t::l=>by rw[H2,R2,R2,aO t,Wg l]
end
mutual
theorem kM:∀t:Tm,Hp (E8 t)=Hp t
 | .mk k nm s m l=>by rw[E8,Hp,Hp,eX l]
theorem eX:∀l:List Tm,Ev (H2 l)=Ev l
 | []=>rfl
 |t::l=>by rw[H2,Ev,Ev,kM t,eX l]
end
theorem Va (t:Tm):Q4 (E8 t)=Q4 t:=by
 unfold Q4;rw[aO,Hq _ t (A0A _),kM]
theorem jc {a b:Tm} (h:E8 a=E8 b):Q4 a=Q4 b:=by rw[←Va a,h,Va b]
theorem VP {a b:Tm} (h:E8 a=E8 b):a.size=b.size:=by rw[←Hq _ a (A0A _),h,Hq _ b (A0A _)]
theorem Gk {t:Tm} (h:vE t=0):Q4 t=0/\Tv t=0:=by
 unfold vE at h;by_cases hv:Q4 t=0
 .rw[if_neg (by simp[hv])]at h;exact⟨hv,h⟩
 .rw[if_pos hv]at h;exact absurd h hv
theorem Kd {t:Tm} (h:Q4 t=0):I7 t=0/\t.size<=400:=by
 unfold Q4 at h;by_cases hv:I7 t=0
 .rw[if_neg (by simp[hv])]at h;refine⟨hv,?_⟩;by_cases hs:400<t.size\/40<Hp t
  .rw[if_pos hs]at h;exact absurd h (by decide)
  .omega
 .rw[if_pos hv]at h;exact absurd h hv
theorem iW (t:Tm) (hf:jl t) (hv:vE t=0):∃t',pc Q KH [B7 t]=some (.tup [B7 t',.int .i64 0])/\E8 t'=E8 t:=by
 obtain⟨hv1,hv2⟩:=Gk hv;obtain⟨kY,hs⟩:=Kd hv1;obtain⟨t',hN,he⟩:=ik _ t (A0A _) (by omega) hf kY;have h1:=LK t (by omega);have h2:=Fs t' (by rw[VP he];omega);rw[hv]at h1;rw[jc he,hv1]at h2;refine⟨t',?_,he⟩;refine M2 KQ λfr hl h0=>?_;simp[KQ]at hl h0;simp[KQ,hl,h0,h1,hN,h2]
theorem iX (nm:I3) (h:nm∈Ax):pc Q Ao [.str nm]=some (.bool true):=by
 have hS:=Wu nm;obtain⟨-,-,-,-,-,-,-,-,-,-,-,-,-,hk,-⟩:=RP h;unfold ME at hk;generalize OU nm=q at *
 obtain⟨q1,q2,q3,q4⟩:=q;simp only[Jz]at hS hk;refine M2 JN λfr hl h0=>?_;simp[JN]at hl h0;simp[JN,hl,h0,hS,hk]
theorem cv (m:J3) (l:I6) (B8:l.length<=1048576) (IH:∀t∈l,pc Q BF [B7 t,.fn Ao []]=some (.bool true)) (fr:Fr) (h:AH) (hl:fr.length=29) (h1:A0 fr 1=.fn Ao []) (h18:A0 fr 18=sl m 4 (A4 l)) (h19:A0 fr 19=.int .i64 l.length) (h20:A0 fr 20=.int .i64 0) :
  B9 (lp (A3 (L5 Q) (E5 BF) DT) (fr,h)) λe C6 h'=>Kp DT.wr fr C6/\e=.exit 0:=by
 refine B5 rfl fr (λn fr h'=>∃(i:Nat),i+n=l.length/\A0 fr 20=.int .i64 (i:Nat)/\True) ?_ l.length h ⟨0,by omega,h20,trivial⟩;rintro J Φ hJ hΦ n E1 H1 K ⟨i,hi,k20,hr⟩;have A6:=K.1.trans hl;have k1:=A9 K 1 h1;have k18:=A9 K 18 h18;have k19:=A9 K 19 h19;clear K;by_cases A7:i<l.length
 .have Q6:=D1 i (by omega);have hx:=N6 A7;have hI:=IH l[i] (A0B A7);obtain⟨bx,F⟩:=H1;generalize l[i]=s at *
  simp[DT,A6,k1,k18,k19,k20,A7,Q6,hx,hI];exact G8 hJ ⟨i+1,by omega,by simp[A6],trivial⟩
 .simp[DT,A6,k19,k20,A7];exact hΦ _ _ _ rfl
theorem lk:∀(n:Nat) (t:Tm),t.size<=n->t.size<=1048576->jl t->pc Q BF [B7 t,.fn Ao []]=some (.bool true):=by
 intro n
 induction n with
 |zero=>intro t h;have:=t.size_pos;omega
 |succ n ih =>
  intro t hn hb hf;have I9:=t.kids_size;have B8:=Tm.length_le t.kids;have KB:=cv t.cm t.kids (by omega) (λt' ht=>by have:=Tm.size_le ht;exact ih t' (by omega) (by omega) (hf.kid ht));clear ih;by_cases hk:t.kind=3
  .have hP:=iX t.name (hf.name hk);have hag:AV.agg [.int .i64 3,.str t.name,.int .i64 t.sort,sl t.cm 4 (A4 t.kids)]=B7 t:=by rw[←hk];exact Yk t
   refine O2 DS λfr hl h0 h1=>?_;simp[DS]at hl h0 h1;simp[DS,hl,h0,h1,hk,hP];refine B9.mono (KB _ _ ?_ ?_ ?_ ?_ ?_) ?_<;>first|(simp[hl,h1];done)|skip
   rintro e E1 Ei ⟨K,rfl⟩;have A6:E1.length=29:=K.1.trans (by simp[hl]);simp[A6]
  .refine O2 DS λfr hl h0 h1=>?_;simp[DS]at hl h0 h1;simp[DS,hl,h0,hk];refine B9.mono (KB _ _ ?_ ?_ ?_ ?_ ?_) ?_<;>first|(simp[hl,h1];done)|skip
   rintro e E1 Ei ⟨K,rfl⟩;have A6:E1.length=29:=K.1.trans (by simp[hl]);simp[A6]
theorem jD (a b:Tm) (h:a.size<=1099511627776) (h':b.size<=1099511627776):pc Q Mb [B7 a,B7 b]=some (.bool (KZ a b)):=by
 have hC:=m9 _ a b (A0A _) h h';refine O2 Mv λfr hl h0 h1=>?_;simp[Mv]at hl h0 h1;simp[Mv,hl,h0,h1,hC,KZ]
theorem rE {a b:Tm} (h:E8 a=E8 b):KZ a b=true:=by
 unfold KZ;rw[Bz.2 h];rfl
theorem lg (t:Tm) (hf:jl t) (hv:vE t=0):pc Q LH [B7 t]=some (.bool true):=by
 obtain⟨kY,hs⟩:=Kd (Gk hv).1;obtain⟨t',hN,he⟩:=iW t hf hv;have hS:=jD t' t (by rw[VP he];omega) (by omega);rw[rE he]at hS;have hE:=lk _ t (A0A _) (by omega) hf;refine M2 Li λfr hl h0=>?_;simp[Li]at hl h0;simp[Li,hl,h0,hN,hS,hE]
end Go.Abs.Q
