/- A part of the proof. -/
import Derived.Test.YtohjdamplbhdpaaGreatDoorSO17
import Derived.KernelRfl
import Derived.Shelf.SlSortCmp.NoneTotal
import Derived.Test.YtohjdamplbhdpaaGreatDoorProg
import Derived.Laws.CopyRow
import Derived.Laws.Externs
import Derived.Deep.AppendSrc
import Derived.Lib.AppendZerosOnto
set_option linter.all false
open List renaming getElem?_eq_some_iff->A0Q,getElem?_eq_getElem->A0R,getElem?_cons_zero->A0T,map_cons->A0U,getElem?_cons_succ->A0V,getElem_cons_succ->A0W,getElem_cons_zero->A0X,getElem_toArray->A0Y,take_succ_eq_append_getElem->A0a,drop_succ_cons->A0b,take_succ_cons->A0c,length_append->A0d,getElem?_map->A0e,length_singleton->A0f,map_nil->A0g,length_cons->A0i,length_take->A0j,getElem?_range->A0k,length_map->A0l,drop_zero->A0m,take_zero->A0n,take_of_length_le->A0o,filter_cons->A0p,map_append->A0q,mem_cons_of_mem->A0r,mem_singleton->A0t,getD_eq_getElem?_getD->A0u,mem_map->A0v,mem_append->A0y,append_eq_nil_iff->A0z,length_filter_le->A01,mem_map_of_mem->A03,getElem?_drop->A05,getElem?_take->A06,mem_cons_self->A07,any_eq_true->A09,getElem_mem->A1A,mem_range->A1C,all_cons->A1D,mem_cons->A1E,sum_cons->A1F,range->A1K
open Option renaming map_some->A0S
open Nat renaming le_refl->A0Z,min_eq_left->A0s,sub_zero->A0w,zero_le->A00,mul_le_mul_right->A02,add_assoc->A1G,add_zero->A1H,zero_mul->A1I,add_mul->A1J
open Array renaming getD_eq_getD_getElem?->A0h
open Bool renaming eq_iff_iff->A0x,false_eq_true->A04,and_eq_true->A08,or_eq_true->A1B
namespace Go.Abs.Q
open Go.Proofs
attribute [local simp] E1 E5 fin J7 G4 O2 L3 P2 P1
inductive Kn (S U:List Tm):Tm->Prop
 |base (e:Tm) (h:e∈S.map E3):Kn S U e
 |step (T:List Tm) (h:∀e,e∈T.map E3->Kn S U e) (u:Tm) (hu:u∈U) (hs:Dj T u=true):Kn S U (E3 u)
def iB (T S:List Tm):Prop:=∀e,e∈T.map E3->e∈S.map E3
theorem VC {T S:G7} (h:iB T S) {x:Tm} (hx:J8 T x=true):J8 S x=true:=V1.2 (h _ (V1.1 hx))
theorem WT {a b c d:Tm} (h:E3 a=E3 c) (k:E3 b=E3 d):JK a b=JK c d:=by
 unfold JK;rw[A0x,decide_eq_true_iff,decide_eq_true_iff,V0,V0,h,k]
theorem Lr {a b:Tm} (h:E3 a=E3 b) (nm:J2):AP a nm=AP b nm:=by
 obtain⟨h1,h2,-⟩:=MP h;unfold AP;rw[h1,h2]
theorem Et {a b:Tm} (h:E3 a=E3 b) (i:Nat):E3 (J9 a i)=E3 (J9 b i):=by
 obtain⟨-,-,-,h4⟩:=MP h;rw[E4,E4]at h4;have:∀l:List Tm,E3 (l.getD i gr)=(l.map E3).getD i (E3 gr):=by
  intro l;rw[A0u,A0u,A0e];cases l[i]?<;>rfl
 unfold J9;rw[this,this,h4]
theorem vF {a b:Tm} (h:E3 a=E3 b):(JI a).map E3=(JI b).map E3:=by
 unfold JI;rw[Lr h,Lr h,Lr (Et h 1)];by_cases h1:AP b (bs [101,110,99])=true
 .rw[if_pos h1,if_pos h1,A0S,A0S,Et h]
 .rw[if_neg h1,if_neg h1];by_cases h2:(AP b (bs [97,101,110,99])&&AP (J9 b 1) (bs [112,107]))=true
  .rw[if_pos h2,if_pos h2,A0S,A0S,Et (Et h 1)]
  .rw[if_neg h2,if_neg h2]
theorem jS {T S:G7} (h:iB T S) {u t t':Tm} (he:E3 t=E3 t') (ho:Qh T u t=true):Qh S u t'=true:=by
 unfold Qh at ho ⊢;rw[←Lr he,←Lr he];have e0:JK (J9 t' 0) u=JK (J9 t 0) u:=WT (Et he 0).symm rfl;have e1:JK (J9 t' 1) u=JK (J9 t 1) u:=WT (Et he 1).symm rfl;rw[e0,e1];by_cases h1:AP t (bs [112,97,105,114])=true
 .rw[if_pos h1]at ho ⊢;exact ho
 .rw[if_neg h1]at ho ⊢;by_cases h2:AP t (bs [115,105,103,110])=true
  .rw[if_pos h2]at ho ⊢;exact ho
  .rw[if_neg h2]at ho ⊢;have hk:=vF he;cases hk1:JI t with
   |none=>rw[hk1]at ho;cases ho
   |some k =>
    rw[hk1]at ho hk;cases hk2:JI t' with
    |none=>rw[hk2]at hk;cases hk
    |some k' =>
     rw[hk2,A0S,A0S,Option.some.injEq]at hk;simp only[A08]at ho ⊢;refine⟨ho.1,?_⟩;rw[←WW hk];exact VC h ho.2
theorem Th {T S:G7} (h:iB T S) {u:Tm} (hs:Dj T u=true):Dj S u=true:=by
 unfold Dj at hs ⊢;rw[A1B,A1B]at hs ⊢;rcases hs with (hs|hs)|hs
 .exact .inl (.inl hs)
 .refine .inl (.inr ?_);unfold Fm at hs ⊢;rw[A08]at hs ⊢;refine⟨hs.1,?_⟩;rw[List.all_eq_true]at hs ⊢;exact λx hx=>VC h (hs.2 x hx)
 .refine .inr ?_;unfold Md at hs ⊢;obtain⟨t,ht,ho⟩:=A09.1 hs;obtain⟨t',ht',e⟩:=A0v.1 (h _ (A03 ht));exact A09.2 ⟨t',ht',jS h e.symm ho⟩
def gh (T U:List Tm):Nat:=(U.filter λu=>!J8 T u).length
theorem ZX {α:Type} {p q:α->Bool}:∀{l:List α},(∀x∈l,q x=true->p x=true)->(∃x∈l,p x=true/\q x=false)->(l.filter q).length<(l.filter p).length
 | [],_,⟨x,hx,_⟩=>absurd hx List.not_mem_nil
 |a::l,h,⟨x,hx,hp,hq⟩=>by
  have PL:∀{l:List α},(∀x∈l,q x=true->p x=true)->(l.filter q).length<=(l.filter p).length:=by
   intro l
   induction l with
   |nil=>intro _;exact A0Z _
   |cons a l ih =>
    intro h;have:=ih λx hx=>h x (A0r _ hx);rw[A0p,A0p];by_cases ha:q a=true
    .rw[if_pos ha,if_pos (h a A07 ha)];simp only[A0i];omega
    .rw[if_neg ha];by_cases hb:p a=true
     .rw[if_pos hb];simp only[A0i];omega
     .rw[if_neg hb];exact this
  have h':∀x∈l,q x=true->p x=true:=λx hx=>h x (A0r _ hx);rw[A0p,A0p];rcases A1E.1 hx with rfl|hx
  .rw[if_pos hp,if_neg (by simp[hq])];have:=PL h';simp only[A0i];omega
  .have:=ZX h' ⟨x,hx,hp,hq⟩;by_cases ha:q a=true
   .rw[if_pos ha,if_pos (h a A07 ha)];simp only[A0i];omega
   .rw[if_neg ha];by_cases hb:p a=true
    .rw[if_pos hb];simp only[A0i];omega
    .rw[if_neg hb];exact this
theorem yg {T T' U:G7} {u:Tm} (h:∀e,e∈T'.map E3↔e=E3 u\/e∈T.map E3) (hu:u∈U) (hn:J8 T u=false):gh T' U<gh T U:=by
 refine ZX (λx _ hx=>?_) ⟨u,hu,by simp[hn],?_⟩
 .simp only[Bool.not_eq_true']at hx ⊢;rw[Bool.eq_false_iff]at hx ⊢;exact λk=>hx (VC (λe he=>(h e).2 (.inr he)) k)
 .have:J8 T' u=true:=V1.2 ((h _).2 (.inl rfl));simp[this]
structure ClS (S U T:List Tm):Prop where
 srt:X9 T
 ok:∀x∈T,OkT x
 kn:∀e,e∈T.map E3->Kn S U e
 sub:iB S T
 len:T.length+gh T U<=S.length+U.length
theorem nK (m:I7) (S U T:G7) (hb:S.length+U.length<=1048576) (hU:∀x∈U,OkT x) (hT:ClS S U T) (fr:Fr) (h:AH) (h0:∃mT,A0 fr 0=sl mT 4 (A4 T)) (h5:A0 fr 5=.bool false) (hl:fr.length=29) (h9:A0 fr 9=sl m 4 (A4 U)) (h10:A0 fr 10=.int .i64 U.length) (h11:A0 fr 11=.int .i64 0) :
  B7 (lp (A2 (K8 Q) (D6 S2) N1) (fr,h)) λe C4 h'=>Kp N1.wr fr C4/\(e=.exit 2/\∃(T':List Tm) (mT:Bool×Bool) (c:Bool),A0 C4 0=sl mT 4 (A4 T')/\A0 C4 5=.bool c/\ClS S U T'/\(c=true/\gh T' U<gh T U\/c=false/\T'=T/\∀u∈U,J8 T u=true\/Dj T u=false)):=by
 refine B4 rfl fr (λn fr h'=>∃(i:Nat),i+n=U.length/\A0 fr 11=.int .i64 (i:Nat)/\(∃(T':List Tm) (mT:Bool×Bool) (c:Bool),A0 fr 0=sl mT 4 (A4 T')/\A0 fr 5=.bool c/\ClS S U T'/\(c=true/\gh T' U<gh T U\/c=false/\T'=T/\∀u∈U.take i,J8 T u=true\/Dj T u=false))) ?_ U.length h ⟨0,by omega,h11,T,h0.choose,false,h0.choose_spec,h5,hT,.inr ⟨rfl,rfl,λu hu=>(nomatch hu)⟩⟩;rintro J Φ hJ hΦ n D5 H1 K ⟨i,hi,k11,hr⟩;have A6:=K.1.trans hl;have k9:=A8 K 9 h9;have k10:=A8 K 10 h10;clear K;by_cases A7:i<U.length
 .have L4:=C6 i (by omega);obtain⟨T',mT,c,k0,k5,hC,hc⟩:=hr;have hx:=H9 A7;have KI:=A1A A7;have ho:=hU _ KI;have hs2:∀x∈T',x.size<=1099511627776:=λx hx=>by have:=(hC.ok x hx).size;omega
  have hTl:T'.length<=1048576:=by have:=hC.len;omega
  have hH:=Kg mT T' U[i] hC.srt (by omega) hs2 (by have:=ho.size;omega);have htk:∀u∈U.take (i+1),u∈U.take i\/u=U[i]:=λu hu=>by
   rw[A0a A7]at hu;rcases A0y.1 hu with h|h
   .exact .inl h
   .exact .inr (A0t.1 h)
  obtain⟨bx,F⟩:=H1;by_cases hh:J8 T' U[i]=true
  .have hc':c=true/\gh T' U<gh T U\/c=false/\T'=T/\∀u∈U.take (i+1),J8 T u=true\/Dj T u=false:=by
    rcases hc with hc|⟨c1,c2,c3⟩
    .exact .inl hc
    .refine .inr ⟨c1,c2,λu hu=>?_⟩;rcases htk u hu with h|h
     .exact c3 u h
     .rw[h,←c2];exact .inl hh
   rw[hh]at hH;clear htk hc;generalize U[i]=s at *
   simp[N1,A6,k9,k10,k11,A7,L4,k0,hx,hH];exact E9 hJ ⟨i+1,by omega,by simp[A6],T',mT,c,by simp[k0],by simp[k5],hC,hc'⟩
  .have hh':J8 T' U[i]=false:=by simpa using hh
   have hS:=vj mT T' hC.srt hTl hC.ok U[i] ho hh';rw[hh']at hH;by_cases Hg:Dj T' U[i]=true
   .obtain⟨T2,m2,hW,w1,w2,w3,w4⟩:=vk mT T' U[i] hC.srt hTl hs2 (by have:=ho.size;omega) hh';have hlt2:=yg w2 KI hh';have hC2:ClS S U T2:=⟨w1,λx hx=>by
      rcases w3 x hx with rfl|hx
      .exact ho
      .exact hC.ok x hx,λe he=>by
      rcases (w2 e).1 he with rfl|he
      .exact .step T' hC.kn _ KI Hg
      .exact hC.kn e he,λe he=>(w2 e).2 (.inr (hC.sub e he)),by have:=hC.len;omega⟩
    have hlt3:gh T2 U<gh T U:=by
     rcases hc with ⟨-,hc⟩|⟨-,rfl,-⟩
     .omega
     .exact hlt2
    rw[Hg]at hS;clear htk hc;generalize U[i]=s at *
    simp[N1,A6,k9,k10,k11,A7,L4,k0,hx,hH,hS,hW];exact E9 hJ ⟨i+1,by omega,by simp[A6],T2,m2,true,by simp[A6],by simp[A6],hC2,.inl ⟨rfl,hlt3⟩⟩
   .have hst':Dj T' U[i]=false:=by simpa using Hg
    have hc':c=true/\gh T' U<gh T U\/c=false/\T'=T/\∀u∈U.take (i+1),J8 T u=true\/Dj T u=false:=by
     rcases hc with hc|⟨c1,c2,c3⟩
     .exact .inl hc
     .refine .inr ⟨c1,c2,λu hu=>?_⟩;rcases htk u hu with h|h
      .exact c3 u h
      .rw[h,←c2];exact .inr hst'
    rw[hst']at hS;clear htk hc;generalize U[i]=s at *
    simp[N1,A6,k9,k10,k11,A7,L4,k0,hx,hH,hS];exact E9 hJ ⟨i+1,by omega,by simp[A6],T',mT,c,by simp[k0],by simp[k5],hC,hc'⟩
 .obtain⟨T',mT,c,k0,k5,hC,hc⟩:=hr;rw[A0o (by omega)]at hc;simp[N1,A6,k10,k11,A7];exact hΦ _ _ _ ⟨rfl,T',mT,c,by simp[k0],by simp[k5],hC,hc⟩
theorem mP {S U T:G7} (hC:ClS S U T) (GJ:∀u∈U,J8 T u=true\/Dj T u=false) {e:Tm} (h:Kn S U e):e∈T.map E3:=by
 induction h with
 |base e h=>exact hC.sub e h
 |step T0 _ u hu hs ih =>
  rcases GJ u hu with h|h
  .exact V1.1 h
  .rw[Th ih hs]at h;cases h
theorem Xs (m mu:I7) (S U:G7) (hb:S.length+U.length<=524288) (hS:X9 S) (hSo:∀x∈S,OkT x) (hU:∀x∈U,OkT x) :
  ∃(R:List Tm) (m':Bool×Bool),pc Q S2 [sl m 4 (A4 S),sl mu 4 (A4 U)]=some (sl m' 4 (A4 R))/\X9 R/\(∀x∈R,OkT x)/\R.length<=1048576/\∀e,e∈R.map E3↔Kn S U e:=by
 suffices h:∃v,pc Q S2 [sl m 4 (A4 S),sl mu 4 (A4 U)]=some v/\∃q:List Tm×(Bool×Bool),v=sl q.2 4 (A4 q.1)/\X9 q.1/\(∀x∈q.1,OkT x)/\q.1.length<=1048576/\∀e,e∈q.1.map E3↔Kn S U e by
  obtain⟨v,h1,q,rfl,h2⟩:=h;exact⟨q.1,q.2,h1,h2⟩
 have hunk:gh S U<=U.length:=A01 _ _;have h0C:ClS S U S:=⟨hS,hSo,λe he=>.base e he,λe he=>he,by omega⟩;refine Sp EH λΨ hΨ fr hl h0 h1=>?_;simp[EH]at hl h0 h1;simp[EH];refine(B4 (Ψ:=λe C4 h'=>e=.exit 0/\∃(T:List Tm) (mT:Bool×Bool),A0 C4 0=sl mT 4 (A4 T)/\ClS S U T/\∀u∈U,J8 T u=true\/Dj T u=false) rfl _
  (λn C4 h'=>∃(T:List Tm) (mT:Bool×Bool) (c:Bool),A0 C4 0=sl mT 4 (A4 T)/\A0 C4 5=.bool c/\ClS S U T/\(c=true/\n=gh T U+1\/c=false/\∀u∈U,J8 T u=true\/Dj T u=false)) ?_ (gh S U+1) _
  ⟨S,m,true,by simp[h0],by simp[hl],h0C,.inl ⟨rfl,rfl⟩⟩).mono ?_
 .rintro J Φ hJ hΦ n D5 H1 K ⟨T,mT,c,k0,k5,hC,hc⟩;have A6:D5.length=29:=K.1.trans (by simp[hl]);have k1:=A8 K 1 (by simp[h1]:_=sl mu 4 (A4 U));clear K h0 h1;rcases hc with ⟨rfl,rfl⟩|⟨rfl,GJ⟩
  .simp[CN,A6,k5,k1];refine B7.mono (nK mu S U T (by omega) hU hC _ _ ⟨mT,?_⟩ ?_ ?_ ?_ ?_ ?_) ?_<;>first|(simp[A6,k0];done)|skip
   rintro e R1 h2 ⟨K,rfl,T',mT',c,k0',k5',hC',hc'⟩;simp;rcases hc' with ⟨rfl,A7⟩|⟨rfl,rfl,GJ⟩
   .exact⟨gh T' U+1,by omega,hJ _ _ _ ⟨T',mT',true,k0',k5',hC',.inl ⟨rfl,rfl⟩⟩⟩
   .exact⟨0,by omega,hJ _ _ _ ⟨T',mT',false,k0',k5',hC',.inr ⟨rfl,GJ⟩⟩⟩
  .simp[CN,A6,k5];exact hΦ _ _ _ ⟨rfl,T,mT,by simp[k0],hC,GJ⟩
 .rintro e D5 Cv ⟨K,rfl,T,mT,k0,hC,GJ⟩;have A6:D5.length=29:=K.1.trans (by simp[hl]);simp[A6,k0];exact hΨ _ ⟨(T,mT),rfl,hC.srt,hC.ok,by have:=hC.len;change T.length<=_;omega,λe=>⟨hC.kn e,mP hC GJ⟩⟩
theorem Hu {S S' U U':G7} (hS:∀e,e∈S.map E3->e∈S'.map E3) (hU:∀e,e∈U.map E3->e∈U'.map E3) {e:Tm} (h:Kn S U e):Kn S' U' e:=by
 induction h with
 |base e h=>exact .base e (hS e h)
 |step T _ u hu hs ih =>
  obtain⟨u',hu',e⟩:=A0v.1 (hU _ (A03 hu));rw[←e];refine .step T ih u' hu' ?_;have e1:OF u'=OF u:=by
   obtain⟨q1,q2,q3,-⟩:=MP e;unfold OF;rw[q1,q2,q3]
  have e2:Fm T u'=Fm T u:=by
   obtain⟨q1,q2,-,q4⟩:=MP e;unfold Fm EF;rw[q1,q2];congr 1;have:∀l l':List Tm,H4 l=H4 l'->l.all (J8 T)=l'.all (J8 T):=by
    intro l
    induction l with
    |nil=>intro l' h;cases l' with
     |nil=>rfl
     |cons a l'=>simp[H4]at h
    |cons a l ih=>intro l' h;cases l' with
     |nil=>simp[H4]at h
     |cons b l' =>
      simp only[H4,List.cons.injEq]at h;rw[A1D,A1D,WW h.1,ih _ h.2]
   exact this _ _ q4
  have e3:Md T u'=Md T u:=by
   unfold Md;congr 1;funext t;unfold Qh;rw[WT (a:=J9 t 0) rfl e,WT (a:=J9 t 1) rfl e]
  unfold Dj at hs ⊢;rw[e1,e2,e3];exact hs
def WH (k:List Tm) (t:Tm):Prop:=Kn k (alls (k++[t])) (E3 t)
open Classical in
noncomputable def xU (k:List Tm) (t:Tm) (n:Nat):AV:=if 60<k.length\/200<n then .tup [.bool false,.int .i64 3]else .tup [.bool (decide (WH k t)),.int .i64 0]
open Classical in
theorem cB (m:I7) (k:G7) (t:Tm) (hk:∀x∈k,GoodT x) (ht:GoodT t) (Do:k.length<=1048576) :
  ∃U:List Tm,pc Q R3 [sl m 4 (A4 k),B9 t]=some (xU k t U.length)/\(k.length<=60->K7 U (alls (k++[t]))):=by
 obtain⟨U,mu,hU,hU2⟩:=Vw m (true,true) k [t] hk (λx hx=>by rw[A0t.1 hx];exact ht) Do (A0Z _);rw[show A4 [t]=[B9 t] from rfl]at hU;refine⟨U,?_,λh=>(hU2 h).1⟩;unfold Yc at hU;unfold xU;by_cases hc:60<k.length\/200<U.length
 .rw[if_pos hc]at hU ⊢;refine O9 W3 λfr hl h0 h1=>?_;simp[W3]at hl h0 h1;simp[W3,hl,h0,h1,hU,A5]
 .rw[if_neg hc]at hU ⊢;obtain⟨Z8,-⟩:=hU2 (by omega);have Ds:∀x∈k++[t],OkT x:=λx hx=>by
   rcases A0y.1 hx with h|h
   .exact(hk x h).ok
   .rw[A0t.1 h];exact ht.ok
  have hUo:=OkT.set Z8 (OkT.alls Ds);obtain⟨S,ms,hS,hSset,hSsub,hSl⟩:=YD m k (λx hx=>by have:=(hk x hx).size;omega) Do;obtain⟨R,mr,hC,hRs,hRo,hRl,hRk⟩:=Xs ms mu S U (by omega) hSset.1 (λx hx=>(hk x (hSsub x hx)).ok) hUo;have hH:=Kg mr R t hRs (by omega) (λx hx=>by have:=(hRo x hx).size;omega) (by have:=ht.size;omega);have he:J8 R t=decide (WH k t):=by
   rw[A0x,V1,hRk,decide_eq_true_iff];exact⟨Hu (λe=>(hSset.2 e).1) (λe=>(Z8.2 e).1),Hu (λe=>(hSset.2 e).2) (λe=>(Z8.2 e).2)⟩
  rw[he]at hH;generalize decide (WH k t)=b at *
  refine O9 W3 λfr hl h0 h1=>?_;simp[W3]at hl h0 h1;simp[W3,hl,h0,h1,hU,hS,hC,hH,A5]
end Go.Abs.Q
namespace Go.Abs
def KL (wr:Bool) (sz:Nat) (xs:List AV) (v:AV) (h:AH):Prop:=(∃b,v=sl (true,b) sz xs)\/(xs≠[]/\∃k,v=.sl k xs.length 0 xs.length/\h.fams[k]?=some ⟨xs,sz,wr⟩)
theorem WO (wr:Bool) (sz:Nat) (h:AH):KL wr sz [] (.vs true 0 []) h:=.inl ⟨false,by simp[sl]⟩
theorem qL (wr:Bool) (sz:Nat) (xs:G3) (b:Bool) (h:AH):KL wr sz xs (sl (true,b) sz xs) h:=.inl ⟨b,rfl⟩
theorem I4 {wr:Bool} {sz:Nat} {xs:G3} {v:AV} {h h':AH} (hg:KL wr sz xs v h) (e:h'.fams=h.fams):KL wr sz xs v h':=by
 rcases hg with hg|⟨h1,k,h2,h3⟩
 .exact .inl hg
 .exact .inr ⟨h1,k,h2,by rw[e];exact h3⟩
theorem Nw {c:Ctx} {sz bytes:Nat} {xs ys:G3} {v x:AV} {h:AH} (hg:KL c.mutApp sz xs v h) (hx:AR h sz x=some ys) (hb:(xs.length+ys.length)*bytes<=H2/\xs.length+ys.length<=maxLen) :
  ∃v' F',K1 c h sz bytes v x=some (v',⟨h.boxes,F'⟩)/\KL c.mutApp sz (xs++ys) v' ⟨h.boxes,F'⟩/\∀j,j<h.fams.length->(∀n o l,v≠.sl j n o l)->F'[j]?=h.fams[j]?:=by
 rcases hg with ⟨b,rfl⟩|⟨P0,k,rfl,hk⟩
 .simp only[sl,K1,hx];by_cases hy:ys.length=0
  .rw[if_pos hy];have:ys=[]:=List.eq_nil_of_length_eq_zero hy;subst this;exact⟨_,h.fams,rfl,.inl ⟨b,by simp[sl]⟩,λ_ _ _=>rfl⟩
  .rw[if_neg hy];have hc:((if (xs.isEmpty&&!b)=true then 0 else sz)=sz\/xs.length=0)/\(xs.length+ys.length)*bytes<=H2/\xs.length+ys.length<=maxLen:=by
    refine⟨?_,hb⟩;cases xs with
    |nil=>exact .inr rfl
    |cons a l=>exact .inl rfl
   rw[if_pos hc];refine⟨_,_,rfl,.inr ⟨by intro e;rw[A0z]at e;rw[e.2]at hy;exact hy rfl,h.fams.length,by rw[A0d],by simp⟩,λj hj _=>List.getElem?_append_left hj⟩
 .simp only[K1,hx,hk];rw[if_pos ⟨trivial,trivial,by omega,hb.1,hb.2⟩];have Do:=(A0Q.1 hk).1;refine⟨_,_,rfl,.inr ⟨by intro e;rw[A0z]at e;exact P0 e.1,k,by rw[A0d],by simp[Do]⟩,λj hj hv=>?_⟩;have:k≠j:=λe=>hv _ _ _ (by rw[e]);exact List.getElem?_set_ne this
theorem ar {wr:Bool} {sz:Nat} {xs:G3} {v:AV} {h:AH} (hg:KL wr sz xs v h):∃m:Bool×Bool,∀(B:List (List AV)) (am:Bool),(am||!wr)=true->KH ⟨B,h.fams⟩ am v=some (sl m sz xs)/\Ej ⟨B,h.fams⟩ am v=some (sl m sz xs):=by
 rcases hg with ⟨b,rfl⟩|⟨P0,k,rfl,hk⟩
 .exact⟨(true,b),λB am _=>⟨rfl,rfl⟩⟩
 .have he:xs.isEmpty=false:=by cases xs with
   |nil=>exact absurd rfl P0
   |cons a l=>rfl
  refine⟨(false,true),λB am ha=>?_⟩;have:Ej ⟨B,h.fams⟩ am (.sl k xs.length 0 xs.length)=some (sl (false,true) sz xs):=by
   simp only[Ej,hk];rw[if_pos ⟨trivial,by omega,ha⟩];simp[sl,he]
  exact⟨this,this⟩
theorem Pg {wr:Bool} {sz:Nat} {xs:G3} {v:AV} {h:AH} (hg:KL wr sz xs v h):∃m:Bool×Bool,∀B:List (List AV),DX ⟨B,h.fams⟩ v=some (sl m sz xs):=by
 obtain⟨m,hm⟩:=ar hg;refine⟨m,λB=>?_⟩;have:=(hm B true rfl).1;rcases hg with ⟨b,rfl⟩|⟨_,k,rfl,_⟩<;>exact this
theorem dQ {sz:Nat} {xs:G3} {v:AV} {h:AH} (hg:KL false sz xs v h) (B:List (List AV)):CM ⟨B,h.fams⟩ v=true:=by
 rcases hg with ⟨b,rfl⟩|⟨P0,k,rfl,hk⟩
 .rfl
 .show (match h.fams[k]? with|some f=>!f.wr|none=>false)=true
  rw[hk];rfl
theorem SJ {wr:Bool} {sz:Nat} {xs:G3} {v:AV} {h:AH} (hg:KL wr sz xs v h):v.isTup=false/\v.cells=[v]/\Es [v]=false/\PS v=true:=by
 rcases hg with ⟨b,rfl⟩|⟨_,k,rfl,_⟩<;>exact⟨rfl,rfl,rfl,rfl⟩
theorem mB {wr:Bool} {sz:Nat} {xs:G3} {v:AV} {h:AH} (hg:KL wr sz xs v h) (B:List (List AV)):AR ⟨B,h.fams⟩ sz v=some xs:=by
 rcases hg with ⟨b,rfl⟩|⟨P0,k,rfl,hk⟩
 .exact M9 _ _ _ _
 .simp[AR,hk]
theorem RR {h h':AH} {v:AV} {r:Option (AV×AH)} (hr:r=some (v,h')) (hv:PS v=true) (hb:∃B,h'.boxes=h.boxes++B):XQ true h r=some (v,⟨h.boxes,h'.fams⟩):=by
 obtain⟨B,hB⟩:=hb;obtain⟨bx,F⟩:=h';simp only at hB;subst hB;rw[hr];exact kpB_d h v B F hv
end Go.Abs
namespace Go.Abs.Q
open Go.Proofs
attribute [local simp] E1 E5 fin J7 G4 O2 L3 P2 P1
def KU (l:List Tm) (t:Tm):List Tm:=if l.any (λu=>JK t u)=true then l else l++[t]
theorem dY (l:G7) (t:Tm):(KU l t).length<=l.length+1/\l.length<=(KU l t).length:=by
 unfold KU;split
 .omega
 .rw[A0d];simp
theorem dZ {l:G7} {t x:Tm} (h:x∈KU l t):x∈l\/x=t:=by
 unfold KU at h;split at h
 .exact .inl h
 .rcases A0y.1 h with h|h
  .exact .inl h
  .exact .inr (by simpa using h)
theorem kT (l:G7) (t:Tm):(l.any λu=>JK t u)=J8 l t:=by
 unfold J8;congr 1;funext u;unfold JK;rw[A0x,decide_eq_true_iff,decide_eq_true_iff,V0,V0];exact⟨Eq.symm,Eq.symm⟩
open Classical in
noncomputable def mH (l:List Tm) (t:Tm):List Tm:=if t∈l then l else l++[t]
theorem uR (l:G7) (t:Tm):(KU l t).map E3=mH (l.map E3) (E3 t):=by
 unfold KU mH;rw[kT];by_cases h:J8 l t=true
 .rw[if_pos h,if_pos (V1.1 h)]
 .rw[if_neg h,if_neg (λk=>h (V1.2 k)),A0q];rfl
theorem vW (t u:Tm) (ht:t.size<=1099511627776) (hu:u.size<=1099511627776):pc Q Mc [B9 u,.pv (B9 t).cells]=some (.bool (JK t u)):=by
 have hC:=j7 _ t u (A0Z _) ht hu;refine O9 QZ λfr hl h0 h1=>?_;simp[QZ]at hl h0 h1;simp[QZ,hl,h0,h1,hC,JK]
theorem tM (acc:G7) (v:AV) (h:AH) (hg:KL false 4 (A4 acc) v h) (t:Tm) (hl:acc.length<=1048576) (hs:∀x∈acc,x.size<=1099511627776) (ht:t.size<=1099511627776) :
  ∃v' h',rc Q Y1 [v,B9 t] h=some (v',h')/\KL false 4 (A4 (KU acc t)) v' h'/\∃B,h'.boxes=h.boxes++B:=by
 obtain⟨m,hf⟩:=ar hg;have htm:=dQ hg;have hC:=QD m acc Mc [.pv (B9 t).cells] (λu=>JK t u) rfl hl (λh x=>by simp) (λh=>rfl) rfl (λx hx=>vW t x ht (hs x hx));obtain⟨bx,F⟩:=h;have hF:=λB=>(hf B true rfl).1;simp only at hF htm;have e2:A4 (acc++[t])=A4 acc++[B9 t]:=P8 acc t;have hap:∀B,∃v' F',K1 (D6 Y1) ⟨B,F⟩ 4 56 v (sl (true,true) 4 [B9 t])=some (v',⟨B,F'⟩)/\KL false 4 (A4 acc++[B9 t]) v' ⟨B,F'⟩:=λB=>by
  obtain⟨v',F',a1,a2,_⟩:=Nw (c:=D6 Y1) (bytes:=56) (x:=sl (true,true) 4 [B9 t]) (ys:=[B9 t]) (h:=⟨B,F⟩) (I4 hg rfl) (M9 _ _ _ _) (by simp only[H2,maxLen,D0,A0l,A0f];omega);exact⟨v',F',a1,a2⟩
 obtain⟨va,Fa,ha,hLa⟩:=hap (bx++[[.rbox (B9 t).cells]]);simp only[I1]at hC;unfold KU;cases hb:acc.any (λu=>JK t u)with
 |true =>
  rw[hb]at hC;simp only[if_true];refine Hl LA λfr hl h0 h1=>?_;simp[LA]at hl h0 h1;simp[LA,hl,h0,h1,Bs,hF,htm,hC];exact I4 hg rfl
 |false =>
  rw[hb]at hC;simp only[A04,if_false];rw[e2];simp only[I1]at ha hLa;refine Hl LA λfr hl h0 h1=>?_;simp[LA]at hl h0 h1;simp[LA,hl,h0,h1,Bs,hF,htm,hC,A5,ha];exact hLa
theorem UV (acc:G7) (v:AV) (h:AH) (hg:KL false 4 (A4 acc) v h) (t:Tm) (hl:acc.length<=1048576) (hs:∀x∈acc,x.size<=1099511627776) (ht:t.size<=1099511627776) :
  ∃v' F',XQ true h (rc Q Y1 [v,B9 t] h)=some (v',⟨h.boxes,F'⟩)/\KL false 4 (A4 (KU acc t)) v' ⟨h.boxes,F'⟩:=by
 obtain⟨v',h',h1,h2,h3⟩:=tM acc v h hg t hl hs ht;exact⟨v',h'.fams,RR h1 (SJ h2).2.2.2 h3,I4 h2 rfl⟩
end Go.Abs.Q
namespace Go.Abs.Q
open Go.Proofs
attribute [local simp] E1 E5 fin J7 G4 O2 L3 P2 P1
def Hv (a:ByteArray):Tm:=.mk 2 a 1 (true,false) []
theorem xF (a:J2):AV.agg [.int .i64 2,.str a,.int .i64 1,sl (true,false) 4 []]=B9 (Hv a):=by simp[Hv,B9,A4]
def Uy (nm:ByteArray) (m:Bool×Bool) (l:List Tm):Tm:=.mk 3 nm 0 m l
theorem qY (nm:J2) (m:I7) (l:G7):AV.agg [.int .i64 3,.str nm,.int .i64 0,sl m 4 (A4 l)]=B9 (Uy nm m l):=rfl
theorem Xo (a:J2):pc Q HN [.str a]=some (B9 (Hv a)):=by
 rw[←xF];refine H5 Qa λfr hl h0=>?_;simp[Qa]at hl h0;simp[Qa,hl,h0,D2,E6];exact l9 _ rfl _ _
theorem Xp (nm:J2) (m:I7) (l:G7):pc Q Ax [.str nm,sl m 4 (A4 l)]=some (B9 (Uy nm m l)):=by
 rw[←qY];refine O9 Tl λfr hl h0 h1=>?_;simp[Tl]at hl h0 h1;simp[Tl,hl,h0,h1,D2,E6]
theorem Wd (a:J2) (s:Int):pc Q Ew [.str a,.int .i64 s]=some (B9 (.mk 2 a s (true,false) [])):=by
 have e:B9 (.mk 2 a s (true,false) [])=.agg [.int .i64 2,.str a,.int .i64 s,sl (true,false) 4 []]:=by simp[B9,A4]
 rw[e];refine O9 QO λfr hl h0 h1=>?_;simp[QO]at hl h0 h1;simp[QO,hl,h0,h1,D2,E6];exact l9 _ rfl _ _
theorem VJ (a:J2):pc Q IE [.str a]=some (B9 (Hv a)):=by
 have hA:=Wd a 1;change pc Q Ew _=some (B9 (Hv a))at hA;refine H5 Ot λfr hl h0=>?_;simp[Ot]at hl h0;simp[Ot,hl,h0,hA]
def tr (l:List Tm) (t:Tm):List Tm:=if J8 l t=true then l else l++[t]
theorem tt (l:G7) (t:Tm):tr l t=KU l t:=by
 unfold tr KU;rw[kT]
theorem tI (acc:G7) (v:AV) (h:AH) (hg:KL false 4 (A4 acc) v h) (t:Tm) (hl:acc.length<=1048576) (hs:∀x∈acc,x.size<=1099511627776) (ht:t.size<=1099511627776) :
  ∃v' h',rc Q AG [v,B9 t] h=some (v',h')/\KL false 4 (A4 (KU acc t)) v' h'/\∃B,h'.boxes=h.boxes++B:=by
 obtain⟨m,hf⟩:=ar hg;have htm:=dQ hg;have hC:=sI m acc t (by omega) hs ht;obtain⟨bx,F⟩:=h;have hF:=λB=>(hf B true rfl).1;simp only at hF htm;have e2:A4 (acc++[t])=A4 acc++[B9 t]:=P8 acc t;obtain⟨va,Fa,ha,hLa,-⟩:=Nw (c:=D6 AG) (bytes:=56) (x:=sl (true,true) 4 [B9 t]) (ys:=[B9 t]) (h:=⟨bx++[(B9 t).cells],F⟩) (I4 hg rfl) (M9 _ _ _ _) (by simp only[H2,maxLen,D0,A0l,A0f];omega);rw[←tt];unfold tr;cases hb:J8 acc t with
 |true =>
  rw[hb]at hC;simp only[if_true];refine Hl Ha λfr hl h0 h1=>?_;simp[Ha]at hl h0 h1;simp[Ha,hl,h0,h1,hF,htm,hC];exact I4 hg rfl
 |false =>
  rw[hb]at hC;simp only[A04,if_false];rw[e2];simp only[I1]at ha hLa;refine Hl Ha λfr hl h0 h1=>?_;simp[Ha]at hl h0 h1;simp[Ha,hl,h0,h1,hF,htm,hC,A5,ha];exact hLa
theorem lZ (acc:G7) (v:AV) (h:AH) (hg:KL false 4 (A4 acc) v h) (t:Tm) (hl:acc.length<=1048576) (hs:∀x∈acc,x.size<=1099511627776) (ht:t.size<=1099511627776) :
  ∃v' F',XQ true h (rc Q AG [v,B9 t] h)=some (v',⟨h.boxes,F'⟩)/\KL false 4 (A4 (KU acc t)) v' ⟨h.boxes,F'⟩:=by
 obtain⟨v',h',h1,h2,h3⟩:=tI acc v h hg t hl hs ht;exact⟨v',h'.fams,RR h1 (SJ h2).2.2.2 h3,I4 h2 rfl⟩
theorem Vn (m:I7) (l:G7) (B8:l.length<=1048576) (IH:∀t∈l,∃(m':I7) (l':G7),pc Q W9 [sl t.cm 4 (A4 t.kids)]=some (sl m' 4 (A4 l'))/\H4 l'=H4 t.kids) (fr:Fr) (h:AH) (h3:A0 fr 3=.vs true 0 []) (hl:fr.length=24) (h7:A0 fr 7=sl m 4 (A4 l)) (h8:A0 fr 8=.int .i64 l.length) (h9:A0 fr 9=.int .i64 0) :
  B7 (lp (A2 (K8 Q) (D6 W9) Fl) (fr,h)) λe C4 h'=>Kp Fl.wr fr C4/\e=.exit 0/\∃(done:List Tm),KL false 4 (A4 done) (A0 C4 3) h'/\H4 done=H4 l:=by
 refine B4 rfl fr (λn fr h'=>∃(i:Nat),i+n=l.length/\A0 fr 9=.int .i64 (i:Nat)/\(∃(v:AV) (done:List Tm),A0 fr 3=v/\KL false 4 (A4 done) v h'/\H4 done=H4 (l.take i)/\done.length=i)) ?_ l.length h ⟨0,by omega,h9,_,[],h3,WO _ _ _,by simp[H4],rfl⟩;rintro J Φ hJ hΦ n D5 H1 K ⟨i,hi,k9,hr⟩;have A6:=K.1.trans hl;have k7:=A8 K 7 h7;have k8:=A8 K 8 h8;clear K;by_cases A7:i<l.length
 .have L4:=C6 i (by omega);obtain⟨v,done,k3,hg,hd,Di⟩:=hr;obtain⟨bx,fams⟩:=H1;have hx:=H9 A7;obtain⟨m',l',hI,hI2⟩:=IH l[i] (A1A A7);generalize hs:l[i]=s at *
  have hc:E3 (.mk s.kind s.name s.sort m' l')=E3 s:=by
   obtain⟨k,nm,so,ms,ks⟩:=s;simp only[Tm.kind,Tm.name,Tm.sort,Tm.kids,E3]at hI2 ⊢;rw[hI2]
  have e2:H4 (done++[.mk s.kind s.name s.sort m' l'])=H4 (l.take (i+1)):=by
   rw[A0a A7,E4,A0q,←E4,hd,E4,E4,A0q,A0U,A0g,A0U,A0g,hc,hs]
  have ha:∀B,∃v' F',K1 (D6 W9) ⟨B,fams⟩ 4 56 v (sl (true,true) 4 [B9 (.mk s.kind s.name s.sort m' l')])=some (v',⟨B,F'⟩)/\KL false 4 (A4 (done++[.mk s.kind s.name s.sort m' l'])) v' ⟨B,F'⟩:=λB=>by
   obtain⟨v',F',a1,a2,-⟩:=Nw (c:=D6 W9) (bytes:=56) (x:=sl (true,true) 4 [B9 (.mk s.kind s.name s.sort m' l')]) (ys:=[B9 (.mk s.kind s.name s.sort m' l')]) (h:=⟨B,fams⟩) (I4 hg rfl) (M9 _ _ _ _) (by simp only[H2,maxLen,D0,A0l,A0f];omega);rw[P8];exact⟨v',F',a1,a2⟩
  obtain⟨v',F',ha1,ha2⟩:=ha (bx++[(B9 s).cells,[.int .i64 s.kind,.str s.name,.int .i64 s.sort,sl m' 4 (A4 l')]]);simp only[←tm_mk,I1]at ha1 ha2;clear hs hd hc hg;simp[Fl,A6,k7,k8,k9,A7,L4,k3,hx,hI,A5,ha1];exact E9 hJ ⟨i+1,by omega,by simp[A6],_,_,rfl,by simp[A6];exact ha2,e2,by simp[Di]⟩
 .obtain⟨v,done,k3,hg,hd,Di⟩:=hr;rw[A0o (by omega)]at hd;simp[Fl,A6,k8,k9,A7];exact hΦ _ _ _ ⟨rfl,done,by simp[k3];exact I4 hg rfl,hd⟩
theorem aG:∀(N:Nat) (m:I7) (l:G7),Tm.sizes l<=N->Tm.sizes l<=1048576->∃(m':I7) (l':G7),pc Q W9 [sl m 4 (A4 l)]=some (sl m' 4 (A4 l'))/\H4 l'=H4 l:=by
 intro N
 induction N with
 |zero =>
  intro m l h _;have hl0:l=[]:=by
   cases l with
   |nil=>rfl
   |cons a l=>have:=a.size_pos;simp only[Tm.sizes]at h;omega
  subst hl0
  suffices hq:∃v,pc Q W9 [sl m 4 (A4 [])]=some v/\∃q:(Bool×Bool)×List Tm,v=sl q.1 4 (A4 q.2)/\H4 q.2=H4 [] by
   obtain⟨v,h1,q,rfl,h2⟩:=hq;exact⟨q.1,q.2,h1,h2⟩
  refine GU GE λΨ hΨ fr hl h0=>?_;simp[GE]at hl h0;simp[GE,hl,h0];refine B7.mono (Vn m [] (by simp) (λt ht=>nomatch ht) _ _ ?_ ?_ ?_ ?_ ?_) ?_<;>first|(simp[hl];done)|skip
  rintro e D5 ⟨bx,F⟩ ⟨K,rfl,done,hg,hd⟩;have A6:D5.length=24:=K.1.trans (by simp[hl]);obtain⟨m',hf⟩:=Pg hg;simp only at hf;simp[A6,hf];exact hΨ _ ⟨(m',done),rfl,hd⟩
 |succ N IH =>
  intro m l h hb;have B8:=Tm.length_le l
  suffices hq:∃v,pc Q W9 [sl m 4 (A4 l)]=some v/\∃q:(Bool×Bool)×List Tm,v=sl q.1 4 (A4 q.2)/\H4 q.2=H4 l by
   obtain⟨v,h1,q,rfl,h2⟩:=hq;exact⟨q.1,q.2,h1,h2⟩
  refine GU GE λΨ hΨ fr hl h0=>?_;simp[GE]at hl h0;simp[GE,hl,h0];refine B7.mono (Vn m l (by omega) (λt ht=>?_) _ _ ?_ ?_ ?_ ?_ ?_) ?_<;>first|(simp[hl];done)|skip
  .have h1:=Tm.size_le ht;have h2:=t.kids_size;exact IH t.cm t.kids (by omega) (by omega)
  rintro e D5 ⟨bx,F⟩ ⟨K,rfl,done,hg,hd⟩;have A6:D5.length=24:=K.1.trans (by simp[hl]);obtain⟨m',hf⟩:=Pg hg;simp only at hf;simp[A6,hf];exact hΨ _ ⟨(m',done),rfl,hd⟩
def HU (r n:Nar):AV:=.agg ((G8 r).cells++(G8 n).cells)
theorem Bu (r n:Nar):(HU r n).cells=[.str r.name,sl r.rm 1 (r.roles.map .str),sl r.fm 3 (r.fresh.map Lp),sl r.tm 1 (r.tags.map .str),sl r.sm 7 (r.steps.map El),sl r.gm 5 (r.goals.map En),.str n.name,sl n.rm 1 (n.roles.map .str),sl n.fm 3 (n.fresh.map Lp),sl n.tm 1 (n.tags.map .str),sl n.sm 7 (n.steps.map El),sl n.gm 5 (n.goals.map En)]:=rfl
@[simp] theorem sc_agg (r n:Nar):AV.agg [.str r.name,sl r.rm 1 (r.roles.map .str),sl r.fm 3 (r.fresh.map Lp),sl r.tm 1 (r.tags.map .str),sl r.sm 7 (r.steps.map El),sl r.gm 5 (r.goals.map En),.str n.name,sl n.rm 1 (n.roles.map .str),sl n.fm 3 (n.fresh.map Lp),sl n.tm 1 (n.tags.map .str),sl n.sm 7 (n.steps.map El),sl n.gm 5 (n.goals.map En)]=HU r n:=rfl
@[simp] theorem sc_isTup (r n:Nar):(HU r n).isTup=false:=rfl
@[simp] theorem sc_frz (h:AH) (am:Bool) (r n:Nar):KH h am (HU r n)=some (HU r n):=rfl
@[simp] theorem sc_tame (h:AH) (r n:Nar):CM h (HU r n)=true:=rfl
@[simp] theorem zO (h:AH) (n:Nar):DX h (G8 n)=some (G8 n):=rfl
theorem tO:AV.agg [.str (bs []),sl (true,false) 1 [],sl (true,false) 1 [],sl (true,false) 1 [],sl (true,false) 1 [],sl (true,false) 1 [],.str (bs []),sl (true,false) 1 [],sl (true,false) 1 [],sl (true,false) 1 [],sl (true,false) 1 [],sl (true,false) 1 []]=HU ni ni:=by
 simp[HU,G8,ni,sl]
theorem cO (n:Nar) (F:Fine n) (S:Lens n):∃r,pc Q Lg [G8 n]=some (.tup [HU r n,.int .i64 (l8 n).2])/\((l8 n).2=0->Qn r=DI (L0 (B5 n) (G6 n)) n):=by
 obtain⟨r,hR,hE⟩:=jZ n F S;refine⟨r,?_,hE⟩;have nb:=E7 n;have rb:=E7 r;have sb:=Bu r n;generalize (l8 n).2=e at *
 generalize (l8 n).1=e1 at *
 refine H5 SD λfr hl h0=>?_;simp[SD]at hl h0;simp[SD,hl,h0,nb,rb,sb,hR,D2,E6,M5]
def Pk (n:Nar) (role step:Int):Int:=if (l8 n).2≠0 then (l8 n).2 else if role<0\/(n.roles.length:Int)<=role\/step<0\/(n.steps.length:Int)<step then 7 else 0
theorem Qy {n:Nar} {role step:Int} (h:Pk n role step=0):(l8 n).2=0/\0<=role/\role.toNat<n.roles.length/\0<=step/\step.toNat<=n.steps.length:=by
 unfold Pk at h;split at h
 .rename_i h1;exact absurd h h1
 .rename_i h1;split at h
  .omega
  .rename_i h2;have Cv:(l8 n).2=0:=by
    apply Classical.byContradiction;exact h1
   omega
theorem BE {r n:Nar} {f:ByteArray->Int} (h:Qn r=DI f n):r.name=n.name/\r.roles=n.roles/\r.fresh=n.fresh/\r.tags=n.tags/\r.steps.map Oz=n.steps.map (Ek f)/\r.goals.map mh=n.goals.map (VT f):=by
 unfold Qn DI at h;injection h with h1 h2 h3 h4 h5 h6 h7 h8 h9 h10 h11
 exact⟨h1,h3,h5,h7,h9,h11⟩
theorem sN (n:Nar) (F:Fine n) (S:Lens n) (role step:Int):∃r n',pc Q PP [G8 n,.int .i64 role,.int .i64 step]=some (.tup [HU r n',.int .i64 (Pk n role step)])/\(Pk n role step=0->n'=n/\Qn r=DI (L0 (B5 n) (G6 n)) n):=by
 obtain⟨r,hR,hE⟩:=cO n F S;have nb:=E7 n;have sb:=Bu r n;have sn:=tO;have e0:∀k,sl (true,false) k []=sl (true,false) 1 []:=λk=>l9 _ rfl _ _;by_cases h1:(l8 n).2=0
 .have hrl:=(BE (hE h1)).2.1;have WY:r.steps.length=n.steps.length:=by
   have:=congrArg List.length (BE (hE h1)).2.2.2.2.1;simpa using this
  rw[h1]at hR;by_cases h2:role<0\/(n.roles.length:Int)<=role\/step<0\/(n.steps.length:Int)<step
  .have ha:Pk n role step=7:=by unfold Pk;rw[if_neg (by simp[h1]),if_pos h2]
   rw[ha];refine⟨ni,ni,?_,λh=>by omega⟩;rw[←tO];rw[←hrl,←WY]at h2;by_cases q1:role<0
   .refine FX W4 λfr hl h0 h1 h2=>?_;simp[W4]at hl h0 h1 h2;simp[W4,hl,h0,h1,nb,sb,hR,q1,D2,E6,M5]
   .by_cases q2:(r.roles.length:Int)<=role
    .refine FX W4 λfr hl h0 h1 h2=>?_;simp[W4]at hl h0 h1 h2;simp[W4,hl,h0,h1,nb,sb,hR,q1,q2,D2,E6,M5]
    .by_cases q3:step<0
     .refine FX W4 λfr hl h0 h1 h2=>?_;simp[W4]at hl h0 h1 h2;simp[W4,hl,h0,h1,h2,nb,sb,hR,q1,q2,q3,D2,E6,M5]
     .have q4:(r.steps.length:Int)<step:=by omega
      refine FX W4 λfr hl h0 h1 h2=>?_;simp[W4]at hl h0 h1 h2;simp[W4,hl,h0,h1,h2,nb,sb,hR,q1,q2,q3,q4,D2,E6,M5]
  .have ha:Pk n role step=0:=by unfold Pk;rw[if_neg (by simp[h1]),if_neg h2]
   rw[ha];refine⟨r,n,?_,λ_=>⟨rfl,hE h1⟩⟩;rw[←hrl,←WY]at h2;have q1:¬role<0:=λh=>h2 (.inl h);have q2:¬(r.roles.length:Int)<=role:=λh=>h2 (.inr (.inl h));have q3:¬step<0:=λh=>h2 (.inr (.inr (.inl h)));have q4:¬(r.steps.length:Int)<step:=λh=>h2 (.inr (.inr (.inr h)));refine FX W4 λfr hl h0 h1 h2=>?_;simp[W4]at hl h0 h1 h2;simp[W4,hl,h0,h1,h2,nb,sb,hR,q1,q2,q3,q4,M5]
 .have ha:Pk n role step=(l8 n).2:=by unfold Pk;rw[if_pos h1]
  rw[ha];refine⟨ni,ni,?_,λh=>absurd h h1⟩;rw[←tO];generalize (l8 n).2=e at *
  have P0:=h1;refine FX W4 λfr hl h0 h1 h2=>?_;simp[W4]at hl h0 h1 h2;simp[W4,hl,h0,nb,sb,hR,P0,D2,E6,M5]
theorem fk (n:Nar) (F:Fine n) (S:Lens n) (role step:Int):∃r,pc Q Kb [G8 n,.int .i64 role,.int .i64 step]=some (.tup [G8 r,.int .i64 (Pk n role step)])/\(Pk n role step=0->Qn r=DI (L0 (B5 n) (G6 n)) n):=by
 obtain⟨r,hR,hE⟩:=ff n F S;have nb:=E7 n;have rb:=E7 r;have sn:=Xh;have e0:∀k,sl (true,false) k []=sl (true,false) 1 []:=λk=>l9 _ rfl _ _;by_cases h1:(l8 n).2=0
 .rw[h1]at hR;generalize (l8 n).1=e1 at *
  by_cases h2:role<0\/(n.roles.length:Int)<=role\/step<0\/(n.steps.length:Int)<step
  .have ha:Pk n role step=7:=by unfold Pk;rw[if_neg (by simp[h1]),if_pos h2]
   rw[ha];refine⟨ni,?_,λh=>by omega⟩;rw[←Xh];by_cases q1:role<0
   .refine FX H8 λfr hl h0 h1 h2=>?_;simp[H8]at hl h0 h1 h2;simp[H8,hl,h0,h1,nb,rb,hR,q1,D2,E6,M5]
   .by_cases q2:(n.roles.length:Int)<=role
    .refine FX H8 λfr hl h0 h1 h2=>?_;simp[H8]at hl h0 h1 h2;simp[H8,hl,h0,h1,nb,rb,hR,q1,q2,D2,E6,M5]
    .by_cases q3:step<0
     .refine FX H8 λfr hl h0 h1 h2=>?_;simp[H8]at hl h0 h1 h2;simp[H8,hl,h0,h1,h2,nb,rb,hR,q1,q2,q3,D2,E6,M5]
     .have q4:(n.steps.length:Int)<step:=by omega
      refine FX H8 λfr hl h0 h1 h2=>?_;simp[H8]at hl h0 h1 h2;simp[H8,hl,h0,h1,h2,nb,rb,hR,q1,q2,q3,q4,D2,E6,M5]
  .have ha:Pk n role step=0:=by unfold Pk;rw[if_neg (by simp[h1]),if_neg h2]
   rw[ha];refine⟨r,?_,λ_=>hE h1⟩;have q1:¬role<0:=λh=>h2 (.inl h);have q2:¬(n.roles.length:Int)<=role:=λh=>h2 (.inr (.inl h));have q3:¬step<0:=λh=>h2 (.inr (.inr (.inl h)));have q4:¬(n.steps.length:Int)<step:=λh=>h2 (.inr (.inr (.inr h)));refine FX H8 λfr hl h0 h1 h2=>?_;simp[H8]at hl h0 h1 h2;simp[H8,hl,h0,h1,h2,nb,rb,hR,q1,q2,q3,q4,M5]
 .have ha:Pk n role step=(l8 n).2:=by unfold Pk;rw[if_pos h1]
  rw[ha];refine⟨ni,?_,λh=>absurd h h1⟩;rw[←Xh];generalize (l8 n).2=e at *
  generalize (l8 n).1=e1 at *
  have P0:=h1;refine FX H8 λfr hl h0 h1 h2=>?_;simp[H8]at hl h0 h1 h2;simp[H8,hl,h0,nb,rb,hR,P0,D2,E6,M5]
def Hz (me:ByteArray) (l:List Fre):List Tm:=(l.filter λf=>decide (f.role=me)).map λf=>.mk 2 f.name f.sort (true,false) []
theorem qt (me:J2) (l:List Fre) (f:Fre):Hz me (l++[f])=Hz me l++(if f.role=me then [.mk 2 f.name f.sort (true,false) []]else []):=by
 unfold Hz;rw[List.filter_append,A0q];congr 1;by_cases h:f.role=me<;>simp[h]
theorem RJ (me:J2) (l:List Fre):(Hz me l).length<=l.length:=by
 unfold Hz;rw[A0l];exact A01 _ _
theorem Zd {me:J2} {l:List Fre} {i:Nat} (h:i<l.length):Hz me (l.take (i+1))=Hz me (l.take i)++(if l[i].role=me then [.mk 2 l[i].name l[i].sort (true,false) []]else []):=by
 rw[A0a h,qt]
theorem wH (a:J2) (s:Int):AV.agg [.int .i64 2,.str a,.int .i64 s,sl (true,false) 1 []]=B9 (.mk 2 a s (true,false) []):=by
 rw[l9 (true,false) rfl 1 4];simp[B9,A4]
theorem eo (na:Nar) (hfl:na.fresh.length<=1048576) (role:Nat) (me:J2) (hme:KN (na.roles.map AV.str) role=some (.str me)) (fr:Fr) (h:AH) (B0:List (List AV)) (hB0:h.boxes=(G8 na).cells::B0) (h7:A0 fr 7=.vs true 0 []) (hl:fr.length=53) (h1:A0 fr 1=.int .i64 role) (h2:A0 fr 2=.ptr 0 0) (h29:A0 fr 29=sl na.fm 3 (na.fresh.map Lp)) (h30:A0 fr 30=.int .i64 na.fresh.length) (h31:A0 fr 31=.int .i64 0) :
  B7 (lp (A2 (K8 Q) (D6 Fv) Cn) (fr,h)) λe C4 h'=>Kp Cn.wr fr C4/\e=.exit 0/\KL false 4 (A4 (Hz me na.fresh)) (A0 C4 7) h':=by
 refine B4 rfl fr (λn fr h'=>∃(i:Nat),i+n=na.fresh.length/\A0 fr 31=.int .i64 (i:Nat)/\(∃(B:List (List AV)) (v:AV),A0 fr 7=v/\h'.boxes=(G8 na).cells::B/\KL false 4 (A4 (Hz me (na.fresh.take i))) v h')) ?_ na.fresh.length h ⟨0,by omega,h31,_,_,h7,hB0,WO _ _ _⟩;rintro J Φ hJ hΦ n D5 H1 K ⟨i,hi,k31,hr⟩;have A6:=K.1.trans hl;have k1:=A8 K 1 h1;have k2:=A8 K 2 h2;have k29:=A8 K 29 h29;have k30:=A8 K 30 h30;clear K;by_cases A7:i<na.fresh.length
 .have L4:=C6 i (by omega);obtain⟨B,v,k7,hB,hg⟩:=hr;obtain⟨bx,fams⟩:=H1;simp only at hB;subst hB;have hx:=G2 (f:=Lp) (A0R A7);have B8:=RJ me (na.fresh.take i);rw[A0j]at B8;have Q4:=Zd (me:=me) A7;have nb:=E7 na;generalize na.fresh[i]=f at *
  by_cases hf:f.role=me
  .rw[if_pos hf]at Q4;obtain⟨v',F',ha1,ha2,-⟩:=Nw (c:=D6 Fv) (bytes:=56) (x:=sl (true,true) 4 [B9 (.mk 2 f.name f.sort (true,false) [])]) (ys:=[B9 (.mk 2 f.name f.sort (true,false) [])]) (h:=⟨(G8 na).cells::(B++[(Lp f).cells]),fams⟩) (I4 hg rfl) (M9 _ _ _ _) (by simp only[H2,maxLen,D0,A0l,A0f];omega);rw[←P8,←Q4]at ha2;rw[←wH]at ha1;simp only[UE,nb,hf]at ha1 ha2;simp[Cn,A6,k1,k2,k29,k30,k31,A7,L4,k7,hx,nb,hme,hf,D2,E6,A5,ha1];exact E9 hJ ⟨i+1,by omega,by simp[A6],_,_,rfl,rfl,by simp[A6];exact ha2⟩
  .rw[if_neg hf,List.append_nil]at Q4;rw[←Q4]at hg;simp[Cn,A6,k1,k2,k29,k30,k31,A7,L4,hx,nb,hme,hf];exact E9 hJ ⟨i+1,by omega,by simp[A6],_,_,rfl,rfl,by simp[k7];exact I4 hg rfl⟩
 .obtain⟨B,v,k7,hB,hg⟩:=hr;rw[A0o (by omega)]at hg;simp[Cn,A6,k30,k31,A7];exact hΦ _ _ _ ⟨rfl,by simp[k7];exact I4 hg rfl⟩
theorem oz (n:Nar) (F:Fine n) (S:Lens n) (hz:(l8 n).2=0) (role:Nat) (me:J2) (hme:n.roles[role]?=some me):∃m,pc Q Fv [G8 n,.int .i64 (role:Nat)]=some (sl m 4 (A4 (Hz me n.fresh))):=by
 suffices hq:∃v,pc Q Fv [G8 n,.int .i64 (role:Nat)]=some v/\∃m:Bool×Bool,v=sl m 4 (A4 (Hz me n.fresh)) by
  obtain⟨v,h1,m,rfl⟩:=hq;exact⟨m,h1⟩
 have hC:=Vv n F S.names;rw[hz]at hC;have hfl:n.fresh.length<=1048576:=by have:=S.names;omega
 have nb:=E7 n;have A7:=(A0Q.1 hme).1;have hme':KN (n.roles.map AV.str) role=some (.str me):=G2 hme;have q1:¬((role:Int)<0):=by omega
 have q2:¬((n.roles.length:Int)<=(role:Int)):=by omega
 generalize (l8 n).1=e1 at *
 refine Sp Ou λΨ hΨ fr hl h0 h1=>?_;simp[Ou]at hl h0 h1;simp[Ou,hl,h0,h1,hC,nb,q1,q2];refine B7.mono (eo n hfl role me hme' _ _ [] ?_ ?_ ?_ ?_ ?_ ?_ ?_ ?_) ?_<;>first|(simp[hl,h1,nb];done)|skip
 rintro e D5 ⟨bx,F1⟩ ⟨K,rfl,hg⟩;have A6:D5.length=53:=K.1.trans (by simp[hl]);obtain⟨m',hf⟩:=Pg hg;simp only at hf;simp[A6,hf];exact hΨ _ ⟨m',rfl⟩
end Go.Abs.Q
namespace Go.Abs.Q
open Go.Proofs
open Go.Proofs.YtohjdamplbhdpaaGreatDoor (Rows.uptoBulk Rows.uptoBulkAll)
theorem qb:Tryz.prog.cellsOf 3=1:=by kernel_rfl
theorem mM:Tryz.prog.cellsOf 9=1:=by kernel_rfl
theorem A0B:Tryz.prog.cellsOf 22=1:=by kernel_rfl
theorem qc:Tryz.prog.cellsOf 30=1:=by kernel_rfl
theorem kY:Tryz.prog.cellsOf 32=4:=by kernel_rfl
theorem qa:Tryz.prog.cellsOf 91=3:=by kernel_rfl
theorem uY:Tryz.prog.cellsOf 23=1:=by kernel_rfl
theorem wP:Tryz.prog.cellsOf 70=7:=by kernel_rfl
theorem xN:Tryz.prog.cellsOf 24=1:=by kernel_rfl
theorem wO:Tryz.prog.cellsOf 99=5:=by kernel_rfl
theorem xM:Tryz.prog.cellsOf 25=1:=by kernel_rfl
theorem cNar:Tryz.prog.cellsOf 27=6:=by kernel_rfl
theorem len3 {α:Type}:∀{l:List α},l.length=3->∃a b c,l=[a,b,c]
 | [a,b,c],_=>⟨a,b,c,rfl⟩
theorem xl {α:Type}:∀{l:List α},l.length=4->∃a b c d,l=[a,b,c,d]
 | [a,b,c,d],_=>⟨a,b,c,d,rfl⟩
theorem len5 {α:Type}:∀{l:List α},l.length=5->∃a b c d e,l=[a,b,c,d,e]
 | [a,b,c,d,e],_=>⟨a,b,c,d,e,rfl⟩
theorem len6 {α:Type}:∀{l:List α},l.length=6->∃a b c d e f,l=[a,b,c,d,e,f]
 | [a,b,c,d,e,f],_=>⟨a,b,c,d,e,f,rfl⟩
theorem len7 {α:Type}:∀{l:List α},l.length=7->∃a b c d e f g,l=[a,b,c,d,e,f,g]
 | [a,b,c,d,e,f,g],_=>⟨a,b,c,d,e,f,g,rfl⟩
theorem Km {P:Program} {w:World} {t:TypeId} {H:Type} {enc:TypeId×Value->H} {fs:Array Field} {n:Nat} {cs:List Value} {x:DataW H×List MemPlace} (ht:P.underlying t=some (.struct fs)) {c:Nat} (hc:P.cellsOf t=c)
  (h:DataW.trod enc P w 0 (λ_=>true) true n t cs=some x) :
  ∃(m:Nat) (xs:List (DataW H×List MemPlace)),n=m+1/\cs.length=c/\xs.length=fs.size/\x.1=.agg (xs.map (·.1))/\∀(i:Nat) (f:Field),fs[i]?=some f->∃y,xs[i]?=some y/\DataW.trod enc P w 0 (λ_=>true) true m f.type ((cs.drop f.offset).take (P.cellsOf f.type))=some y:=by
 obtain⟨xs,m,rfl,rfl,h1,h2,h3⟩:=DataW.trod_struct ht h;refine⟨m,xs,rfl,by omega,h2,rfl,λi f hi=>?_⟩;have A7:i<fs.size:=(Array.getElem?_eq_some_iff.1 hi).1;have:=h3 i f hi;rw[A0R (by omega)]at this;exact⟨xs[i],A0R _,this⟩
theorem wu {w:World} {ys ys':G3} {cs cs':List Value} (h:CV w ys cs) (k:CV w ys' cs'):CV w (ys++ys') (cs++cs'):=by
 induction ys generalizing cs with
 |nil =>
  have:cs=[]:=by
   have:=h.1;simpa[Dg]using this
  subst this;exact k
 |cons y ys ih =>
  obtain⟨h1,h2⟩:=h;simp only[Dg]at h1;obtain⟨u,us,rfl,h3,h4⟩:=h1;have:=ih ⟨h4,λv hv=>h2 v (A0r _ hv)⟩;refine CE (Wk h3 (h2 u (by simp))) this
variable {w:World}
theorem aW (l:G7):(l.map Tm.size).sum=Tm.sizes l:=by
 induction l with
 |nil=>rfl
 |cons t l ih=>simp[Tm.sizes,ih]
theorem VU {α:Type} {f:α->Nat} (h:∀a,1<=f a):∀l:List α,l.length<=(l.map f).sum
 | []=>by simp
 |a::l=>by have:=h a;have:=VU h l;simp;omega
theorem Sk {α:Type} {f:α->Nat} {a:α}:∀{l:List α},a∈l->f a<=(l.map f).sum
 |b::l,h=>by
  rcases A1E.1 h with rfl|h
  .simp
  .have:=Sk (f:=f) h;simp;omega
theorem Xk:∀n,Ny Tryz.prog w 32 (λt:Tm=>(B9 t).cells) (λ_=>True) Tm.size n:=by
 intro n
 induction n using Nat.strongRecOn with
 |_ n ih =>
  intro H enc cs x hx;obtain⟨m,xs,rfl,GJ,Zm,hx1,hf⟩:=Km Tryz.underlying32 kY hx;obtain⟨y0,hy0,h0⟩:=hf 0 _ rfl;obtain⟨y1,hy1,h1⟩:=hf 1 _ rfl;obtain⟨y2,hy2,h2⟩:=hf 2 _ rfl;obtain⟨y3,hy3,h3⟩:=hf 3 _ rfl;clear hf;obtain⟨v0,v1,v2,v3,rfl⟩:=xl GJ;obtain⟨z0,z1,z2,z3,rfl⟩:=xl Zm;simp only[A0T,A0V,Option.some.injEq]at hy0 hy1 hy2 hy3;subst hy0 hy1 hy2 hy3;simp only[A0Y,A0X,A0W,qb,mM,qc,A0m,A0b,A0c,A0n]at h0 h1 h2 h3;obtain⟨k,-,w0,cv0⟩:=JC (w:=w) Tryz.underlying3 m enc _ _ h0;obtain⟨nm,-,w1,cv1⟩:=HP (w:=w) Tryz.underlying9 m enc _ _ h1;obtain⟨s,-,w2,cv2⟩:=JC (w:=w) Tryz.underlying3 m enc _ _ h2;cases m with
  |zero=>simp[DataW.trod]at h3
  |succ m =>
   obtain⟨⟨bk,kids⟩,-,w3,cv3⟩:=JD (w:=w) Tryz.underlying30 kY (by omega) (ih m (by omega)) enc _ _ h3;refine⟨.mk k nm s (false,bk) kids,trivial,?_,?_⟩
   .rw[hx1];dsimp only at w0 w1 w2 w3;rw[aW]at w3;simp only[Tm.size,A0U,A0g,Rows.uptoBulk,Rows.uptoBulkAll];omega
   .dsimp only at cv0 cv1 cv2 cv3;simp only[B9,Mg];rw[D0];exact CE cv0 (CE cv1 (CE cv2 cv3))
def ga (l:List ByteArray):Nat:=(l.map λs=>s.size+1).sum
theorem Xj (n:Nat):Ny Tryz.prog w 22 (λys:Bool×List ByteArray=>[sl (false,ys.1) 1 (ys.2.map AV.str)]) (λ_=>True) (λys=>ga ys.2) n:=by
 intro H enc cs x hx;cases n with
 |zero=>simp[DataW.trod]at hx
 |succ n =>
  obtain⟨ys,-,h1,h2⟩:=JD (w:=w) (enc:=AV.str) Tryz.underlying22 mM (by omega) (HP (w:=w) Tryz.underlying9 n) enc _ _ hx;exact⟨ys,trivial,by unfold ga;dsimp only at h1 ⊢;omega,h2⟩
def iT (f:Fre):Nat:=f.role.size+f.name.size+1
theorem nn (n:Nat):Ny Tryz.prog w 91 (λf:Fre=>(Lp f).cells) (λ_=>True) iT n:=by
 intro H enc cs x hx;obtain⟨m,xs,rfl,GJ,Zm,hx1,hf⟩:=Km Tryz.underlying91 qa hx;obtain⟨y0,hy0,h0⟩:=hf 0 _ rfl;obtain⟨y1,hy1,h1⟩:=hf 1 _ rfl;obtain⟨y2,hy2,h2⟩:=hf 2 _ rfl;clear hf;obtain⟨v0,v1,v2,rfl⟩:=len3 GJ;obtain⟨z0,z1,z2,rfl⟩:=len3 Zm;simp only[A0T,A0V,Option.some.injEq]at hy0 hy1 hy2;subst hy0 hy1 hy2;simp only[A0Y,A0X,A0W,qb,mM,A0m,A0b,A0c,A0n]at h0 h1 h2;obtain⟨a,-,w0,cv0⟩:=HP (w:=w) Tryz.underlying9 m enc _ _ h0;obtain⟨b,-,w1,cv1⟩:=HP (w:=w) Tryz.underlying9 m enc _ _ h1;obtain⟨s,-,w2,cv2⟩:=JC (w:=w) Tryz.underlying3 m enc _ _ h2;refine⟨⟨a,b,s⟩,trivial,?_,CE cv0 (CE cv1 cv2)⟩;rw[hx1];dsimp only at w0 w1 w2;simp only[iT,A0U,A0g,Rows.uptoBulk,Rows.uptoBulkAll];omega
def cy (s:Ste):Nat:=s.frm.size+s.to.size+s.msg.size+1
theorem nr (n:Nat):Ny Tryz.prog w 70 (λs:Ste=>(El s).cells) (λ_=>True) cy n:=by
 intro H enc cs x hx;obtain⟨m,xs,rfl,GJ,Zm,hx1,hf⟩:=Km Tryz.underlying70 wP hx;obtain⟨y0,hy0,h0⟩:=hf 0 _ rfl;obtain⟨y1,hy1,h1⟩:=hf 1 _ rfl;obtain⟨y2,hy2,h2⟩:=hf 2 _ rfl;obtain⟨y3,hy3,h3⟩:=hf 3 _ rfl;clear hf;obtain⟨v0,v1,v2,v3,v4,v5,v6,rfl⟩:=len7 GJ;obtain⟨z0,z1,z2,z3,rfl⟩:=xl Zm;simp only[A0T,A0V,Option.some.injEq]at hy0 hy1 hy2 hy3;subst hy0 hy1 hy2 hy3;simp only[A0Y,A0X,A0W,qb,mM,kY,A0m,A0b,A0c,A0n]at h0 h1 h2 h3;obtain⟨a,-,w0,cv0⟩:=HP (w:=w) Tryz.underlying9 m enc _ _ h0;obtain⟨b,-,w1,cv1⟩:=HP (w:=w) Tryz.underlying9 m enc _ _ h1;obtain⟨t,-,w2,cv2⟩:=Xk m enc _ _ h2;obtain⟨l,-,w3,cv3⟩:=JC (w:=w) Tryz.underlying3 m enc _ _ h3;refine⟨⟨a,b,t,l⟩,trivial,?_,?_⟩
 .rw[hx1];dsimp only at w0 w1 w2 w3;simp only[cy,A0U,A0g,Rows.uptoBulk,Rows.uptoBulkAll];omega
 .have:=CE cv0 (CE cv1 (wu cv2 cv3));dsimp only at this ⊢;rw[I1]at this;simpa only[gW,List.cons_append,List.nil_append]using this
def bS (g:Gol):Nat:=g.role.size+g.wth.size+Tm.sizes g.data+1
theorem np (n:Nat):Ny Tryz.prog w 99 (λg:Gol=>(En g).cells) (λ_=>True) bS n:=by
 intro H enc cs x hx;obtain⟨m,xs,rfl,GJ,Zm,hx1,hf⟩:=Km Tryz.underlying99 wO hx;obtain⟨y0,hy0,h0⟩:=hf 0 _ rfl;obtain⟨y1,hy1,h1⟩:=hf 1 _ rfl;obtain⟨y2,hy2,h2⟩:=hf 2 _ rfl;obtain⟨y3,hy3,h3⟩:=hf 3 _ rfl;obtain⟨y4,hy4,h4⟩:=hf 4 _ rfl;clear hf;obtain⟨v0,v1,v2,v3,v4,rfl⟩:=len5 GJ;obtain⟨z0,z1,z2,z3,z4,rfl⟩:=len5 Zm;simp only[A0T,A0V,Option.some.injEq]at hy0 hy1 hy2 hy3 hy4;subst hy0 hy1 hy2 hy3 hy4;simp only[A0Y,A0X,A0W,qb,mM,qc,A0m,A0b,A0c,A0n]at h0 h1 h2 h3 h4;obtain⟨k,-,w0,cv0⟩:=JC (w:=w) Tryz.underlying3 m enc _ _ h0;obtain⟨a,-,w1,cv1⟩:=HP (w:=w) Tryz.underlying9 m enc _ _ h1;obtain⟨b,-,w2,cv2⟩:=HP (w:=w) Tryz.underlying9 m enc _ _ h2;obtain⟨l,-,w4,cv4⟩:=JC (w:=w) Tryz.underlying3 m enc _ _ h4;cases m with
 |zero=>simp[DataW.trod]at h3
 |succ m =>
  obtain⟨⟨bk,kids⟩,-,w3,cv3⟩:=JD (w:=w) Tryz.underlying30 kY (by omega) (Xk m) enc _ _ h3;refine⟨⟨k,a,b,(false,bk),kids,l⟩,trivial,?_,?_⟩
  .rw[hx1];dsimp only at w0 w1 w2 w3 w4;rw[aW]at w3;simp only[bS,A0U,A0g,Rows.uptoBulk,Rows.uptoBulkAll];omega
  .dsimp only at cv0 cv1 cv2 cv3 cv4;rw[←D0]at cv3;exact CE cv0 (CE cv1 (CE cv2 (CE cv3 cv4)))
def ry (n:Nar):Nat:=n.name.size+ga n.roles+(n.fresh.map iT).sum+ga n.tags+(n.steps.map cy).sum+(n.goals.map bS).sum
theorem nq (n:Nat):Ny Tryz.prog w 27 (λg:Nar=>(G8 g).cells) (λ_=>True) ry n:=by
 intro H enc cs x hx;obtain⟨m,xs,rfl,GJ,Zm,hx1,hf⟩:=Km Tryz.underlying27 cNar hx;obtain⟨y0,hy0,h0⟩:=hf 0 _ rfl;obtain⟨y1,hy1,h1⟩:=hf 1 _ rfl;obtain⟨y2,hy2,h2⟩:=hf 2 _ rfl;obtain⟨y3,hy3,h3⟩:=hf 3 _ rfl;obtain⟨y4,hy4,h4⟩:=hf 4 _ rfl;obtain⟨y5,hy5,h5⟩:=hf 5 _ rfl;clear hf;obtain⟨v0,v1,v2,v3,v4,v5,rfl⟩:=len6 GJ;obtain⟨z0,z1,z2,z3,z4,z5,rfl⟩:=len6 Zm;simp only[A0T,A0V,Option.some.injEq]at hy0 hy1 hy2 hy3 hy4 hy5;subst hy0 hy1 hy2 hy3 hy4 hy5;simp only[A0Y,A0X,A0W,mM,A0B,uY,xN,xM,A0m,A0b,A0c,A0n]at h0 h1 h2 h3 h4 h5;obtain⟨a,-,w0,cv0⟩:=HP (w:=w) Tryz.underlying9 m enc _ _ h0;obtain⟨⟨b1,roles⟩,-,w1,cv1⟩:=Xj m enc _ _ h1;obtain⟨⟨b3,tags⟩,-,w3,cv3⟩:=Xj m enc _ _ h3;cases m with
 |zero=>simp[DataW.trod]at h2
 |succ m =>
  obtain⟨⟨b2,fresh⟩,-,w2,cv2⟩:=JD (w:=w) (enc:=Lp) Tryz.underlying23 qa (by omega) (nn m) enc _ _ h2;obtain⟨⟨b4,steps⟩,-,w4,cv4⟩:=JD (w:=w) (enc:=El) Tryz.underlying24 wP (by omega) (nr m) enc _ _ h4;obtain⟨⟨b5,goals⟩,-,w5,cv5⟩:=JD (w:=w) (enc:=En) Tryz.underlying25 wO (by omega) (np m) enc _ _ h5;refine⟨⟨a,(false,b1),roles,(false,b2),fresh,(false,b3),tags,(false,b4),steps,(false,b5),goals⟩,trivial,?_,?_⟩
  .rw[hx1];dsimp only at w0 w1 w2 w3 w4 w5;simp only[ry,A0U,A0g,Rows.uptoBulk,Rows.uptoBulkAll];omega
  .exact CE cv0 (CE cv1 (CE cv2 (CE cv3 (CE cv4 cv5))))
theorem rz {n:Nar} (h:ry n<=1048576):Fine n/\Lens n/\Od n.steps+RK n.goals<=1099511627776:=by
 unfold ry at h;have r1:=VU (f:=λs:ByteArray=>s.size+1) (λs=>by omega) n.roles;have r2:=VU (f:=iT) (λs=>by unfold iT;omega) n.fresh;have r3:=VU (f:=λs:ByteArray=>s.size+1) (λs=>by omega) n.tags;have r4:=VU (f:=cy) (λs=>by unfold cy;omega) n.steps;have r5:=VU (f:=bS) (λs=>by unfold bS;omega) n.goals;unfold ga at h;have m1:∀s∈n.roles,s.size<=1048576:=λs hs=>by have:=Sk (f:=λs:ByteArray=>s.size+1) hs;omega
 have m2:∀f∈n.fresh,f.role.size<=1048576/\f.name.size<=1048576:=λs hs=>by have:=Sk (f:=iT) hs;unfold iT at this h;omega
 have m3:∀s∈n.tags,s.size<=1048576:=λs hs=>by have:=Sk (f:=λs:ByteArray=>s.size+1) hs;omega
 have m4:∀s∈n.steps,s.frm.size<=1048576/\s.to.size<=1048576/\s.msg.size<=1048576:=λs hs=>by have:=Sk (f:=cy) hs;unfold cy at this h;omega
 have m5:∀g∈n.goals,g.role.size<=1048576/\g.wth.size<=1048576/\Tm.sizes g.data<=1048576:=λs hs=>by have:=Sk (f:=bS) hs;unfold bS at this h;omega
 have q1:Od n.steps<=(n.steps.map cy).sum:=by
  generalize n.steps=l
  induction l with
  |nil=>simp[Od]
  |cons a l ih=>simp only[Od,A0U,A1F,cy];omega
 have q2:RK n.goals<=(n.goals.map bS).sum:=by
  generalize n.goals=l
  induction l with
  |nil=>simp[RK]
  |cons a l ih=>simp only[RK,A0U,A1F,bS];omega
 refine⟨⟨by omega,λs hs=>by have:=m1 s hs;omega,by omega,λs hs=>by have:=m2 s hs;omega,by omega,λs hs=>by have:=m3 s hs;omega,by omega,λs hs=>by have:=m4 s hs;omega,by omega,λs hs=>by have:=m5 s hs;omega,by omega⟩,⟨by omega,by omega,by omega,λg hg=>by have:=m5 g hg;have:=Tm.length_le g.data;omega⟩,by omega⟩
end Go.Abs.Q
namespace Go.Proofs
open Go.Shelf
def Tryz.sortLays_ren:Go.Shelf.Ren:=⟨fun|6=>96|15=>133|14=>132|28=>185|29=>186|20=>177|21=>178|22=>179|23=>180|24=>181|25=>182|26=>183|27=>184|46=>237|47=>238|48=>239|49=>240|50=>241|57=>295|n=>n,fun|22=>30|24=>32|25=>79|3=>3|39=>150|0=>0|53=>189|55=>191|4=>4|46=>183|45=>182|50=>144|5=>5|9=>9|66=>215|70=>219|76=>263|77=>264|n=>n,fun|n=>n⟩
theorem Tryz.sortLays:Go.Proofs.SlLaysF0.n6 Tryz.prog Tryz.sortLays_ren:={
 mixed:=by kernel_rfl
 f6:=⟨Tryz.f96.name,by decide,Tryz.func96.trans (congrArg some (by kernel_rfl))⟩
 f14:=⟨Tryz.f132.name,by decide,Tryz.func132.trans (congrArg some (by kernel_rfl))⟩
 f15:=Tryz.func133.trans (congrArg some (by kernel_rfl))
 f20:=⟨Tryz.f177.name,by decide,Tryz.func177.trans (congrArg some (by kernel_rfl))⟩
 f21:=⟨Tryz.f178.name,by decide,Tryz.func178.trans (congrArg some (by kernel_rfl))⟩
 f22:=⟨Tryz.f179.name,by decide,Tryz.func179.trans (congrArg some (by kernel_rfl))⟩
 f23:=⟨Tryz.f180.name,by decide,Tryz.func180.trans (congrArg some (by kernel_rfl))⟩
 f24:=⟨Tryz.f181.name,by decide,Tryz.func181.trans (congrArg some (by kernel_rfl))⟩
 f25:=⟨Tryz.f182.name,by decide,Tryz.func182.trans (congrArg some (by kernel_rfl))⟩
 f26:=⟨Tryz.f183.name,by decide,Tryz.func183.trans (congrArg some (by kernel_rfl))⟩
 f27:=⟨Tryz.f184.name,by decide,Tryz.func184.trans (congrArg some (by kernel_rfl))⟩
 f28:=Tryz.func185.trans (congrArg some (by kernel_rfl))
 f29:=Tryz.func186.trans (congrArg some (by kernel_rfl))
 f46:=⟨Tryz.f237.name,by decide,Tryz.func237.trans (congrArg some (by kernel_rfl))⟩
 f47:=Tryz.func238.trans (congrArg some (by kernel_rfl))
 f48:=Tryz.func239.trans (congrArg some (by kernel_rfl))
 f49:=⟨Tryz.f240.name,by decide,Tryz.func240.trans (congrArg some (by kernel_rfl))⟩
 f50:=⟨Tryz.f241.name,by decide,Tryz.func241.trans (congrArg some (by kernel_rfl))⟩
 f57:=⟨Tryz.f295.name,by decide,Tryz.func295.trans (congrArg some (by kernel_rfl))⟩
 t0:=Tryz.underlying0
 a0:=Tryz.isAgg0
 z0:=Tryz.sizeOf0
 v0:=Tryz.zeroValue0
 t3:=Tryz.underlying3
 a3:=Tryz.isAgg3
 z3:=Tryz.sizeOf3
 v3:=Tryz.zeroValue3
 t4:=Tryz.underlying4
 a4:=Tryz.isAgg4
 z4:=Tryz.sizeOf4
 v4:=Tryz.zeroValue4
 t5:=Tryz.underlying5
 a5:=Tryz.isAgg5
 z5:=Tryz.sizeOf5
 v5:=Tryz.zeroValue5
 t9:=Tryz.underlying9
 a9:=Tryz.isAgg9
 z9:=Tryz.sizeOf9
 v9:=Tryz.zeroValue9
 t22:=Tryz.underlying30
 a22:=Tryz.isAgg30
 z22:=Tryz.sizeOf30
 v22:=Tryz.zeroValue30
 t25:=Tryz.underlying79
 a25:=Tryz.isAgg79
 z25:=Tryz.sizeOf79
 v25:=Tryz.zeroValue79
 t39:=Tryz.underlying150
 a39:=Tryz.isAgg150
 z39:=Tryz.sizeOf150
 v39:=Tryz.zeroValue150
 t45:=Tryz.underlying182
 a45:=Tryz.isAgg182
 z45:=Tryz.sizeOf182
 v45:=Tryz.zeroValue182
 t46:=Tryz.underlying183
 a46:=Tryz.isAgg183
 z46:=Tryz.sizeOf183
 v46:=Tryz.zeroValue183
 t50:=Tryz.underlying144
 a50:=Tryz.isAgg144
 z50:=Tryz.sizeOf144
 v50:=Tryz.zeroValue144
 t53:=Tryz.underlying189
 a53:=Tryz.isAgg189
 z53:=Tryz.sizeOf189
 v53:=Tryz.zeroValue189
 t55:=Tryz.underlying191
 a55:=Tryz.isAgg191
 z55:=Tryz.sizeOf191
 v55:=Tryz.zeroValue191
 t66:=Tryz.underlying215
 a66:=Tryz.isAgg215
 z66:=Tryz.sizeOf215
 v66:=Tryz.zeroValue215
 t70:=Tryz.underlying219
 a70:=Tryz.isAgg219
 z70:=Tryz.sizeOf219
 v70:=Tryz.zeroValue219
 t76:=Tryz.underlying263
 a76:=Tryz.isAgg263
 z76:=Tryz.sizeOf263
 v76:=Tryz.zeroValue263
 t77:=Tryz.underlying264
 a77:=Tryz.isAgg264
 z77:=Tryz.sizeOf264
 v77:=Tryz.zeroValue264}
end Go.Proofs
namespace Go.Abs
open Go.RowKit (Below)
section
variable {P:Program} {E:Env}
theorem QJ (w:World) (dT sT ty elem:TypeId) (K g o dLen dCap:Nat) (a:Addr) (sLen sCap n:Nat) (cur:Array Value) (t:TypeId) (cs:List Value)
  (hu:P.underlying dT=some (.slice elem)) (hs:(P.info? elem).map (·.size)=some K)
  (hg:w.heap[g]?=some (.cells cur t (0,0))) (hn:Nat.min sLen dLen=n) (hl:cs.length=n*K)
  (hsrc:∀j v,cs[j]?=some v->w.cell? (a.add j)=some v) (Dn:o+cs.length<=cur.size) (h1:∀v∈cs,v.oneCell'=true) :
  (Builtin.copy_ #[dT,sT] ty #[.slice (some ⟨g,o,none⟩) dLen dCap,.slice (some a) sLen sCap]).run P w =
   .ok (goInt n) (w.setRow g (cur.toList.take o++cs++cur.toList.drop (o+cs.length)).toArray):=by
 have hl':=run_loadCells_list (P:=P) w a cs hsrc;have Hg:=run_storeCells_at P g o t cs 0 cur w hg (by simpa using Dn) h1;cases hq:P.info? elem with
 |none=>simp[hq]at hs
 |some i =>
  have hi:i.size=K:=by simpa[hq]using hs
  simp[Builtin.copy_,run_underlying hu,Builtin.lenOf,Builtin.firstCells,sizeOf,typeInfo,hq,hi,hn,←hl,hl',Hg]
theorem YO (t tx ty e ex:TypeId) (i:TypeInfo) (ht:P.underlying t=some (.slice e)) (htx:P.underlying tx=some (.slice ex)) (hi:P.info? e=some i)
  (g q sLen sCap:Nat) (cur:Array Value) (t':TypeId) (w:World) (hg:w.heap[g]?=some (.cells cur t' (0,0)))
  (a:Addr) (m c:Nat) (news:List Value) (hl:news.length=m*i.size) (hnews:∀j u,news[j]?=some u->w.cell? (a.add j)=some u) (h1:∀u∈news,u.oneCell'=true)
  (BF:sLen+m<=sCap) (Dn:q+sLen*i.size+news.length<=cur.size) :
  (Builtin.append_ #[t,tx] ty #[.slice (some ⟨g,q,none⟩) sLen sCap,.slice (some a) m c]).run P w =
   .ok (.slice (some ⟨g,q,none⟩) (sLen+m) sCap) (w.setRow g (cur.toList.take (q+sLen*i.size)++news++cur.toList.drop (q+sLen*i.size+news.length)).toArray):=by
 have hf:=run_firstCells_some (P:=P) w i.size m a m c news hl hnews;have Hg:=run_storeCells_at P g (q+sLen*i.size) t' news 0 cur w hg (by simpa using Dn) h1;simp only[A1H]at Hg;simp[Builtin.append_,run_underlying ht,run_underlying htx,sizeOf,typeInfo,hi,Builtin.lenOf,BF,hf,FP,Hg]
theorem VP (w:World) (tS tS' tR e:TypeId) (ht:P.underlying tS=some (.slice e)) (size:Nat) (hz:∀w,(Go.sizeOf e).run P w=.ok size w)
  (a b:Addr) (la ca lb cb:Nat) (P0:a.block≠b.block) (cur cur':Array Value) (t t':TypeId) (fr:Nat×Nat) (ha:w.heap[a.block]?=some (.cells cur t fr)) (h0:0<cur.size)
  (hb:w.heap[b.block]?=some (.cells cur' t' (0,0))) (h0':0<cur'.size) :
  (Extern.SlicesOverlaps.overlaps #[tS,tS'] #[tR] #[.slice (some a) la ca,.slice (some b) lb cb]).run P w=.ok (.bool false) w:=by
 have hnb:(a.block != b.block)=true:=by simpa using P0
 have hnb':(a.block == b.block)=false:=by simpa using P0
 have hsa:w.shape? a.block=some (t,cur.size):=by simp[World.shape?,ha]
 have hsb:w.shape? b.block=some (t',cur'.size):=by simp[World.shape?,hb]
 have hfb:w.frozen? b=false:=by simp[World.frozen?,hb]
 have hfb':w.frozen? {block:=b.block,off:=cur'.size}=false:=by simp[World.frozen?,hb]
 change Sem.run P (α:=Value) (do
  let some t:=(#[tS,tS']:Array TypeId)[0]? | stuck "slices.overlaps: no parameter types"
  let .slice elem ←underlying t|stuck "slices.overlaps: slice type expected"
  let size ←sizeOf elem
  match (some a:Option Addr),(some b:Option Addr)with
  |some a,some b =>
   if la=0\/lb=0\/size=0 then pure (Value.bool false)
   else if a.block != b.block&&(←frozen a)&&(←frozen b)then unsupported .addressObserved
   else do
    if a.block != b.block then do
     noView a;noView b
     if ←mayBeOne a b then return Value.bool ((←choose (.extern "sameAddr.stringBytes" 2)) == 1)
    pure (Value.bool (a.block == b.block&&a.off<b.off+lb*size&&b.off<a.off+la*size))
  |_,_=>pure (Value.bool false)) w=_
 by_cases hc:la=0\/lb=0\/size=0
 .simp[run_underlying ht,hz,hc]
 .obtain⟨ka,hka⟩:∃k,cur.size=k+1:=⟨cur.size-1,by omega⟩;obtain⟨kb,hkb⟩:∃k,cur'.size=k+1:=⟨cur'.size-1,by omega⟩;rw[hka]at hsa;rw[hkb]at hsb hfb';cases hfa:w.frozen? a<;>cases hfe:w.frozen? {block:=a.block,off:=ka+1}<;>
   simp[run_underlying ht,hz,hc,hnb,hnb',frozen,noView,viewAt,mayBeOne,stringish,shape,Sem.run,hsa,hsb,hfb,hfb',hfa,hfe]
structure InsLaw (P:Program) (f:FuncId) (K bytes:Nat):Prop where
 pos:0<K
 enter:Program.enterable P f=true
 inR:∀(w:World) (blk o n c i vb vo vc:Nat) (cur:Array Value) (t:TypeId) (cs vs:List Value),i<=n->n+1<=c->c<=maxLen->cs.length=n*K->vs.length=K->w.heap[blk]?=some (.cells cur t (0,0))->(∀j,j<n*K->cur[o+j]?=cs[j]?) ->
  o+c*K<=cur.size->(∀j v,vs[j]?=some v->w.cell? ⟨vb,vo+j,none⟩=some v)->vb≠blk->(∀v∈cs,v.oneCell'=true)->(∀v∈vs,v.oneCell'=true) ->
  Calls P f #[.slice (some ⟨blk,o,none⟩) n c,.int .i64 i,.slice (some ⟨vb,vo,none⟩) 1 vc] w λe w'=>e=.returned (.slice (some ⟨blk,o,none⟩) (n+1) c)/\∃(q:Nat) (us:Array Value),w'=(w.drewN q).setRow blk us/\us.size=cur.size /\
   ∀j,j<(n+1)*K->us[o+j]?=(cs.take (i*K)++vs++cs.drop (i*K))[j]?
 newR:∀(w:World) (base:Option Addr) (n c i vb vo vc:Nat) (cs vs:List Value),i<=n->n<=c->c<n+1->n+1<=maxLen->(n+1)*bytes<=H2->cs.length=n*K->vs.length=K->(base=none->n=0) ->
  (∀a,base=some a->(0<n->a.spot=none)/\∀j v,cs[j]?=some v->w.cell? (a.add j)=some v)->(∀j v,vs[j]?=some v->w.cell? ⟨vb,vo+j,none⟩=some v)->(∀v∈cs,v.oneCell'=true)->(∀v∈vs,v.oneCell'=true) ->
  Calls P f #[.slice base n c,.int .i64 i,.slice (some ⟨vb,vo,none⟩) 1 vc] w λe w'=>∃(q G:Nat) (us:Array Value) (t:TypeId),e=.returned (.slice (some ⟨w.heap.size,0,none⟩) (n+1) G)/\w'=(w.drewN q).alloc (.cells us t)/\n+1<=G/\G<=maxLen/\G*K<=us.size /\
   ∀j,j<(n+1)*K->us[j]?=(cs.take (i*K)++vs++cs.drop (i*K))[j]?
theorem Hy (w:World) (q:Nat):Bl w.heap.size w (w.drewN q):=⟨⟨rfl,rfl,rfl,A0Z _,λ_ _=>rfl⟩,Nat.le_add_right _ _⟩
theorem qP {cs vs:List Value} {xs:G3} {x:AV} {K n i:Nat} (hr:KF E cs xs K) (hl:cs.length=n*K) (Zm:xs.length=n) (hv:KF E vs [x] K) (hvl:vs.length=K) (hi:i<=n) :
  KF E (cs.take (i*K)++vs++cs.drop (i*K)) (xs.take i++x::xs.drop i) K:=by
 have h1:KF E (cs.take (i*K)) (xs.take i) K:=by
  intro j y hy;rw[A06]at hy;split at hy
  .rename_i hj;obtain⟨g1,g2⟩:=hr j y hy;refine⟨g1,λc z hz=>?_⟩;obtain⟨v,v1,v2⟩:=g2 c z hz;have hc:c<K:=by have:=(A0Q.1 hz).1;omega
   have:=Cz hj hc;exact⟨v,by rw[A06,if_pos (by omega)];exact v1,v2⟩
  .cases hy
 have h2:KF E (cs.drop (i*K)) (xs.drop i) K:=by
  intro j y hy;rw[A05]at hy;obtain⟨g1,g2⟩:=hr (i+j) y hy;refine⟨g1,λc z hz=>?_⟩;obtain⟨v,v1,v2⟩:=g2 c z hz;refine⟨v,?_,v2⟩;rw[A05,←A1G,←A1J];exact v1
 have hiK:i*K<=n*K:=A02 _ hi;have h3:=OA (OA h1 (by rw[A0j,A0j,hl,Zm,A0s hiK,A0s hi]) hv) (by
  rw[A0d,A0d,A0j,A0j,hl,Zm,hvl,A0s hiK,A0s hi,A1J];simp) h2
 rw[List.append_assoc (xs.take i)]at h3;exact h3
theorem gj (hS:SR E) {k n:Nat} {f:Fam} {v:Value} (hv:VR E (.sl k n 0 n) v) (hf:E.h.fams[k]?=some f) (hn:f.xs.length=n) (h0:0<n):∃(cur:Array Value) (t:TypeId) (cs:List Value),v=.slice (some ⟨(E.im k).b,(E.im k).o,none⟩) n (E.im k).cap/\(E.im k).lo=0/\n<=(E.im k).cap/\(E.im k).cap<=maxLen /\
  E.w.heap[(E.im k).b]?=some (.cells cur t (0,0))/\(E.im k).o+(E.im k).cap*f.sz<=cur.size/\cs.length=n*f.sz/\(∀j,j<n*f.sz->cur[(E.im k).o+j]?=cs[j]?)/\(∀u∈cs,u.oneCell'=true)/\KF E cs f.xs f.sz:=by
 simp only[VR]at hv;obtain⟨a,cap,f',rfl,hf',⟨_,_⟩,hv⟩:=hv;rw[hf]at hf';cases hf';obtain⟨l1,_,l3,_,l5⟩:=hv hn;have hF:=hS.fams k f hf;have TY:(E.im k).lo=0:=by omega
 have BF:=hF.room;have hcap:cap=(E.im k).cap:=by omega
 have ha:a=some ⟨(E.im k).b,(E.im k).o,none⟩:=by
  have:=l5 (by omega);rw[TY]at this;simpa using this
 subst ha;obtain⟨cur,t,hcur,Dn,Ul⟩:=hF.cells;rw[TY]at Ul;have hnK:n*f.sz<=(E.im k).cap*f.sz:=A02 _ (by omega);refine⟨cur,t,(A1K (n*f.sz)).map λj=>cur.getD ((E.im k).o+j) undef,by rw[hcap],TY,by omega,hF.cap,hcur,Dn,by simp,λj hj=>?_,λu hu=>?_,λj x hx=>?_⟩
 .rw[A0e,A0k hj,A0S,A0h,Array.getElem?_eq_getElem (by omega)];rfl
 .rw[A0v]at hu;obtain⟨j,hj,rfl⟩:=hu;rw[A1C]at hj;obtain⟨q1,q2,q3⟩:=kh hF.sz hj;obtain⟨g1,g2⟩:=Ul (j / f.sz) _ (A00 _) (A0R (by omega));obtain⟨u,u1,u2,_⟩:=g2 (j % f.sz) _ (A0R (by omega));rw[A0w,show (E.im k).o+j / f.sz*f.sz+j % f.sz=(E.im k).o+j from by omega]at u1;rw[A0h,u1];exact u2
 .obtain⟨g1,g2⟩:=Ul j x (A00 _) hx;refine⟨g1,λc y hy=>?_⟩;obtain⟨u,u1,u2,u3⟩:=g2 c y hy;rw[A0w]at u1;have hj:j<n:=by have:=(A0Q.1 hx).1;omega
  have hc:c<f.sz:=by have:=(A0Q.1 hy).1;omega
  have A7:=Cz hj hc;refine⟨u,?_,u2,u3⟩;rw[A0e,A0k A7,A0S,A0h,show (E.im k).o+(j*f.sz+c)=(E.im k).o+j*f.sz+c from by omega,u1];rfl
theorem Zx (hS:SR E) {q:Bool} {z K:Nat} {x:AV} {v:Value} (hz:z=K) (hv:VR E (.vs q z [x]) v):∃(vb vo vc:Nat) (vs:List Value),v=.slice (some ⟨vb,vo,none⟩) 1 vc/\vs.length=K/\(∀j u,vs[j]?=some u->E.w.cell? ⟨vb,vo+j,none⟩=some u/\E.ok vb (vo+j))/\(∀u∈vs,u.oneCell'=true)/\KF E vs [x] K/\0<K:=by
 subst hz;simp only[VR,PV]at hv;obtain⟨a,len,cap,rfl,rfl,_,_,_,_,h6⟩:=hv;obtain⟨b,o,rfl,hz,he⟩:=h6 (by simp);obtain⟨p1,p2⟩:=Qr he (j:=0) (x:=x) rfl;rw[A1I,A1H]at p2;have hex:∀c,c<z->∃u y,x.cells[c]?=some y/\E.ok b (o+c)/\E.w.cell? ⟨b,o+c,none⟩=some u/\u.oneCell'=true/\PV E.w E.ok y u:=λc hc=>by
  have A7:c<x.cells.length:=by omega
  obtain⟨u,u1,u2,u3,u4⟩:=KT p2 (A0R A7);exact⟨u,_,A0R A7,u1,u2,u3,u4⟩
 refine⟨b,o,cap,(A1K z).map λc=>(E.w.cell? ⟨b,o+c,none⟩).getD undef,rfl,by simp,λj u hu=>?_,λu hu=>?_,λj y hy=>?_,hz⟩
 .rw[A0e]at hu;by_cases hj:j<z
  .rw[A0k hj,A0S,Option.some.injEq]at hu;obtain⟨u',_,_,u1,u2,_⟩:=hex j hj;rw[u2]at hu ⊢;cases hu;exact⟨rfl,u1⟩
  .rw[List.getElem?_eq_none (by simpa using hj)]at hu;cases hu
 .rw[A0v]at hu;obtain⟨j,hj,rfl⟩:=hu;rw[A1C]at hj;obtain⟨u',_,_,u1,u2,u3,_⟩:=hex j hj;rw[u2];exact u3
 .have hj:j=0:=by
   have:=(A0Q.1 hy).1;simp at this;exact this
  subst hj;simp only[A0T,Option.some.injEq]at hy;subst hy;refine⟨p1,λc y hy=>?_⟩;have hc:c<z:=by have:=(A0Q.1 hy).1;omega
  obtain⟨u,u1,u2,u3,u4⟩:=KT p2 hy;refine⟨u,?_,u3,u4⟩;rw[A1I,Nat.zero_add,A0e,A0k hc,A0S,u2];rfl
theorem mn {f:FuncId} {K bytes:Nat} (L:InsLaw P f K bytes) (O:Orc) (args:G3) (h:AH) (r:AV) (h':AH) (he:(ml K bytes).run O args h=some (r,h')):Program.enterable P f=true /\
  ∀(E:Env) (vs:Array Value),SR E->E.h=h->Be E args vs.toList ->
   Calls P f vs E.w λe w'=>∃u E',e=.returned u/\w'=E'.w/\Ext E E'/\SR E'/\E'.h=h'/\VR E' r u:=by
 refine⟨L.enter,λE avs hS hh hv=>?_⟩;subst hh;change Ps K bytes args E.h=some (r,h')at he;unfold Ps at he;split at he
 .rename_i s i q z x;split at he
  .rename_i hc0;obtain⟨hzK,hag⟩:=hc0;obtain⟨avs⟩:=avs;simp only[Be]at hv;obtain⟨v0,_,rfl,hv0,v1,_,rfl,hv1,v2,_,rfl,hv2,rfl⟩:=hv;simp only[VR]at hv1;subst hv1;obtain⟨vb,vo,vc,vs,rfl,hvl,hvc,hv1c,hvr,hK⟩:=Zx hS hzK hv2;have hvc1:∀j u,vs[j]?=some u->E.w.cell? ⟨vb,vo+j,none⟩=some u:=λj u hu=>(hvc j u hu).1;have hv0':∃u,vs[0]?=some u:=⟨_,A0R (by omega)⟩;split at he
   .rename_i k n off len;split at he
    .rename_i f' hf;split at he
     .rename_i hc;obtain⟨c1,c2,c3,c4,c5,c6,c7,c8,c9,c10⟩:=hc;cases he;subst c2;have c3':=c3.symm;subst c3';obtain⟨cur,t,cs,rfl,TY,hncap,hcapm,hcur,Dn,GJ,hcc,hc1,hrow⟩:=gj hS hv0 hf c1 c4;rw[c6]at Dn GJ hcc hrow;have hi0:(i.toNat:Int)=i:=Int.toNat_of_nonneg c7;have XK:i.toNat<=n:=by omega
      have P0:vb≠(E.im k).b:=by
       obtain⟨u,hu⟩:=hv0';exact Xi hf c5 hS (hvc 0 u hu).2
      have hrow':∀{E':Env},Ext E E'->KF E' (cs.take (i.toNat*K)++vs++cs.drop (i.toNat*K)) (f'.xs.take i.toNat++x::f'.xs.drop i.toNat) K:=λhx=>Qu hx (qP hrow GJ c1 hvr hvl XK);have B8:(f'.xs.take i.toNat++x::f'.xs.drop i.toNat).length=n+1:=by simp;omega
      rw[←hi0];by_cases BF:n+1<=(E.im k).cap
      .refine(L.inR E.w (E.im k).b (E.im k).o n (E.im k).cap i.toNat vb vo vc cur t cs vs XK BF hcapm GJ hvl hcur hcc Dn hvc1 P0 hc1 hv1c).mono λe w' ⟨h1,q,us,h2,h3,h4⟩=>?_;have x1:=Bk hS (Hy E.w q);have s1:=HG hS (Hy E.w q);have hcur1:({E with w:=E.w.drewN q}:Env).w.heap[(({E with w:=E.w.drewN q}:Env).im k).b]?=some (.cells cur t (0,0)):=hcur
       have PL:f'.xs.length<=(f'.xs.take i.toNat++x::f'.xs.drop i.toNat).length:=by rw[B8];omega
       have x2:=Ki s1 (f':={f' with xs:=f'.xs.take i.toNat++x::f'.xs.drop i.toNat}) (us:=us) hf hcur1 rfl rfl PL (λhw=>by rw[c5]at hw;cases hw)
       have s2:=PY s1 (f':={f' with xs:=f'.xs.take i.toNat++x::f'.xs.drop i.toNat}) (us:=us) hf hcur1 rfl rfl PL (λhw=>by rw[c5]at hw;cases hw)
        (by show (f'.xs.take i.toNat++x::f'.xs.drop i.toNat).length<=(E.im k).lo+(E.im k).cap;omega) h3 (by
         intro j y _ hy;show Nt _ _ ((E.im k).o+(j-(E.im k).lo)*f'.sz) f'.sz y;rw[TY,A0w,c6];obtain⟨g1,g2⟩:=hrow' x1 j y hy;refine⟨g1,λc y' hy'=>?_⟩;obtain⟨v,v1,v2⟩:=g2 c y' hy';have hjn:j<n+1:=by have:=(A0Q.1 hy).1;rw[←B8];exact this
         have hcK:c<K:=by have:=(A0Q.1 hy').1;omega
         exact⟨v,by rw[A1G,h4 _ (Cz hjn hcK)];exact v1,v2⟩)
       refine⟨_,({E with w:=E.w.drewN q}:Env).setFam k us {f' with xs:=f'.xs.take i.toNat++x::f'.xs.drop i.toNat},h1,h2,x1.trans x2,s2,rfl,?_⟩
       have Dt:=(A0Q.1 hf).1;simp only[VR,Env.setFam];exact⟨_,_,{f' with xs:=f'.xs.take i.toNat++x::f'.xs.drop i.toNat},rfl,by simp[Dt],⟨by rw[B8];exact A0Z _,λ_=>⟨_,_,rfl⟩⟩,λ_=>⟨by omega,by omega,by omega,(λh=>nomatch h),λ_=>by simp[TY]⟩⟩
      .refine(L.newR E.w (some ⟨(E.im k).b,(E.im k).o,none⟩) n (E.im k).cap i.toNat vb vo vc cs vs XK hncap (by omega) c10 c9 GJ hvl (λh=>nomatch h) (λa ha=>?_) hvc1 hc1 hv1c).mono λe w' ⟨q,G,us,te,h1,h2,h3,h4,h5,h6⟩=>?_
       .cases ha;refine⟨λ_=>rfl,λj v hj=>?_⟩;have hjn:j<n*K:=by have:=(A0Q.1 hj).1;omega
        rw[FP,cell_of_row _ _ _ _ _ _ hcur,hcc j hjn];exact hj
       have x1:=Bk hS (Hy E.w q);have s1:=HG hS (Hy E.w q);have A7:f'.xs.length<(f'.xs.take i.toNat++x::f'.xs.drop i.toNat).length:=by rw[B8];omega
       have x2:=RS s1 (f':={f' with xs:=f'.xs.take i.toNat++x::f'.xs.drop i.toNat}) hf us te 0 G rfl A7
       have s2:=XZ s1 (f':={f' with xs:=f'.xs.take i.toNat++x::f'.xs.drop i.toNat}) (us:=us) (t:=te) (lo:=0) (cap:=G) hf rfl A7 (A00 _) (by show (f'.xs.take i.toNat++x::f'.xs.drop i.toNat).length<=0+G;omega) h4 (by rw[c6];exact h5) (by
         intro j y _ hy;rw[A0w,c6];obtain⟨g1,g2⟩:=hrow' x1 j y hy;refine⟨g1,λc y' hy'=>?_⟩;obtain⟨v,v1,v2⟩:=g2 c y' hy';have hjn:j<n+1:=by have:=(A0Q.1 hy).1;rw[←B8];exact this
         have hcK:c<K:=by have:=(A0Q.1 hy').1;omega
         exact⟨v,by rw[h6 _ (Cz hjn hcK)];exact v1,v2⟩)
       refine⟨_,({E with w:=E.w.drewN q}:Env).moveFam k us te 0 G {f' with xs:=f'.xs.take i.toNat++x::f'.xs.drop i.toNat},h1,h2,x1.trans x2,s2,rfl,?_⟩
       have Dt:=(A0Q.1 hf).1;simp only[VR,Env.moveFam,u6];exact⟨_,_,{f' with xs:=f'.xs.take i.toNat++x::f'.xs.drop i.toNat},rfl,by simp[Dt],⟨by rw[B8];exact A0Z _,λ_=>⟨_,_,rfl⟩⟩,λ_=>⟨A0Z _,by omega,by omega,(λh=>nomatch h),λ_=>by simp⟩⟩
     .cases he
    .cases he
   .rename_i z';split at he
    .rename_i hc;obtain⟨rfl,hb⟩:=hc;cases he;simp only[VR,PV]at hv0;obtain⟨base,len,cap,rfl,rfl,_,_,h4',_,_⟩:=hv0;have hcap:cap=0:=h4' trivial;subst hcap;refine(L.newR E.w base 0 0 0 vb vo vc [] vs (A0Z _) (A0Z _) (by omega) (by unfold maxLen;omega) (by omega) (by simp) hvl (λ_=>rfl) (λa ha=>?_) hvc1 (λ_ h=>nomatch h) hv1c).mono λe w' ⟨q,G,us,te,h1,h2,h3,h4,h5,h6⟩=>?_
     .exact⟨λh=>absurd h (Nat.lt_irrefl 0),λj v hj=>by simp at hj⟩
     have x1:=Bk hS (Hy E.w q);have s1:=HG hS (Hy E.w q);refine⟨_,({E with w:=E.w.drewN q}:Env).newFam us te G ⟨[x],K,true⟩,h1,h2,x1.trans (Ke s1 _ _ _ _),PR s1 hK (by simpa using h3) h4 h5 (λj y hy=>?_),rfl,?_⟩
     .obtain⟨g1,g2⟩:=Qu x1 hvr j y hy;refine⟨g1,λc y' hy'=>?_⟩;obtain⟨v,v1,v2⟩:=g2 c y' hy';have hjn:j<0+1:=by have:=(A0Q.1 hy).1;simpa using this
      have hcK:c<K:=by have:=(A0Q.1 hy').1;omega
      exact⟨v,by rw[h6 _ (Cz hjn hcK)];simpa using v1,v2⟩
     .simp only[VR,Env.newFam,u6];exact⟨_,_,⟨[x],K,true⟩,rfl,by simp,⟨by simp,λ_=>⟨_,_,rfl⟩⟩,λ_=>⟨A00 _,by simp,by simp,(λh=>nomatch h),λ_=>by simp⟩⟩
    .cases he
   .cases he
  .cases he
 .cases he
end
end Go.Abs
