/- A part of the proof. -/
import Derived.Test.YtohjdamplbhdpaaGreatDoorSB14
set_option linter.all false
open List renaming drop_eq_getElem_cons->A0O,drop_eq_nil_of_le->A0P,getElem_mem->A0Q,length_append->A0S,length_map->A0T,take_of_length_le->A0U,mem_cons_of_mem->A0V,mem_cons->A0W,getElem?_eq_getElem->A0X,pairwise_cons->A0Y,length_cons->A0Z,length_take->A0a,take_succ_eq_append_getElem->A0b,take_append_drop->A0c,map_append->A0e,mem_append->A0f,eq_nil_of_length_eq_zero->A0g,getElem_of_mem->A0h,map_cons->A0j,any_eq_true->A0k,length_drop->A0l,find?_cons->A0m,length_filter_le->A0n,mem_of_mem_drop->A0o,flatMap_append->A0p,mem_map_of_mem->A0q,mem_cons_self->A0s,mem_map->A0t,filter_cons->A0v,append_nil->A0x,filter_nil->A0y,any_cons->A00,length->A02
open Nat renaming le_refl->A0R,lt_or_eq_of_le->A0i
open Bool renaming eq_iff_iff->A0d,true_or->A0r,and_eq_true->A0u,or_eq_true->A0w,false_or->A0z
open Int renaming lt_or_le->A01
namespace Go.Abs.Q
open Go.Proofs
attribute [local simp] E6 E7 fin K1 H4 P2 L5
def K0 (l:List Tm) (t:Tm):Bool:=l.any λx=>JQ x t
theorem V6 {l:G6} {t:Tm}:K0 l t=true↔E3 t∈l.map E3:=by
 simp only[K0,A0k,JQ,decide_eq_true_eq,A0t,V5]
theorem VB (x:Tm) (l:G6) (t:Tm):K0 (x::l) t=(JQ x t||K0 l t):=rfl
theorem lz {R l:G6} (h:L0 R l) (t:Tm):K0 R t=K0 l t:=by
 rw[A0d,V6,V6];exact h.2 _
theorem WZ {l:G6} {t t':Tm} (h:E3 t=E3 t'):K0 l t=K0 l t':=by
 rw[A0d,V6,V6,h]
theorem rR (m:I6) (l:G6) (t:Tm) (B9:l.length<=1099511627776) (hs:∀x∈l,x.size<=1099511627776) (ht:t.size<=1099511627776) (fr:Fr) (h:AH) (hh:h=⟨[(B8 t).cells],[]⟩) (hl:fr.length=18) (h0:A0 fr 0=sl m 4 (A4 l)) (h3:A0 fr 3=.ptr 0 0) (h5:A0 fr 5=.int .i64 0) :
  B7 (lp (A2 (K8 Q) (D6 Lg) Fy) (fr,h)) λe C3 h'=>Kp Fy.wr fr C3/\(e=.exit 0/\K0 l t=false\/e=.ret/\A0 C3 4=.bool true/\K0 l t=true):=by
 refine B4 rfl fr (λn fr h'=>∃(i:Nat),i+n=l.length/\A0 fr 5=.int .i64 (i:Nat)/\(h'=⟨[(B8 t).cells],[]⟩/\K0 (l.drop i) t=K0 l t)) ?_ l.length h ⟨0,by omega,h5,hh,rfl⟩;rintro J Φ hJ hΦ n D5 H1 K ⟨i,hi,k5,hr⟩;have A6:=K.1.trans hl;have k0:=A8 K 0 h0;have k3:=A8 K 3 h3;clear K;by_cases A7:i<l.length
 .have L4:=C6 i (by omega);obtain⟨rfl,hr⟩:=hr;have hx:=I0 A7;have hS:=Wi l[i] t (hs _ (A0Q A7)) ht;rw[A0O A7,VB]at hr;clear hh;generalize l[i]=s at *
  by_cases hc:JQ s t=true
  .rw[hc]at hS hr;rw[A0r]at hr;simp[Fy,A6,k0,k3,k5,A7,hx,hS];exact hΦ _ _ _ (.inr ⟨rfl,by simp[A6],hr.symm⟩)
  .simp only[Bool.not_eq_true]at hc;rw[hc]at hS hr;simp[Fy,A6,k0,k3,k5,A7,L4,hx,hS];exact G0 hJ ⟨i+1,by omega,by simp[A6],by simp,by simpa using hr⟩
 .obtain⟨rfl,hr⟩:=hr;rw[A0P (by omega)]at hr;simp[Fy,A6,k0,k5,A7];exact hΦ _ _ _ (.inl ⟨rfl,hr.symm⟩)
theorem sH (m:I6) (l:G6) (t:Tm) (B9:l.length<=1099511627776) (hs:∀x∈l,x.size<=1099511627776) (ht:t.size<=1099511627776) :
  pc Q Lg [sl m 4 (A4 l),B8 t]=some (.bool (K0 l t)):=by
 refine M9 Rm λfr hl h0 h1=>?_;simp[Rm]at hl h0 h1;simp[Rm,h1];refine B7.mono (rR m l t B9 hs ht _ _ ?_ ?_ ?_ ?_ ?_) ?_<;>first|(simp[hl,h0];done)|skip
 rintro e D5 Cw ⟨K,⟨rfl,hh⟩|⟨rfl,h4,hh⟩⟩
 .have A6:D5.length=18:=K.1.trans (by simp[hl]);simp[A6,hh]
 .simp[h4,hh]
theorem ol (m:I6) (l:G6) (t:Tm) (B9:l.length<=1099511627776) (hs:∀x∈l,x.size<=1099511627776) (ht:t.size<=1099511627776) :
  pc Q ON [sl m 4 (A4 l),B8 t]=some (.bool (K0 l t)):=by
 have hH:=sH m l t B9 hs ht;refine M9 Ro λfr hl h0 h1=>?_;simp[Ro]at hl h0 h1;simp[Ro,hl,h0,h1,hH]
def Lo (t:Tm):Bool->List Tm->List Tm
 |d,[]=>if d then []else [t]
 |d,x::l=>if d=false/\H6 t x<=0 then (if H6 t x<0 then t::x::Lo t true l else x::Lo t true l)else x::Lo t d l
theorem mD (t:Tm) (d:Bool) (x:Tm) (l:G6):Lo t d (x::l)=if d=false/\H6 t x<=0 then (if H6 t x<0 then t::x::Lo t true l else x::Lo t true l)else x::Lo t d l:=rfl
theorem ZU (t:Tm) (l:G6):Lo t true l=l:=by
 induction l with
 |nil=>rfl
 |cons x l ih=>simp[Lo,ih]
theorem Uu:∀(t:Tm) (l:G6),l.Pairwise (λa b=>H6 a b<0)->(Lo t false l).Pairwise (λa b=>H6 a b<0)/\(∀x∈Lo t false l,x=t\/x∈l)/\(∀x∈l,x∈Lo t false l)/\E3 t∈(Lo t false l).map E3/\(Lo t false l).length<=l.length+1
 |t,[],_=>by simp[Lo]
 |t,x::l,h=>by
  obtain⟨h1,h2⟩:=A0Y.1 h;obtain⟨i1,i2,i3,i4,i5⟩:=Uu t l h2;unfold Lo;by_cases hc:H6 t x<=0
  .rw[if_pos ⟨rfl,hc⟩,ZU];by_cases hc2:H6 t x<0
   .rw[if_pos hc2];refine⟨A0Y.2 ⟨λy hy=>?_,h⟩,λy hy=>by simpa using hy,λy hy=>A0V _ hy,by simp,by simp⟩;rcases A0W.1 hy with rfl|hy
    .exact hc2
    .exact GZ hc2 (h1 y hy)
   .rw[if_neg hc2];have:E3 t=E3 x:=V5.1 (by omega);exact⟨h,λy hy=>.inr hy,λy hy=>hy,by simp[this],by simp⟩
  .rw[if_neg (λk=>hc k.2)];have hxt:H6 x t<0:=by
    rcases A01 (H6 x t) 0 with q|q
    .exact q
    .rcases Int.lt_or_eq_of_le q with q|q
     .have:=KS.1.2 q;omega
     .have:=KS.2.1 q.symm;omega
   refine⟨A0Y.2 ⟨λy hy=>?_,i1⟩,λy hy=>?_,λy hy=>?_,?_,by simp only[A0Z];omega⟩
   .rcases i2 y hy with rfl|hy
    .exact hxt
    .exact h1 y hy
   .rcases A0W.1 hy with rfl|hy
    .exact .inr A0s
    .rcases i2 y hy with rfl|hy
     .exact .inl rfl
     .exact .inr (A0V _ hy)
   .rcases A0W.1 hy with rfl|hy
    .exact A0s
    .exact A0V _ (i3 y hy)
   .rw[A0j];exact A0V _ i4
theorem iD {t:Tm} {R l:G6} (h:L0 R l):L0 (Lo t false R) (l++[t]):=by
 obtain⟨i1,i2,i3,i4,-⟩:=Uu t R h.1;refine⟨i1,λe=>?_⟩;rw[A0e,A0f,A0j,List.map_nil,List.mem_singleton,←h.2 e];constructor
 .intro he;obtain⟨x,hx,rfl⟩:=A0t.1 he;rcases i2 x hx with rfl|hx
  .exact .inr rfl
  .exact .inl (A0q hx)
 .rintro(he|rfl)
  .obtain⟨x,hx,rfl⟩:=A0t.1 he;exact A0q (i3 x hx)
  .exact i4
theorem rO (m:I6) (l:G6) (t:Tm) (B9:l.length<=1048576) (hs:∀x∈l,x.size<=1099511627776) (ht:t.size<=1099511627776) (fr:Fr) (h:AH) (hh:h=⟨[(B8 t).cells],[]⟩) (h5:A0 fr 5=.vs true 0 []) (h6:A0 fr 6=.bool false) (hl:fr.length=47) (h0:A0 fr 0=sl m 4 (A4 l)) (h3:A0 fr 3=.ptr 0 0) (h7:A0 fr 7=.int .i64 0) :
  B7 (lp (A2 (K8 Q) (D6 q9) AN) (fr,h)) λe C3 h'=>Kp AN.wr fr C3/\e=.exit 0/\∃(acc:List Tm) (d:Bool) (v:AV),h'.boxes=[(B8 t).cells]/\A0 C3 5=v/\A0 C3 6=.bool d/\Du 4 (A4 acc) v h'/\acc.length<=2*l.length/\acc++Lo t d []=Lo t false l:=by
 refine B4 rfl fr (λn fr h'=>∃(i:Nat),i+n=l.length/\A0 fr 7=.int .i64 (i:Nat)/\(∃(acc:List Tm) (d:Bool) (v:AV),h'.boxes=[(B8 t).cells]/\A0 fr 5=v/\A0 fr 6=.bool d/\Du 4 (A4 acc) v h'/\acc.length<=2*i/\acc++Lo t d (l.drop i)=Lo t false l)) ?_ l.length h ⟨0,by omega,h7,[],false,_,by rw[hh],h5,h6,Cu _ _,by simp,rfl⟩;rintro J Φ hJ hΦ n D5 H1 K ⟨i,hi,k7,hr⟩;have A6:=K.1.trans hl;have k0:=A8 K 0 h0;have k3:=A8 K 3 h3;clear K;by_cases A7:i<l.length
 .have L4:=C6 i (by omega);obtain⟨acc,d,v,hB,k5,k6,hg,hal,hr⟩:=hr;obtain⟨B,F⟩:=H1;simp only at hB;subst hB;have hx:=I0 A7;have hC:=Sx _ t l[i] (A0R _) ht (hs _ (A0Q A7));rw[A0O A7]at hr;clear hh;generalize l[i]=s at *
  have hlA:(A4 acc).length=acc.length:=by rw[C9,A0T]
  rw[mD]at hr;by_cases hc:d=false/\H6 t s<=0
  .obtain⟨rfl,hc⟩:=hc;rw[if_pos ⟨rfl,hc⟩]at hr;by_cases hc2:H6 t s<0
   .rw[if_pos hc2]at hr;obtain⟨v1,⟨B1,F1⟩,a1,g1,b1⟩:=Ag (c:=D6 q9) (bytes:=56) (x:=B8 t) hg rfl (true,true) (by omega) (by omega);obtain⟨v2,⟨B2,F2⟩,a2,g2,b2⟩:=Ag (c:=D6 q9) (bytes:=56) (x:=B8 s) g1 rfl (true,true) (by simp;omega) (by simp;omega);simp only at b1 b2;subst b1 b2;rw[←P9]at g2 g1;rw[←P9]at g2;obtain⟨c1,c2,-⟩:=L6 g1;obtain⟨c3,c4,-⟩:=L6 g2;simp only[I3]at a1 a2;simp[AN,A6,k0,k3,k7,A7,L4,k5,k6,hx,hC,hc,hc2,A5,a1,a2];exact G0 hJ ⟨i+1,by omega,by simp[A6],acc++[t]++[s],true,_,by simp,by simp[A6],by simp[A6],g2,by simp;omega,by rw[←hr];simp⟩
   .rw[if_neg hc2]at hr;obtain⟨v1,⟨B1,F1⟩,a1,g1,b1⟩:=Ag (c:=D6 q9) (bytes:=56) (x:=B8 s) hg rfl (true,true) (by omega) (by omega);simp only at b1;subst b1;rw[←P9]at g1;obtain⟨c1,c2,-⟩:=L6 g1;simp only[I3]at a1;simp[AN,A6,k0,k3,k7,A7,L4,k5,k6,hx,hC,hc,hc2,A5,a1];exact G0 hJ ⟨i+1,by omega,by simp[A6],acc++[s],true,_,by simp,by simp[A6],by simp[A6],g1,by simp;omega,by rw[←hr];simp⟩
  .rw[if_neg hc]at hr;obtain⟨v1,⟨B1,F1⟩,a1,g1,b1⟩:=Ag (c:=D6 q9) (bytes:=56) (x:=B8 s) hg rfl (true,true) (by omega) (by omega);simp only at b1;subst b1;rw[←P9]at g1;obtain⟨c1,c2,-⟩:=L6 g1;simp only[I3]at a1;have hc':d=true\/¬H6 t s<=0:=by cases d<;>simp_all
   rcases hc' with rfl|hc'
   .simp[AN,A6,k0,k3,k7,A7,L4,k5,k6,hx,hC,A5,a1];exact G0 hJ ⟨i+1,by omega,by simp[A6],acc++[s],true,_,by simp,by simp[A6],by simp[k6],g1,by simp;omega,by rw[←hr];simp⟩
   .cases d with
    |false =>
     simp[AN,A6,k0,k3,k7,A7,L4,k5,k6,hx,hC,hc',A5,a1];exact G0 hJ ⟨i+1,by omega,by simp[A6],acc++[s],false,_,by simp,by simp[A6],by simp[k6],g1,by simp;omega,by rw[←hr];simp⟩
    |true =>
     simp[AN,A6,k0,k3,k7,A7,L4,k5,k6,hx,hC,A5,a1];exact G0 hJ ⟨i+1,by omega,by simp[A6],acc++[s],true,_,by simp,by simp[A6],by simp[k6],g1,by simp;omega,by rw[←hr];simp⟩
 .obtain⟨acc,d,v,hB,k5,k6,hg,hal,hr⟩:=hr;rw[A0P (by omega)]at hr;simp[AN,A6,k0,k7,A7];exact hΦ _ _ _ ⟨rfl,acc,d,v,hB,by simp[k5],by simp[k6],hg,by omega,hr⟩
theorem xu (m:I6) (l:G6) (t:Tm) (B9:l.length<=1048576) (hs:∀x∈l,x.size<=1099511627776) (ht:t.size<=1099511627776) :
  ∃m',pc Q q9 [sl m 4 (A4 l),B8 t]=some (sl m' 4 (A4 (Lo t false l))):=by
 suffices h:∃v,pc Q q9 [sl m 4 (A4 l),B8 t]=some v/\∃q:Bool×Bool,v=sl q 4 (A4 (Lo t false l)) by
  obtain⟨v,h1,q,rfl⟩:=h;exact⟨q,h1⟩
 refine Sk Rk λΨ hΨ fr hl h0 h1=>?_;simp[Rk]at hl h0 h1;simp[Rk,h1];refine B7.mono (rO m l t B9 hs ht _ _ ?_ ?_ ?_ ?_ ?_ ?_ ?_) ?_<;>first|(simp[hl,h0];done)|skip
 rintro e D5 ⟨B,F⟩ ⟨K,rfl,acc,d,v,hB,k5,k6,hg,hal,hr⟩;simp only at hB;subst hB;have J2:D5.length=47:=K.1.trans (by simp[hl]);have OJ:A0 D5 3=.ptr 0 0:=A8 K 3 (by simp[hl]);clear K;have hlA:(A4 acc).length=acc.length:=by rw[C9,A0T]
 cases d with
 |true =>
  rw[ZU,A0x]at hr;obtain⟨mm,hz⟩:=KQ hg;obtain⟨c1,c2,c3⟩:=L6 hg;simp only[I3]at hz;simp[J2,k5,k6,hz];refine hΨ _ ⟨mm,?_⟩;rw[hr]
 |false =>
  obtain⟨v1,⟨B1,F1⟩,a1,g1,b1⟩:=Ag (c:=D6 q9) (bytes:=56) (x:=B8 t) hg rfl (true,true) (by omega) (by omega);simp only at b1;subst b1;rw[←P9]at g1;simp only[Lo]at hr;rw[if_neg (by simp)]at hr;obtain⟨mm,hz⟩:=KQ g1;obtain⟨c1,c2,c3⟩:=L6 g1;simp only[I3]at a1 hz;simp[J2,OJ,k5,k6,hz,a1,A5];exact hΨ _ ⟨mm,by rw[hr]⟩
theorem rS (m:I6) (l:G6) (B9:l.length<=1048576) (hs:∀x∈l,x.size<=1099511627776) (fr:Fr) (h:AH) (h3:A0 fr 3=.vs true 0 []) (hl:fr.length=18) (h0:A0 fr 0=sl m 4 (A4 l)) (h4:A0 fr 4=.int .i64 0) :
  B7 (lp (A2 (K8 Q) (D6 DC) IM) (fr,h)) λe C3 h'=>Kp IM.wr fr C3/\e=.exit 0/\∃(R:List Tm) (m':Bool×Bool),A0 C3 3=sl m' 4 (A4 R)/\L0 R l/\(∀x∈R,x∈l)/\R.length<=l.length:=by
 refine B4 rfl fr (λn fr h'=>∃(i:Nat),i+n=l.length/\A0 fr 4=.int .i64 (i:Nat)/\(∃(R:List Tm) (m':Bool×Bool),A0 fr 3=sl m' 4 (A4 R)/\L0 R (l.take i)/\(∀x∈R,x∈l)/\R.length<=i)) ?_ l.length h ⟨0,by omega,h4,[],(true,false),h3.trans (In 4),⟨List.Pairwise.nil,λ_=>Iff.rfl⟩,λ_ h=>(nomatch h),A0R _⟩;rintro J Φ hJ hΦ n D5 H1 K ⟨i,hi,k4,hr⟩;have A6:=K.1.trans hl;have k0:=A8 K 0 h0;clear K;by_cases A7:i<l.length
 .have L4:=C6 i (by omega);obtain⟨R,m',k3,q8,hsub,hRl⟩:=hr;have hx:=I0 A7;have Ii:=A0Q A7;obtain⟨m2,hA⟩:=xu m' R l[i] (by omega) (λx hx=>hs x (hsub x hx)) (hs _ Ii);have h2:=iD (t:=l[i]) q8;rw[←A0b A7]at h2;obtain⟨-,j2,-,-,j5⟩:=Uu l[i] R q8.1;generalize l[i]=s at *
  simp[IM,A6,k0,k4,A7,L4,k3,hx,hA];refine⟨n-1,by omega,hJ _ _ _ ⟨i+1,by omega,by simp[A6],Lo s false R,m2,by simp[A6],h2,λx hx=>?_,by omega⟩⟩;rcases j2 x hx with rfl|hx
  .exact Ii
  .exact hsub x hx
 .obtain⟨R,m',k3,q8,hsub,hRl⟩:=hr;rw[A0U (by omega)]at q8;simp[IM,A6,k0,k4,A7];exact hΦ _ _ _ ⟨rfl,R,m',by simp[k3],q8,hsub,by omega⟩
theorem cL (m:I6) (l:G6) (B9:l.length<=1048576) (hs:∀x∈l,x.size<=1099511627776) :
  ∃(R:List Tm) (m':Bool×Bool),pc Q DC [sl m 4 (A4 l)]=some (sl m' 4 (A4 R))/\L0 R l/\(∀x∈R,x∈l)/\R.length<=l.length:=by
 suffices h:∃v,pc Q DC [sl m 4 (A4 l)]=some v/\∃q:List Tm×(Bool×Bool),v=sl q.2 4 (A4 q.1)/\L0 q.1 l/\(∀x∈q.1,x∈l)/\q.1.length<=l.length by
  obtain⟨v,h1,q,rfl,h2⟩:=h;exact⟨q.1,q.2,h1,h2⟩
 refine GV Rn λΨ hΨ fr hl h0=>?_;simp[Rn]at hl h0;simp[Rn];refine B7.mono (rS m l B9 hs _ _ ?_ ?_ ?_ ?_) ?_<;>first|(simp[hl,h0];done)|skip
 rintro e D5 h1 ⟨K,rfl,R,m',k3,h2⟩;have A6:D5.length=18:=K.1.trans (by simp[hl]);simp[A6,k3];exact hΨ _ ⟨(R,m'),rfl,h2⟩
def gy (sz:Nat) (acc:List AV) (v:AV) (h:AH):Prop:=v=sl (true,true) sz acc\/Du sz acc v h
theorem Ws {c:Ctx} {sz bytes:Nat} {acc ys:G4} {v x:AV} {h:AH} (hg:gy sz acc v h) (hm:c.mutApp=false) (hx:AS h sz x=some ys) (P6:ys≠[])
  (hb:(acc.length+ys.length)*bytes<=H3/\acc.length+ys.length<=maxLen):∃v' h',K3 c h sz bytes v x=some (v',h')/\Du sz (acc++ys) v' h'/\h'.boxes=h.boxes:=by
 rcases hg with rfl|hg
 .have e:K3 c h sz bytes (sl (true,true) sz acc) x=some (.sl h.fams.length (acc.length+ys.length) 0 (acc.length+ys.length),{h with fams:=h.fams++[⟨acc++ys,sz,c.mutApp⟩]}):=by
   have:sl (true,true) sz acc=.vs true sz acc:=by simp[sl]
   rw[this];simp only[K3,hx];rw[if_neg (λk=>P6 (A0g k)),if_pos ⟨by simp,hb⟩]
  rw[e,hm];exact⟨_,_,rfl,.inr ⟨by simp[P6],h.fams.length,by simp,by simp⟩,rfl⟩
 .exact Nz hg hm hx hb
theorem dP {sz:Nat} {acc:G4} {v:AV} {h:AH} (hg:gy sz acc v h):∃m,DZ h v=some (sl m sz acc):=by
 rcases hg with rfl|hg
 .exact⟨(true,true),rfl⟩
 .exact KQ hg
theorem gz {sz:Nat} {acc:G4} {v:AV} {h:AH} (hg:gy sz acc v h):v.isTup=false/\v.cells=[v]/\Es [v]=false:=by
 rcases hg with rfl|hg
 .exact⟨rfl,rfl,rfl⟩
 .exact L6 hg
theorem Uf (a b:G6):A4 (a++b)=A4 a++A4 b:=by simp[C9]
theorem uS (t:Tm):A4 (Cv t)≠[]:=by
 rw[AF,C9];simp
theorem rP (m:I6) (l:G6) (t:Tm) (x0 x1 x2:AV) (B9:Tm.sizes l<=1048576) (hll:l.length<=1048576) (IH:∀x∈l,∃m',pc Q BR [B8 x]=some (sl m' 4 (A4 (Cv x)))) (fr:Fr) (h:AH) (hh:h.boxes=[[x0,x1,x2,sl m 4 (A4 l)]]) (h3:A0 fr 3=sl (true,true) 4 [B8 t]) (hl:fr.length=23) (h1:A0 fr 1=.ptr 0 0) (h4:A0 fr 4=.int .i64 0) :
  B7 (lp (A2 (K8 Q) (D6 BR) IL) (fr,h)) λe C3 h'=>Kp IL.wr fr C3/\e=.exit 0/\∃v:AV,h'.boxes=[[x0,x1,x2,sl m 4 (A4 l)]]/\A0 C3 3=v/\gy 4 (A4 (t::alls l)) v h':=by
 refine B4 rfl fr (λn fr h'=>∃(i:Nat),i+n=l.length/\A0 fr 4=.int .i64 (i:Nat)/\(∃v:AV,h'.boxes=[[x0,x1,x2,sl m 4 (A4 l)]]/\A0 fr 3=v/\gy 4 (A4 (t::alls (l.take i))) v h')) ?_ l.length h ⟨0,by omega,h4,_,hh,h3,.inl rfl⟩;rintro J Φ hJ hΦ n D5 H1 K ⟨i,hi,k4,hr⟩;have A6:=K.1.trans hl;have k1:=A8 K 1 h1;clear K;by_cases A7:i<l.length
 .have L4:=C6 i (by omega);obtain⟨v,hB,k3,hg⟩:=hr;obtain⟨B,F⟩:=H1;simp only at hB;subst hB;have hx:=I0 A7;obtain⟨m',hA⟩:=IH l[i] (A0Q A7);have hat:=PM A7;have hal:=Q5 (l.take (i+1));have a3:Tm.sizes (l.take (i+1))<=Tm.sizes l:=by
   have e:=congrArg A02 (congrArg alls (A0c (i+1) l));rw[G2,G2,A0p,A0S,←G2,←G2,←G2,Q5,Q5,Q5]at e;omega
  rw[hat]at hal;obtain⟨v1,⟨B1,F1⟩,a1,g1,b1⟩:=Ws (c:=D6 BR) (bytes:=56) (x:=sl m' 4 (A4 (Cv l[i]))) hg rfl (N0 _ m' 4 _) (uS _) (by
   simp only[A0S]at hal;simp only[H3,maxLen,C9,A0T,A0Z];omega)
  simp only at b1;subst b1;rw[←Uf,List.cons_append,←hat]at g1;clear hat hal hg hh;generalize l[i]=s at *
  simp[IL,A6,k1,k4,A7,L4,k3,hx,hA,a1];exact G0 hJ ⟨i+1,by omega,by simp[A6],v1,by simp,by simp[A6],.inr g1⟩
 .obtain⟨v,hB,k3,hg⟩:=hr;rw[A0U (by omega)]at hg;obtain⟨B,F⟩:=H1;simp only at hB;subst hB;simp[IL,A6,k1,k4,A7];exact hΦ _ _ _ ⟨rfl,v,rfl,by simp[k3],hg⟩
theorem jV:∀(n:Nat) (t:Tm),t.size<=n->t.size<=1048576->∃m',pc Q BR [B8 t]=some (sl m' 4 (A4 (Cv t))):=by
 intro n
 induction n with
 |zero=>intro t h;have:=t.size_pos;omega
 |succ n ih =>
  intro t hn hb;have J5:=t.kids_size;have GX:=rP t.cm t.kids t (.int .i64 t.kind) (.str t.name) (.int .i64 t.sort) (by omega) (by have:=Tm.length_le t.kids;omega) (λt' ht'=>by have:=Tm.size_le ht';exact ih t' (by omega) (by omega));clear ih
  suffices h:∃v,pc Q BR [B8 t]=some v/\∃q:Bool×Bool,v=sl q 4 (A4 (Cv t)) by
   obtain⟨v,h1,q,rfl⟩:=h;exact⟨q,h1⟩
  refine GV Rl λΨ hΨ fr hl h0=>?_;simp[Rl]at hl h0;simp[Rl,hl,h0,A5];refine B7.mono (GX _ _ ?_ ?_ ?_ ?_ ?_) ?_<;>first|(simp[hl];done)|skip
  rintro e D5 ⟨B,F⟩ ⟨K,rfl,v,hB,k3,hg⟩;obtain⟨mm,hz⟩:=dP hg;obtain⟨c1,c2,c3⟩:=gz hg;have A6:D5.length=23:=K.1.trans (by simp[hl]);simp[A6,k3,hz];exact hΨ _ ⟨mm,by rw[AF]⟩
theorem VG (m:I6) (l:G6) (B9:Tm.sizes l<=1048576) (hll:l.length<=1048576) (fr:Fr) (h:AH) (hh:h.boxes=[]) (h3:A0 fr 3=.vs true 0 []) (hl:fr.length=20) (h0:A0 fr 0=sl m 4 (A4 l)) (h4:A0 fr 4=.int .i64 0) :
  B7 (lp (A2 (K8 Q) (D6 BY) By) (fr,h)) λe C3 h'=>Kp By.wr fr C3/\e=.exit 0/\∃v:AV,h'.boxes=[]/\A0 C3 3=v/\Du 4 (A4 (alls l)) v h':=by
 refine B4 rfl fr (λn fr h'=>∃(i:Nat),i+n=l.length/\A0 fr 4=.int .i64 (i:Nat)/\(∃v:AV,h'.boxes=[]/\A0 fr 3=v/\Du 4 (A4 (alls (l.take i))) v h')) ?_ l.length h ⟨0,by omega,h4,_,hh,h3,Cu _ _⟩;rintro J Φ hJ hΦ n D5 H1 K ⟨i,hi,k4,hr⟩;have A6:=K.1.trans hl;have k0:=A8 K 0 h0;clear K;by_cases A7:i<l.length
 .have L4:=C6 i (by omega);obtain⟨v,hB,k3,hg⟩:=hr;obtain⟨B,F⟩:=H1;simp only at hB;subst hB;have hx:=I0 A7;have hat:=PM A7;have hal:=Q5 (l.take (i+1));have a3:Tm.sizes (l.take (i+1))<=Tm.sizes l:=by
   have e:=congrArg A02 (congrArg alls (A0c (i+1) l));rw[G2,G2,A0p,A0S,←G2,←G2,←G2,Q5,Q5,Q5]at e;omega
  rw[hat]at hal;obtain⟨m',hA⟩:=jV _ l[i] (A0R _) (by have:=Tm.size_le (A0Q A7);omega);obtain⟨v1,⟨B1,F1⟩,a1,g1,b1⟩:=Nz (c:=D6 BY) (bytes:=56) (x:=sl m' 4 (A4 (Cv l[i]))) hg rfl (N0 _ m' 4 _) (by
   simp only[A0S]at hal;simp only[H3,maxLen,C9,A0T];omega)
  simp only at b1;subst b1;rw[←Uf,←hat]at g1;clear hat hal hg hh;generalize l[i]=s at *
  simp[By,A6,k0,k4,A7,L4,k3,hx,hA,a1];exact G0 hJ ⟨i+1,by omega,by simp[A6],v1,by simp,by simp[A6],g1⟩
 .obtain⟨v,hB,k3,hg⟩:=hr;rw[A0U (by omega)]at hg;simp[By,A6,k0,k4,A7];exact hΦ _ _ _ ⟨rfl,v,hB,by simp[k3],hg⟩
theorem YG (m:I6) (l:G6) (B9:Tm.sizes l<=1048576) :
  ∃(R:List Tm) (m':Bool×Bool),pc Q BY [sl m 4 (A4 l)]=some (sl m' 4 (A4 R))/\L0 R (alls l)/\(∀x∈R,x∈alls l)/\R.length<=Tm.sizes l:=by
 suffices h:∃v,pc Q BY [sl m 4 (A4 l)]=some v/\∃q:List Tm×(Bool×Bool),v=sl q.2 4 (A4 q.1)/\L0 q.1 (alls l)/\(∀x∈q.1,x∈alls l)/\q.1.length<=Tm.sizes l by
  obtain⟨v,h1,q,rfl,h2⟩:=h;exact⟨q.1,q.2,h1,h2⟩
 have hal:=Q5 l;refine GV Kt λΨ hΨ fr hl h0=>?_;simp[Kt]at hl h0;simp[Kt];refine B7.mono (VG m l B9 (by have:=Tm.length_le l;omega) _ _ ?_ ?_ ?_ ?_ ?_) ?_<;>first|(simp[hl,h0];done)|skip
 rintro e D5 h1 ⟨K,rfl,v,hB,k3,hg⟩;have A6:D5.length=20:=K.1.trans (by simp[hl]);obtain⟨mm,hz⟩:=SD hg;have htm:CO h1 v=true:=by
  rcases hg with ⟨_,rfl⟩|⟨_,k,rfl,hk⟩
  .rfl
  .simp only[CO,KM,hk];rfl
 obtain⟨R,m',hS,q8,hsub,hRl⟩:=cL mm (alls l) (by omega) (λx hx=>by
  rw[G2]at hx;obtain⟨y,hy,hx⟩:=List.mem_flatMap.1 hx;have:=SE _ y (A0R _) x hx;have:=Tm.size_le hy;omega)
 simp[A6,k3,hz,hS,htm];exact hΨ _ ⟨(R,m'),rfl,q8,hsub,by rw[←hal];exact hRl⟩
theorem nK (m:I6) (l:G6) (kd:Int) (hll:l.length<=1048576) (fr:Fr) (h:AH) (h5:A0 fr 5=.vs true 0 []) (hl:fr.length=32) (h1:A0 fr 1=.int .i64 kd) (h6:A0 fr 6=sl m 4 (A4 l)) (h7:A0 fr 7=.int .i64 0) :
  B7 (lp (A2 (K8 Q) (D6 HM) EL) (fr,h)) λe C3 h'=>Kp EL.wr fr C3/\e=.exit 0/\∃v:AV,h'.boxes=h.boxes/\A0 C3 5=v/\Du 4 (A4 (l.filter λx=>decide (x.kind=kd))) v h':=by
 refine B4 rfl fr (λn fr h'=>∃(i:Nat),i+n=l.length/\A0 fr 7=.int .i64 (i:Nat)/\(∃v:AV,h'.boxes=h.boxes/\A0 fr 5=v/\Du 4 (A4 ((l.take i).filter λx=>decide (x.kind=kd))) v h')) ?_ l.length h ⟨0,by omega,h7,_,rfl,h5,Cu _ _⟩;rintro J Φ hJ hΦ n D5 H1 K ⟨i,hi,k7,hr⟩;have A6:=K.1.trans hl;have k1:=A8 K 1 h1;have k6:=A8 K 6 h6;clear K;by_cases A7:i<l.length
 .have L4:=C6 i (by omega);obtain⟨v,hB,k5,hg⟩:=hr;have hx:=I0 A7;have hfl:=A0n (λx:Tm=>decide (x.kind=kd)) (l.take i);have htl:(l.take i).length<=1048576:=by rw[A0a];omega
  have e2:(l.take (i+1)).filter (λx:Tm=>decide (x.kind=kd))=(l.take i).filter (λx:Tm=>decide (x.kind=kd))++[l[i]].filter (λx:Tm=>decide (x.kind=kd)):=by
   rw[A0b A7,List.filter_append]
  generalize l[i]=s at *
  by_cases hc:s.kind=kd
  .subst hc;rw[A0v,if_pos (by simp),A0y]at e2;have hz2:(A4 ((l.take i).filter λx=>decide (x.kind=s.kind))).length=((l.take i).filter λx=>decide (x.kind=s.kind)).length:=by rw[C9,A0T]
   obtain⟨v1,⟨B1,F1⟩,a1,g1,b1⟩:=Ag (c:=D6 HM) (bytes:=56) (x:=B8 s) hg rfl (true,true) (by omega) (by omega);simp only at b1;subst b1;rw[←P9,←e2]at g1;obtain⟨c1,c2,c3⟩:=L6 g1;simp[EL,A6,k1,k6,k7,A7,L4,k5,hx,A5,a1];exact G0 hJ ⟨i+1,by omega,by simp[A6],v1,hB,by simp[A6],g1⟩
  .rw[A0v,if_neg (by simp[hc]),A0y,A0x]at e2;rw[←e2]at hg;simp[EL,A6,k1,k6,k7,A7,L4,hx,hc];exact G0 hJ ⟨i+1,by omega,by simp[A6],v,hB,by simp[k5],hg⟩
 .obtain⟨v,hB,k5,hg⟩:=hr;rw[A0U (by omega)]at hg;simp[EL,A6,k6,k7,A7];exact hΦ _ _ _ ⟨rfl,v,hB,by simp[k5],hg⟩
theorem jl (t:Tm) (kd:Int) (B9:t.size<=1048576) :
  ∃(R:List Tm) (m':Bool×Bool),pc Q HM [B8 t,.int .i64 kd]=some (sl m' 4 (A4 R))/\L0 R ((Cv t).filter λx=>decide (x.kind=kd)):=by
 obtain⟨m,hA⟩:=jV _ t (A0R _) B9;have hal:=Mm t;have hfl:=A0n (λx:Tm=>decide (x.kind=kd)) (Cv t)
 suffices h:∃v,pc Q HM [B8 t,.int .i64 kd]=some v/\∃q:List Tm×(Bool×Bool),v=sl q.2 4 (A4 q.1)/\L0 q.1 ((Cv t).filter λx=>decide (x.kind=kd)) by
  obtain⟨v,h1,q,rfl,h2⟩:=h;exact⟨q.1,q.2,h1,h2⟩
 refine Sk QR λΨ hΨ fr hl h0 h1=>?_;simp[QR]at hl h0 h1;simp[QR,hl,h0,hA];refine B7.mono (nK m (Cv t) kd (by omega) _ _ ?_ ?_ ?_ ?_ ?_) ?_<;>first|(simp[hl,h1];done)|skip
 rintro e D5 Cw ⟨K,rfl,v,hB,k5,hg⟩;have A6:D5.length=32:=K.1.trans (by simp[hl]);obtain⟨mm,hz⟩:=SD hg;have htm:CO Cw v=true:=by
  rcases hg with ⟨_,rfl⟩|⟨_,k,rfl,hk⟩
  .rfl
  .simp only[CO,KM,hk];rfl
 obtain⟨R,m',hS,q8,-⟩:=cL mm ((Cv t).filter λx=>decide (x.kind=kd)) (by omega) (λx hx=>by
  have:=SE _ t (A0R _) x (List.mem_filter.1 hx).1;omega)
 simp[A6,k5,hz,hS,htm];exact hΨ _ ⟨(R,m'),rfl,q8⟩
def ux (t:Tm):Bool:=((Cv t).filter λx=>decide (x.kind=1)).isEmpty
theorem ZR {R l:G6} (h:L0 R l):R.length=0↔l.isEmpty=true:=by
 have h2:=h.2;rw[List.isEmpty_iff];constructor
 .intro e;have:R=[]:=A0g e;subst this;cases l with
  |nil=>rfl
  |cons a l=>exact absurd ((h2 (E3 a)).2 (by simp)) (by simp)
 .rintro rfl;cases R with
  |nil=>rfl
  |cons a l=>exact absurd ((h2 (E3 a)).1 (by simp)) (by simp)
theorem ni (t:Tm) (B9:t.size<=1048576):pc Q My [B8 t]=some (.bool (ux t)):=by
 obtain⟨R,m',hK,q8⟩:=jl t 1 B9;have hV:pc Q QB [B8 t]=some (sl m' 4 (A4 R)):=by
  refine H8 QQ λfr hl h0=>?_;simp[QQ]at hl h0;simp[QQ,hl,h0,hK]
 have e:decide (R.length=0)=ux t:=by
  rw[A0d,decide_eq_true_iff];exact ZR q8
 refine H8 NY λfr hl h0=>?_;simp[NY]at hl h0;simp[NY,hl,h0,hV];rw[←e];simp
theorem dg (a:Nat):G7 .shr (.int .u64 (a:Int)) (.int .u64 1)=some (.int .u64 ((a / 2:Nat):Int)):=by
 have e:Int.fdiv (a:Int) (2 ^ (min (1:Int).toNat IntKind.u64.bits))=((a / 2:Nat):Int):=by
  rw[show min (1:Int).toNat IntKind.u64.bits=1 from rfl];rw[Int.fdiv_eq_ediv_of_nonneg _ (by decide)];omega
 simp only[G7];rw[if_pos (by decide),e]
theorem tz {n:Int} (h0:0<=n) (h1:n<=9223372036854775807):IntKind.u64.wrap n=n:=by
 simp only[IntKind.wrap,IntKind.bits,IntKind.signed];simp;omega
def Y1 (R:List Tm):Prop:=R.Pairwise λa b=>H6 a b<0
theorem Y1.get {R:G6} (h:Y1 R) {i j:Nat} (hi:i<R.length) (hj:j<R.length) (hij:i<j):H6 R[i] R[j]<0:=(List.pairwise_iff_getElem.1 h) i j hi hj hij
theorem qu {R:G6} (h:Y1 R) (t:Tm) (i:Nat) (h1:∀j (hj:j<R.length),j<i->H6 R[j] t<0) (h2:∀j (hj:j<R.length),i<=j->0<=H6 R[j] t) :
  K0 R t=true↔∃hi:i<R.length,H6 R[i] t=0:=by
 simp only[K0,A0k,JQ,decide_eq_true_eq];constructor
 .rintro⟨x,hx,hc⟩;obtain⟨j,hj,rfl⟩:=A0h hx;have hij:i<=j:=by
   rcases Nat.lt_or_ge j i with q|q
   .have:=h1 j hj q;omega
   .exact q
  refine⟨by omega,?_⟩;rcases A0i hij with q|q
  .have a:=h.get (by omega) hj q;have b:=h2 i (by omega) (A0R _);have:=rq a (by omega:H6 R[j] t<=0);omega
  .subst q;exact hc
 .rintro⟨hi,hc⟩;exact⟨_,A0Q hi,hc⟩
theorem wZ (m:I6) (R:G6) (t:Tm) (hR:Y1 R) (B9:R.length<=1099511627776) (hs:∀x∈R,x.size<=1099511627776) (ht:t.size<=1099511627776) :
  ∃i:Nat,i<=R.length/\(∀j (hj:j<R.length),j<i->H6 R[j] t<0)/\(∀j (hj:j<R.length),i<=j->0<=H6 R[j] t) /\
   pc Q I1 [sl m 4 (A4 R),B8 t,.fn C4 []]=some (.tup [.int .i64 (i:Nat),.bool (K0 R t)]):=by
 suffices h:∃v,pc Q I1 [sl m 4 (A4 R),B8 t,.fn C4 []]=some v/\∃i:Nat,v=.tup [.int .i64 (i:Nat),.bool (K0 R t)]/\i<=R.length/\(∀j (hj:j<R.length),j<i->H6 R[j] t<0)/\(∀j (hj:j<R.length),i<=j->0<=H6 R[j] t) by
  obtain⟨v,h1,i,rfl,h2,h3,h4⟩:=h;exact⟨i,h2,h3,h4,h1⟩
 refine WL S4 λΨ hΨ fr hl h0 h1 h2=>?_;simp[S4]at hl h0 h1 h2;simp[S4,hl,h0,h1];refine(B4 (Ψ:=λe C3 h'=>e=.exit 0/\h'=⟨[(B8 t).cells],[]⟩/\∃i:Nat,A0 C3 9=.int .i64 (i:Nat)/\i<=R.length/\(∀j (hj:j<R.length),j<i->H6 R[j] t<0)/\(∀j (hj:j<R.length),i<=j->0<=H6 R[j] t)) rfl _
  (λn C3 h'=>h'=⟨[(B8 t).cells],[]⟩/\∃lo hi:Nat,hi=lo+n/\hi<=R.length/\A0 C3 9=.int .i64 (lo:Nat)/\A0 C3 10=.int .i64 (hi:Nat)/\(∀j (hj:j<R.length),j<lo->H6 R[j] t<0)/\(∀j (hj:j<R.length),hi<=j->0<=H6 R[j] t)) ?_ R.length _
  ⟨by simp,0,R.length,by omega,A0R _,by simp[hl],by simp[hl],λj _ h=>absurd h (Nat.not_lt_zero _),λj hj h=>by omega⟩).mono ?_
 .rintro J Φ hJ hΦ n D5 H1 K ⟨rfl,lo,hi,hn,Zq,k9,k10,g1,g2⟩;have A6:D5.length=49:=K.1.trans (by simp[hl]);have k0:=A8 K 0 (by simp[h0]:_=sl m 4 (A4 R));have k2:=A8 K 2 (by simp[h2]:_=AV.fn C4 []);have k4:=A8 K 4 (by simp[hl]:_=AV.ptr 0 0);clear K;by_cases A7:0<n
  .have hlti:(lo:Int)<(hi:Int):=by omega
   have hw1:IntKind.i64.wrap ((lo:Int)+(hi:Int))=(lo:Int)+(hi:Int):=V0 (by omega) (by omega);have hw2:IntKind.u64.wrap ((lo:Int)+(hi:Int))=(lo:Int)+(hi:Int):=tz (by omega) (by omega);obtain⟨mid,hmd⟩:∃mid,mid=(lo+hi) / 2:=⟨_,rfl⟩;have hb:=dg (lo+hi);rw[←hmd,Int.natCast_add]at hb;have hm1:lo<=mid:=by omega
   have hm2:mid<hi:=by omega
   have hw3:IntKind.i64.wrap (mid:Int)=(mid:Int):=V0 (by omega) (by omega);have hw4:=C6 mid (by omega);have hmid:mid<R.length:=by omega
   have hx:=I0 hmid;have hC:=x7 _ R[mid] t (A0R _) (hs _ (A0Q hmid)) ht;by_cases hc:H6 R[mid] t<0
   .have g1':∀j (hj:j<R.length),j<mid+1->H6 R[j] t<0:=λj hj hjm=>by
     rcases A0i (Nat.le_of_lt_succ hjm)with q|q
     .exact GZ (hR.get hj hmid q) hc
     .subst q;exact hc
    generalize R[mid]=x at *
    simp[M0,A6,k0,k2,k4,k9,k10,hlti,hw1,hw2,hw3,hw4,hb,hx,hC,hc];exact⟨hi-(mid+1),by omega,hJ _ _ _ ⟨by simp,mid+1,hi,by omega,Zq,by simp[A6],by simp[k10],g1',g2⟩⟩
   .have g2':∀j (hj:j<R.length),mid<=j->0<=H6 R[j] t:=λj hj hjm=>by
     rcases A0i hjm with q|q
     .rcases A01 (H6 R[j] t) 0 with p|p
      .exact absurd (GZ (hR.get hmid hj q) p) hc
      .exact p
     .subst q;omega
    generalize R[mid]=x at *
    simp[M0,A6,k0,k2,k4,k9,k10,hlti,hw1,hw2,hw3,hb,hx,hC,hc];exact⟨mid-lo,by omega,hJ _ _ _ ⟨by simp,lo,mid,by omega,by omega,by simp[k9],by simp[A6],g1,g2'⟩⟩
  .have hn0:n=0:=by omega
   have hlh:hi=lo:=by omega
   subst hlh;simp[M0,A6,k9,k10];exact hΦ _ _ _ ⟨rfl,by simp,hi,by simp[k9],Zq,g1,g2⟩
 .rintro e D5 Cw ⟨K,rfl,rfl,i,k9,hi,g1,g2⟩;have A6:D5.length=49:=K.1.trans (by simp[hl]);have k0:=A8 K 0 (by simp[h0]:_=sl m 4 (A4 R));have k2:=A8 K 2 (by simp[h2]:_=AV.fn C4 []);have k4:=A8 K 4 (by simp[hl]:_=AV.ptr 0 0);have k8:=A8 K 8 (by simp[hl]:_=AV.int .i64 R.length);clear K;have hh:=qu hR t i g1 g2;by_cases A7:i<R.length
  .have hx:=I0 A7;have hC:=x7 _ R[i] t (A0R _) (hs _ (A0Q A7)) ht;have e:decide (H6 R[i] t=0)=K0 R t:=by
    rw[A0d,decide_eq_true_iff,hh];exact⟨λh=>⟨A7,h⟩,λ⟨_,h⟩=>h⟩
   simp[A6,k0,k2,k4,k8,k9,A7,hx,hC];exact hΨ _ ⟨i,by rw[e],hi,g1,g2⟩
  .have e:K0 R t=false:=by
    rw[Bool.eq_false_iff];intro h;obtain⟨h,-⟩:=hh.1 h;omega
   simp[A6,k8,k9,A7];exact hΨ _ ⟨i,by rw[e],hi,g1,g2⟩
@[simp] theorem scal2 (k:IntKind) (i:Int) (b:Bool):(AV.tup [.int k i,.bool b]).scalar=true:=rfl
theorem Ke (m:I6) (R:G6) (t:Tm) (hR:Y1 R) (B9:R.length<=1099511627776) (hs:∀x∈R,x.size<=1099511627776) (ht:t.size<=1099511627776) :
  pc Q O8 [sl m 4 (A4 R),B8 t]=some (.bool (K0 R t)):=by
 obtain⟨i,-,-,-,hB⟩:=wZ m R t hR B9 hs ht;refine M9 Hq λfr hl h0 h1=>?_;simp[Hq]at hl h0 h1;simp[Hq,hl,h0,h1,hB]
def XV (R:List Tm) (i:Nat) (t:Tm):List Tm:=R.take i++t::R.drop i
theorem gF (m:I6) (xs:G4) (Zs:xs.length<=1048576) (h:AH):∃w h',rc Q K5 [sl m 4 xs] h=some (w,h')/\lw h.fams.length 4 xs w h'/\h'.boxes=h.boxes/\∃e,h'.fams=h.fams++e:=by
 have hr:xs.length*56<=H3/\xs.length<=maxLen:=by simp only[H3,maxLen];omega
 suffices hq:∃w h',rc Q K5 [sl m 4 xs] h=some (w,h')/\∀Ψ:AV->AH->Prop,(∀w h',lw h.fams.length 4 xs w h'/\h'.boxes=h.boxes/\(∃e,h'.fams=h.fams++e)->Ψ w h')->Ψ w h' by
  obtain⟨w,h',h1,h2⟩:=hq;exact⟨w,h',h1,h2 _ λ_ _ h=>h⟩
 refine gD Z3 λfr hl h0=>?_;simp[Z3]at hl h0;by_cases he:xs=[]
 .subst he;obtain⟨m1,m2⟩:=m;cases m2 with
  |false =>
   simp[Z3,hl,h0,Tb];exact λΨ hΨ=>hΨ _ _ (.inl ⟨rfl,false,In 4⟩) rfl [] (by simp)
  |true =>
   simp[Z3,hl,h0,Tb,GY,A5];exact λΨ hΨ=>hΨ _ _ (.inl ⟨rfl,true,rfl⟩) rfl [] (by simp)
 .have he':xs.isEmpty=false:=by simpa using he
  simp[Z3,hl,h0,Tb,he',GY,A5,he,hr,show ZB K5=true from rfl];exact λΨ hΨ=>hΨ _ _ (.inr ⟨he,rfl,by simp⟩) rfl _ rfl
theorem eL (R:G6) (i:Nat) (t:Tm):A4 (XV R i t)=(A4 R).take i++B8 t::(A4 R).drop i:=by
 rw[XV,C9,C9,A0e,A0j,List.map_take,List.map_drop]
theorem qx {R:G6} (hR:Y1 R) (t:Tm) {i:Nat} (hi:i<=R.length) (h1:∀j (hj:j<R.length),j<i->H6 R[j] t<0) (h2:∀j (hj:j<R.length),i<=j->0<=H6 R[j] t) (hn:K0 R t=false) :
  Y1 (XV R i t)/\∀e,e∈(XV R i t).map E3↔e=E3 t\/e∈R.map E3:=by
 have Yt:∀x∈R,H6 x t≠0:=by
  intro x hx hc;have:K0 R t=true:=by
   simp only[K0,A0k,JQ,decide_eq_true_eq];exact⟨x,hx,hc⟩
  rw[this]at hn;cases hn
 have ha:∀x∈R.take i,H6 x t<0:=by
  intro x hx;obtain⟨j,hj,rfl⟩:=A0h hx;rw[A0a]at hj;rw[List.getElem_take];exact h1 j (by omega) (by omega)
 have hb:∀x∈R.drop i,H6 t x<0:=by
  intro x hx;have hm:=A0o hx;obtain⟨j,hj,rfl⟩:=A0h hx;rw[A0l]at hj;rw[List.getElem_drop]at hm ⊢;have a:=h2 (i+j) (by omega) (by omega);have b:=Yt _ hm;exact KS.1.2 (by omega)
 refine⟨?_,λe=>?_⟩
 .unfold Y1 XV;rw[List.pairwise_append];refine⟨hR.sublist (List.take_sublist i R),A0Y.2 ⟨hb,hR.sublist (List.drop_sublist i R)⟩,λx hx y hy=>?_⟩;rcases A0W.1 hy with rfl|hy
  .exact ha x hx
  .exact GZ (ha x hx) (hb y hy)
 .have:e∈R.map E3↔e∈(R.take i).map E3\/e∈(R.drop i).map E3:=by
   rw[←A0f,←A0e,A0c]
  rw[this,XV,A0e,A0j,A0f,A0W];constructor
  .rintro(h|h|h)
   .exact .inr (.inl h)
   .exact .inl h
   .exact .inr (.inr h)
  .rintro(h|h|h)
   .exact .inr (.inl h)
   .exact .inl h
   .exact .inr (.inr h)
theorem eK (K b:Nat) (O:Orc) (args:G4) (h:AH):(mY K b).run O args h=Pv K b args h:=rfl
theorem yQ {k:Nat} {xs:G4} {w x:AV} {h:AH} (hg:lw k 4 xs w h) (hx:x.isAgg=true) (i:Nat) (hi:i<=xs.length) (hl:xs.length<=1048576) :
  ∃h' k',rc Q N5 [w,.int .i64 (i:Nat),sl (true,true) 4 [x]] h=some (.sl k' (xs.length+1) 0 (xs.length+1),h')/\h'.boxes=h.boxes/\∃b,h'.fams[k']?=some ⟨xs.take i++x::xs.drop i,4,b⟩:=by
 have e1:sl (true,true) 4 [x]=.vs true 4 [x]:=by simp[sl]
 rcases hg with ⟨rfl,b,rfl⟩|⟨P6,rfl,hk⟩
 .have hi0:i=0:=by simpa using hi
  subst hi0;refine⟨⟨h.boxes,h.fams++[⟨[x],4,true⟩]⟩,h.fams.length,OT (s:=mY 4 56) rfl rfl ?_,rfl,true,by simp⟩;rw[e1];rw[eK];simp only[sl,Pv];rw[if_pos ⟨trivial,hx⟩,if_pos (by decide)];rfl
 .have CI:=H5 hk;refine⟨⟨h.boxes,h.fams.set k ⟨xs.take i++x::xs.drop i,4,true⟩⟩,k,OT (s:=mY 4 56) rfl rfl ?_,rfl,true,by simp[CI]⟩;rw[e1];rw[eK];simp only[Pv,hk];rw[if_pos ⟨trivial,hx⟩,if_pos ⟨trivial,trivial,trivial,List.length_pos_iff.2 P6,trivial,trivial,by omega,by omega,by simp only[H3];omega,by simp only[maxLen];omega⟩];simp
theorem vj (m:I6) (R:G6) (t:Tm) (hR:Y1 R) (B9:R.length<=1048576) (hs:∀x∈R,x.size<=1099511627776) (ht:t.size<=1099511627776) (hn:K0 R t=false) :
  ∃(R':List Tm) (m':Bool×Bool),pc Q AU [sl m 4 (A4 R),B8 t]=some (sl m' 4 (A4 R'))/\Y1 R'/\(∀e,e∈R'.map E3↔e=E3 t\/e∈R.map E3)/\(∀x∈R',x=t\/x∈R)/\R'.length=R.length+1:=by
 obtain⟨i,hi,g1,g2,hB⟩:=wZ m R t hR (by omega) hs ht;obtain⟨s1,s2⟩:=qx hR t hi g1 g2 hn;rw[hn]at hB;have hlR:(A4 R).length=R.length:=by rw[C9,A0T]
 suffices h:∃v,pc Q AU [sl m 4 (A4 R),B8 t]=some v/\∃q:Bool×Bool,v=sl q 4 (A4 (XV R i t)) by
  obtain⟨v,h1,q,rfl⟩:=h;refine⟨XV R i t,q,h1,s1,s2,λx hx=>?_,?_⟩
  .rw[XV]at hx;rcases A0f.1 hx with h|h
   .exact .inr (List.mem_of_mem_take h)
   .rcases A0W.1 h with rfl|h
    .exact .inl rfl
    .exact .inr (A0o h)
  .rw[XV,A0S,A0Z,A0a,A0l];omega
 obtain⟨w,⟨B,F⟩,hC,hg,hb,hf⟩:=gF m (A4 R) (by omega) ⟨[(B8 t).cells],[]⟩;simp only at hb;subst hb;obtain⟨⟨B',F'⟩,k',hI,hb',b,Dv⟩:=yQ (x:=B8 t) hg (by cases t;rfl) i (by omega) (by omega);simp only at hb';subst hb';rw[hlR]at hI;rw[←eL]at Dv;have hz:Em ⟨[(B8 t).cells],F'⟩ true (.sl k' (R.length+1) 0 (R.length+1))=some (sl (false,true) 4 (A4 (XV R i t))):=JR Dv (by
  rw[eL,A0S,A0Z,A0a,A0l,hlR];omega)
 obtain⟨c1,c2,c3⟩:=Ur hg;simp only[I3]at hC hI hz;refine Sk Gt λΨ hΨ fr hl h0 h1=>?_;simp[Gt]at hl h0 h1;simp[Gt,hl,h0,h1,hB,hC,hI,hz,A5];exact hΨ _ ⟨_,rfl⟩
end Go.Abs.Q
namespace Go.Abs.Q
open Go.Proofs
attribute [local simp] E6 E7 fin K1 H4 P2 L5 R0 Q9
def uG:List (ByteArray×Int×Int×Int):=[(bs [112,97,105,114],2,2,1),(bs [101,110,99],2,2,1),(bs [97,101,110,99],2,2,1),(bs [112,107],1,1,1),(bs [115,105,103,110],2,2,1),(bs [104,97,115,104],1,1,1),(bs [120,111,114],2,8,1),(bs [122,101,114,111],0,0,1),(bs [101,120,112],2,2,1),(bs [109,117,108],2,8,1),(bs [105,110,118],1,1,1),(bs [111,110,101],0,0,1),(bs [115,107],1,1,2),(bs [115,104,107],2,2,2),(bs [110,101,119],1,8,2),(bs [102,115,116],1,1,3),(bs [115,110,100],1,1,3),(bs [100,101,99],2,2,3),(bs [97,100,101,99],2,2,3),(bs [111,112,101,110],2,2,3),(bs [114,101,97,100],1,1,3)]
def Hn (x:ByteArray×Int×Int×Int):AV:=.agg [.str x.1,.int .i64 x.2.1,.int .i64 x.2.2.1,.int .i64 x.2.2.2]
def zS:ByteArray×Int×Int×Int:=(bs [],0,0,0)
def NP (nm:ByteArray):ByteArray×Int×Int×Int:=(uG.find? λx=>decide (x.1=nm)).getD zS
theorem Dg (kd least most:Int) (nm:J3) (acc:G4) (v:AV) (F:List Fam) (hg:Du 4 acc v ⟨[[v]],F⟩) (hb:acc.length<=100) :
  ∃(v':AV) (F':List Fam),rc Q T6 [.int .i64 kd,.str nm,.int .i64 least,.int .i64 most,.ptr 0 0] ⟨[[v]],F⟩=some (C5,⟨[[v']],F'⟩)/\Du 4 (acc++[Hn (nm,least,most,kd)]) v' ⟨[[v']],F'⟩:=by
 obtain⟨v',⟨B',F'⟩,ha,g',hb'⟩:=Ag (c:=D6 T6) (bytes:=40) (x:=Hn (nm,least,most,kd)) hg rfl (true,true) (by omega) (by omega);simp only at hb';subst hb'
 suffices hq:∃x h',rc Q T6 [.int .i64 kd,.str nm,.int .i64 least,.int .i64 most,.ptr 0 0] ⟨[[v]],F⟩=some (x,h')/\(x=C5/\h'=⟨[[v']],F'⟩) by
  obtain⟨x,h',h1,rfl,rfl⟩:=hq;exact⟨v',F',h1,Bi g' rfl⟩
 obtain⟨c1,c2,c3⟩:=L6 hg;obtain⟨c4,c5,c6⟩:=L6 g';simp only[Hn]at ha;refine rcQ RZ (by simp[FM]) λfr hl ha=>?_;have h0:=ha 0;have h1:=ha 1;have h2:=ha 2;have h3:=ha 3;have h4:=ha 4;clear ha;simp[FM]at hl h0 h1 h2 h3 h4;simp[FM,hl,h0,h1,h2,h3,h4,c3,c4,c5,ha,A5,D2,E4]
theorem jZ:∃m,pc Q Z0 []=some (sl m 4 (uG.map Hn)):=by
 suffices h:∃v,pc Q Z0 []=some v/\∃q:Bool×Bool,v=sl q 4 (uG.map Hn) by
  obtain⟨v,h1,q,rfl⟩:=h;exact⟨q,h1⟩
 have g0:Du 4 [] (.vs true 0 []) ⟨[[.vs true 0 []]],[]⟩:=Cu _ _;obtain⟨v1,F1,c1,g1⟩:=Dg 1 2 2 (bs [112,97,105,114]) _ _ _ g0 (by simp);obtain⟨v2,F2,c2,g2⟩:=Dg 1 2 2 (bs [101,110,99]) _ _ _ g1 (by simp);obtain⟨v3,F3,c3,g3⟩:=Dg 1 2 2 (bs [97,101,110,99]) _ _ _ g2 (by simp);obtain⟨v4,F4,c4,g4⟩:=Dg 1 1 1 (bs [112,107]) _ _ _ g3 (by simp);obtain⟨v5,F5,c5,g5⟩:=Dg 1 2 2 (bs [115,105,103,110]) _ _ _ g4 (by simp);obtain⟨v6,F6,c6,g6⟩:=Dg 1 1 1 (bs [104,97,115,104]) _ _ _ g5 (by simp);obtain⟨v7,F7,c7,g7⟩:=Dg 1 2 8 (bs [120,111,114]) _ _ _ g6 (by simp);obtain⟨v8,F8,c8,g8⟩:=Dg 1 0 0 (bs [122,101,114,111]) _ _ _ g7 (by simp);obtain⟨v9,F9,c9,g9⟩:=Dg 1 2 2 (bs [101,120,112]) _ _ _ g8 (by simp);obtain⟨v10,F10,c10,g10⟩:=Dg 1 2 8 (bs [109,117,108]) _ _ _ g9 (by simp);obtain⟨v11,F11,c11,g11⟩:=Dg 1 1 1 (bs [105,110,118]) _ _ _ g10 (by simp);obtain⟨v12,F12,c12,g12⟩:=Dg 1 0 0 (bs [111,110,101]) _ _ _ g11 (by simp);obtain⟨v13,F13,c13,g13⟩:=Dg 2 1 1 (bs [115,107]) _ _ _ g12 (by simp);obtain⟨v14,F14,c14,g14⟩:=Dg 2 2 2 (bs [115,104,107]) _ _ _ g13 (by simp);obtain⟨v15,F15,c15,g15⟩:=Dg 2 1 8 (bs [110,101,119]) _ _ _ g14 (by simp);obtain⟨v16,F16,c16,g16⟩:=Dg 3 1 1 (bs [102,115,116]) _ _ _ g15 (by simp);obtain⟨v17,F17,c17,g17⟩:=Dg 3 1 1 (bs [115,110,100]) _ _ _ g16 (by simp);obtain⟨v18,F18,c18,g18⟩:=Dg 3 2 2 (bs [100,101,99]) _ _ _ g17 (by simp);obtain⟨v19,F19,c19,g19⟩:=Dg 3 2 2 (bs [97,100,101,99]) _ _ _ g18 (by simp);obtain⟨v20,F20,c20,g20⟩:=Dg 3 2 2 (bs [111,112,101,110]) _ _ _ g19 (by simp);obtain⟨v21,F21,c21,g21⟩:=Dg 3 1 1 (bs [114,101,97,100]) _ _ _ g20 (by simp);have hg:Du 4 (uG.map Hn) v21 ⟨[[v21]],F21⟩:=g21;clear g0 g1 g2 g3 g4 g5 g6 g7 g8 g9 g10 g11 g12 g13 g14 g15 g16 g17 g18 g19 g20 g21;obtain⟨m,hz⟩:=KQ hg;obtain⟨d1,d2,d3⟩:=L6 hg;refine QF (C:=Q) ((Uq _).trans rfl) ((Qr _).trans Tc) (by simp[He]) λΨ hΨ fr hl ha=>?_;rw[ZP];clear ha;simp[He]at hl ;simp[He,hl,hz,d3,c1,c2,c3,c4,c5,c6,c7,c8,c9,c10,c11,c12,c13,c14,c15,c16,c17,c18,c19,c20,c21];exact hΨ _ ⟨m,rfl⟩
abbrev Sy:=ByteArray×Int×Int×Int
@[simp] theorem ya (x:Sy):(Hn x).cells=[.str x.1,.int .i64 x.2.1,.int .i64 x.2.2.1,.int .i64 x.2.2.2]:=rfl
@[simp] theorem yb (x:Sy):(Hn x).isTup=false:=rfl
theorem ez (m:I6) (l:List Sy) (nm:J3) (B9:l.length<=1048576) (fr:Fr) (h:AH) (hh:h.boxes=[(Hn zS).cells]) (hl:fr.length=18) (h0:A0 fr 0=.str nm) (h2:A0 fr 2=.ptr 0 0) (h5:A0 fr 5=sl m 4 (l.map Hn)) (h6:A0 fr 6=.int .i64 l.length) (h7:A0 fr 7=.int .i64 0) :
  B7 (lp (A2 (K8 Q) (D6 FY) Aq) (fr,h)) λe C3 h'=>Kp Aq.wr fr C3/\(e=.exit 0/\(∃B,h'.boxes=(Hn zS).cells::B)/\l.find? (λx=>decide (x.1=nm))=none\/e=.ret/\∃x B,h'.boxes=(Hn x).cells::B/\l.find? (λx=>decide (x.1=nm))=some x):=by
 refine B4 rfl fr (λn fr h'=>∃(i:Nat),i+n=l.length/\A0 fr 7=.int .i64 (i:Nat)/\((∃B,h'.boxes=(Hn zS).cells::B)/\(l.drop i).find? (λx=>decide (x.1=nm))=l.find? λx=>decide (x.1=nm))) ?_ l.length h ⟨0,by omega,h7,⟨[],hh⟩,rfl⟩;rintro J Φ hJ hΦ n D5 H1 K ⟨i,hi,k7,hr⟩;have A6:=K.1.trans hl;have k0:=A8 K 0 h0;have k2:=A8 K 2 h2;have k5:=A8 K 5 h5;have k6:=A8 K 6 h6;clear K;by_cases A7:i<l.length
 .have L4:=C6 i (by omega);obtain⟨⟨B,hB⟩,hr⟩:=hr;obtain⟨bx,F⟩:=H1;simp only at hB;subst hB;have hx:=G1 (f:=Hn) (A0X A7);rw[A0O A7,A0m]at hr;clear hh;generalize l[i]=s at *
  obtain⟨s1,s2,s3,s4⟩:=s;by_cases hc:s1=nm
  .subst hc;simp only[decide_true]at hr;simp only[Hn]at hx;simp[Aq,A6,k0,k2,k5,k6,k7,A7,hx,Hn,zS];exact hΦ _ _ _ (.inr ⟨rfl,(s1,s2,s3,s4),_,rfl,hr.symm⟩)
  .simp only[hc,decide_false]at hr;simp only[Hn]at hx;simp[Aq,A6,k0,k5,k6,k7,A7,L4,hx,Hn,zS,hc];exact G0 hJ ⟨i+1,by omega,by simp[A6],⟨_,rfl⟩,hr⟩
 .obtain⟨⟨B,hB⟩,hr⟩:=hr;rw[A0P (by omega)]at hr;simp[Aq,A6,k6,k7,A7];exact hΦ _ _ _ (.inl ⟨rfl,⟨B,hB⟩,hr.symm⟩)
theorem aR (nm:J3):pc Q FY [.str nm]=some (Hn (NP nm)):=by
 obtain⟨m,hS⟩:=jZ;refine H8 MI λfr hl h0=>?_;simp[MI]at hl h0;simp[MI,hl,hS];refine B7.mono (ez m uG nm (by decide) _ _ ?_ ?_ ?_ ?_ ?_ ?_ ?_) ?_<;>first|(simp[hl,h0,Hn,zS];done)|skip
 rintro e D5 ⟨bx,F⟩ ⟨K,⟨rfl,⟨B,hB⟩,hf⟩|⟨rfl,x,B,hB,hf⟩⟩
 .simp only at hB;subst hB;have J2:D5.length=18:=K.1.trans (by simp[hl]);have GL:A0 D5 2=.ptr 0 0:=A8 K 2 (by simp[hl]);clear K;simp[J2,GL,Hn,zS,D2,E4];simp[NP,hf,zS]
 .simp only at hB;subst hB;have J2:D5.length=18:=K.1.trans (by simp[hl]);have GL:A0 D5 2=.ptr 0 0:=A8 K 2 (by simp[hl]);clear K;simp[GL,Hn];simp[NP,hf]
def Dw (nm:ByteArray):Int:=(NP nm).2.2.2
def Lp (nm:ByteArray) (n:Int):Bool:=decide ((NP nm).2.1<=n)&&decide (n<=(NP nm).2.2.1)
def EG (t:Tm):Bool:=decide (t.kind=3)||decide (t.sort≠1)
def Yo (nm:ByteArray) (l:List Tm):Int :=
 if nm=bs [115,107]\/nm=bs [115,104,107]then (if l.any EG=true then 10 else 0)
 else if nm=bs [110,101,119]then (match l with | []=>0|a::_=>if a.kind=2 then 0 else 10)else 0
mutual
def Ue:Tm->Int
 | .mk k nm _ _ l=>if k≠3 then 0 else if Dw nm=0 then 10 else if Lp nm l.length=false then 6 else if Yo nm l≠0 then Yo nm l else NQ l
def NQ:List Tm->Int
 | []=>0
 |t::l=>if Ue t≠0 then Ue t else NQ l
end
theorem VV (t:Tm) (l:G6):NQ (t::l)=if Ue t≠0 then Ue t else NQ l:=rfl
theorem vK (m:I6) (l:G6) (B9:l.length<=1099511627776) (fr:Fr) (h:AH) (hl:fr.length=74) (h38:A0 fr 38=sl m 4 (A4 l)) (h39:A0 fr 39=.int .i64 l.length) (h40:A0 fr 40=.int .i64 0) :
  B7 (lp (A2 (K8 Q) (D6 AX) AE) (fr,h)) λe C3 h'=>Kp AE.wr fr C3/\(e=.exit 1/\(∃B,h'.boxes=h.boxes++B)/\l.any EG=false\/e=.ret/\A0 C3 2=.int .i64 10/\l.any EG=true):=by
 refine B4 rfl fr (λn fr h'=>∃(i:Nat),i+n=l.length/\A0 fr 40=.int .i64 (i:Nat)/\((∃B,h'.boxes=h.boxes++B)/\(l.drop i).any EG=l.any EG)) ?_ l.length h ⟨0,by omega,h40,⟨[],by simp⟩,rfl⟩;rintro J Φ hJ hΦ n D5 H1 K ⟨i,hi,k40,hr⟩;have A6:=K.1.trans hl;have k38:=A8 K 38 h38;have k39:=A8 K 39 h39;clear K;by_cases A7:i<l.length
 .have L4:=C6 i (by omega);obtain⟨⟨B,hB⟩,hr⟩:=hr;obtain⟨bx,F⟩:=H1;simp only at hB;have hx:=I0 A7;rw[A0O A7,A00]at hr;generalize l[i]=s at *
  by_cases hc:EG s=true
  .rw[hc,A0r]at hr;by_cases hk:s.kind=3
   .simp[AE,A6,k38,k39,k40,A7,hx,hk];exact hΦ _ _ _ (.inr ⟨rfl,by simp[A6],hr.symm⟩)
   .have hs:s.sort≠1:=by simpa[EG,hk]using hc
    simp[AE,A6,k38,k39,k40,A7,hx,hk,hs];exact hΦ _ _ _ (.inr ⟨rfl,by simp[A6],hr.symm⟩)
  .simp only[EG,A0w,decide_eq_true_eq,not_or,ne_eq,Decidable.not_not]at hc;have hn:EG s=false:=by simp[EG,hc]
   rw[hn,A0z]at hr;have hk:=hc.1;have hs:=hc.2;clear hc hn;simp[AE,A6,k38,k39,k40,A7,L4,hx,hk,hs];exact G0 hJ ⟨i+1,by omega,by simp[A6],⟨B++[[.int .i64 s.kind,.str s.name,.int .i64 1,sl s.cm 4 (A4 s.kids)]],by simp[hB]⟩,hr⟩
 .obtain⟨⟨B,hB⟩,hr⟩:=hr;rw[A0P (by omega)]at hr;simp[AE,A6,k39,k40,A7];exact hΦ _ _ _ (.inl ⟨rfl,⟨B,hB⟩,hr.symm⟩)
theorem ee (m:I6) (l:G6) (B9:l.length<=1099511627776) (IH:∀t∈l,pc Q AX [B8 t]=some (.int .i64 (Ue t))) (fr:Fr) (h:AH) (hl:fr.length=74) (h62:A0 fr 62=sl m 4 (A4 l)) (h63:A0 fr 63=.int .i64 l.length) (h64:A0 fr 64=.int .i64 0) :
  B7 (lp (A2 (K8 Q) (D6 AX) Bg) (fr,h)) λe C3 h'=>Kp Bg.wr fr C3/\(e=.exit 3/\NQ l=0\/e=.ret/\A0 C3 2=.int .i64 (NQ l)):=by
 refine B4 rfl fr (λn fr h'=>∃(i:Nat),i+n=l.length/\A0 fr 64=.int .i64 (i:Nat)/\(NQ (l.drop i)=NQ l)) ?_ l.length h ⟨0,by omega,h64,rfl⟩;rintro J Φ hJ hΦ n D5 H1 K ⟨i,hi,k64,hr⟩;have A6:=K.1.trans hl;have k62:=A8 K 62 h62;have k63:=A8 K 63 h63;clear K;by_cases A7:i<l.length
 .have L4:=C6 i (by omega);have hx:=I0 A7;have hI:=IH l[i] (A0Q A7);rw[A0O A7,VV]at hr;obtain⟨bx,F⟩:=H1;generalize l[i]=s at *
  by_cases hc:Ue s=0
  .rw[if_neg (by simp[hc])]at hr;rw[hc]at hI;simp[Bg,A6,k62,k63,k64,A7,L4,hx,hI];exact G0 hJ ⟨i+1,by omega,by simp[A6],hr⟩
  .rw[if_pos hc]at hr;simp[Bg,A6,k62,k63,k64,A7,hx,hI,hc];exact hΦ _ _ _ (.inr ⟨rfl,by simp[A6,hr]⟩)
 .rw[A0P (by omega)]at hr;simp[Bg,A6,k63,k64,A7];exact hΦ _ _ _ (.inl ⟨rfl,hr.symm⟩)
theorem fE {n:Nat} (h:Lp (bs [110,101,119]) n=true):1<=n:=by
 have e:(NP (bs [110,101,119])).2.1=1:=by decide
 simp only[Lp,e,A0u,decide_eq_true_eq]at h;omega
theorem th (t:Tm) (h:t.kind≠3):Ue t=0:=by
 obtain⟨k,nm,s,m,l⟩:=t;have h:k≠3:=h;rw[Ue,if_pos h]
theorem lh {k:Int} {nm:J3} {s:Int} {m:I6} {l:G6} (h:k=3):Ue (.mk k nm s m l)=if Dw nm=0 then 10 else if Lp nm l.length=false then 6 else if Yo nm l≠0 then Yo nm l else NQ l:=by
 rw[Ue,if_neg (by simp[h])]
theorem nw:∀(n:Nat) (t:Tm),t.size<=n->t.size<=1099511627776->pc Q AX [B8 t]=some (.int .i64 (Ue t)):=by
 intro n
 induction n with
 |zero=>intro t h;have:=t.size_pos;omega
 |succ n ih =>
  intro t hn hb;obtain⟨k,nm,s,m,kids⟩:=t;have J5:Tm.size (.mk k nm s m kids)=1+Tm.sizes kids:=rfl;have B9:=Tm.length_le kids;have hS:=aR nm;have hlp0:=ee m kids (by omega) (λt ht=>ih t (by have:=Tm.size_le ht;omega) (by have:=Tm.size_le ht;omega));have hlp1:=vK m kids (by omega);clear ih;by_cases hk:k=3
  .subst hk;rw[lh rfl];by_cases hkd:Dw nm=0
   .rw[if_pos hkd];simp only[Dw]at hkd;generalize NP nm=q at *
    obtain⟨q1,q2,q3,q4⟩:=q;simp only[Hn]at hS hkd;refine H8 H2 λfr hl h0=>?_;simp[H2,B8]at hl h0;simp[H2,hl,h0,hS,hkd]
   .rw[if_neg hkd];by_cases hf:Lp nm kids.length=false
    .rw[if_pos hf];simp only[Dw]at hkd;simp only[Lp]at hf;generalize NP nm=q at *
     obtain⟨q1,q2,q3,q4⟩:=q;simp only[Hn]at hS hkd hf;refine H8 H2 λfr hl h0=>?_;simp[H2,B8]at hl h0;by_cases h2:(kids.length:Int)<q2
     .simp[H2,hl,h0,hS,hkd,h2]
     .have h3:q3<(kids.length:Int):=by
       rw[Bool.and_eq_false_iff]at hf;rcases hf with hf|hf
       .simp only[decide_eq_false_iff_not]at hf;omega
       .simp only[decide_eq_false_iff_not]at hf;omega
      simp[H2,hl,h0,hS,hkd,h2,h3]
    .have hf':Lp nm kids.length=true:=by simpa using hf
     rw[if_neg hf];have hnf:=@fE kids.length;have Dr:¬((kids.length:Int)<(NP nm).2.1)/\¬((NP nm).2.2.1<(kids.length:Int)):=by
      simp only[Lp,A0u,decide_eq_true_eq]at hf';omega
     obtain⟨hf1,hf2⟩:=Dr;have Cz:nm=bs [110,101,119]->1<=kids.length:=λe=>hnf (by rw[←e];exact hf');clear hf hf' hnf;simp only[Dw]at hkd;generalize NP nm=q at *
     obtain⟨q1,q2,q3,q4⟩:=q;simp only[Hn]at hS hkd hf1 hf2;by_cases hsk:nm=bs [115,107]\/nm=bs [115,104,107]
     .have hag:Yo nm kids=if kids.any EG=true then 10 else 0:=by unfold Yo;rw[if_pos hsk]
      rw[hag];clear Cz hag;generalize kids.any EG=b at hlp1 ⊢;have hmain:∀(nm':ByteArray),nm'=nm->(nm'=bs [115,107]\/nm'≠bs [115,107]/\nm'=bs [115,104,107])->pc Q AX [B8 (.mk 3 nm s m kids)]=some (.int .i64 (if (if b=true then (10:Int)else 0)≠0 then if b=true then 10 else 0 else NQ kids)):=by
       intro nm' e hn2;subst e;refine H8 H2 λfr hl h0=>?_;simp[H2,B8]at hl h0;rcases hn2 with hn2|⟨hn1,hn2⟩
       .subst hn2;simp[H2,hl,h0,hS,hkd,hf1,hf2];refine B7.mono (hlp1 _ _ ?_ ?_ ?_ ?_) ?_<;>first|(simp[hl];done)|skip
        rintro e R3 ⟨bx,F⟩ ⟨K,⟨rfl,⟨B,hB⟩,ha⟩|⟨rfl,k2,ha⟩⟩
        .simp only at hB;subst hB;have CK:R3.length=74:=K.1.trans (by simp[hl]);have k1:A0 R3 1=.ptr 0 0:=A8 K 1 (by simp[hl]);clear K;simp[CK,k1,ha];refine B7.mono (hlp0 _ _ ?_ ?_ ?_ ?_) ?_<;>first|(simp[CK];done)|skip
         rintro e fr3 h3 ⟨K,⟨rfl,he⟩|⟨rfl,h2⟩⟩
         .have hl3:fr3.length=74:=K.1.trans (by simp[CK]);simp[hl3,he]
         .simp[h2]
        .simp[k2,ha]
       .subst hn2;simp[H2,hl,h0,hS,hkd,hf1,hf2,hn1];refine B7.mono (hlp1 _ _ ?_ ?_ ?_ ?_) ?_<;>first|(simp[hl];done)|skip
        rintro e R3 ⟨bx,F⟩ ⟨K,⟨rfl,⟨B,hB⟩,ha⟩|⟨rfl,k2,ha⟩⟩
        .simp only at hB;subst hB;have CK:R3.length=74:=K.1.trans (by simp[hl]);have k1:A0 R3 1=.ptr 0 0:=A8 K 1 (by simp[hl]);clear K;simp[CK,k1,ha];refine B7.mono (hlp0 _ _ ?_ ?_ ?_ ?_) ?_<;>first|(simp[CK];done)|skip
         rintro e fr3 h3 ⟨K,⟨rfl,he⟩|⟨rfl,h2⟩⟩
         .have hl3:fr3.length=74:=K.1.trans (by simp[CK]);simp[hl3,he]
         .simp[h2]
        .simp[k2,ha]
      refine hmain nm rfl ?_;by_cases h1:nm=bs [115,107]
      .exact .inl h1
      .exact .inr ⟨h1,hsk.resolve_left h1⟩
     .have hsk1:nm≠bs [115,107]:=λe=>hsk (.inl e);have hsk2:nm≠bs [115,104,107]:=λe=>hsk (.inr e);by_cases hn1:nm=bs [110,101,119]
      .have CI:=Cz hn1;subst hn1;cases kids with
       |nil=>simp at CI
       |cons a kids =>
        have hag:Yo (bs [110,101,119]) (a::kids)=if a.kind=2 then 0 else 10:=by unfold Yo;rw[if_neg hsk,if_pos rfl]
        rw[hag];have hx:Hm (A4 (a::kids)) 0=some (B8 a):=I0 (l:=a::kids) (i:=0) (by simp);generalize a::kids=kids' at *
        by_cases ha:a.kind=2
        .refine H8 H2 λfr hl h0=>?_;simp[H2,B8]at hl h0;simp[H2,hl,h0,hS,hkd,hf1,hf2,hsk1,hsk2,hx,ha];refine B7.mono (hlp0 _ _ ?_ ?_ ?_ ?_) ?_<;>first|(simp[hl];done)|skip
         rintro e fr3 h3 ⟨K,⟨rfl,he⟩|⟨rfl,h2⟩⟩
         .have hl3:fr3.length=74:=K.1.trans (by simp[hl]);simp[hl3,he]
         .simp[h2]
        .refine H8 H2 λfr hl h0=>?_;simp[H2,B8]at hl h0;simp[H2,hl,h0,hS,hkd,hf1,hf2,hsk1,hsk2,hx,ha]
      .have hag:Yo nm kids=0:=by unfold Yo;rw[if_neg hsk,if_neg hn1]
       rw[hag];refine H8 H2 λfr hl h0=>?_;simp[H2,B8]at hl h0;simp[H2,hl,h0,hS,hkd,hf1,hf2,hsk1,hsk2,hn1];refine B7.mono (hlp0 _ _ ?_ ?_ ?_ ?_) ?_<;>first|(simp[hl];done)|skip
       rintro e fr3 h3 ⟨K,⟨rfl,he⟩|⟨rfl,h2⟩⟩
       .have hl3:fr3.length=74:=K.1.trans (by simp[hl]);simp[hl3,he]
       .simp[h2]
  .rw[th (.mk k nm s m kids) hk];refine H8 H2 λfr hl h0=>?_;simp[H2,B8]at hl h0;simp[H2,hl,h0,hk]
def vE (t:Tm):Int:=if R6 t≠0 then R6 t else Ue t
theorem NI (t:Tm) (hb:t.size<=1099511627776):pc Q Gj [B8 t]=some (.int .i64 (vE t)):=by
 have h1:=HT t hb;have h2:=nw _ t (A0R _) hb;unfold vE;by_cases hv:R6 t=0
 .rw[if_neg (by simp[hv])];rw[hv]at h1;refine H8 Eg λfr hl h0=>?_;simp[Eg]at hl h0;simp[Eg,hl,h0,h1,h2]
 .rw[if_pos hv];refine H8 Eg λfr hl h0=>?_;simp[Eg]at hl h0;simp[Eg,hl,h0,h1,hv]
theorem Sz:pc Q FV []=some (sl (true,true) 4 (uG.map Hn)):=by
 refine jU UY rfl (by simp[Ig]) λfr hl ha=>?_;clear ha;simp[Ig]at hl ;simp[Ig,hl,D2,E4,A5];rfl
theorem mi (m:I6) (l:List Sy) (nm:J3) (B9:l.length<=1048576) (fr:Fr) (h:AH) (hl:fr.length=24) (h0:A0 fr 0=.str nm) (h3:A0 fr 3=sl m 4 (l.map Hn)) (h4:A0 fr 4=.int .i64 0) :
  B7 (lp (A2 (K8 Q) (D6 HN) EM) (fr,h)) λe C3 h'=>Kp EM.wr fr C3/\(e=.exit 0/\l.find? (λx=>decide (x.1=nm))=none\/e=.ret/\∃x:Sy,A0 C3 2=.int .i64 x.2.2.2/\l.find? (λx=>decide (x.1=nm))=some x):=by
 refine B4 rfl fr (λn fr h'=>∃(i:Nat),i+n=l.length/\A0 fr 4=.int .i64 (i:Nat)/\(l.drop i).find? (λx=>decide (x.1=nm))=l.find? λx=>decide (x.1=nm)) ?_ l.length h ⟨0,by omega,h4,rfl⟩;rintro J Φ hJ hΦ n D5 H1 K ⟨i,hi,k4,hr⟩;have A6:=K.1.trans hl;have k0:=A8 K 0 h0;have k3:=A8 K 3 h3;clear K;by_cases A7:i<l.length
 .have L4:=C6 i (by omega);have hx:=G1 (f:=Hn) (A0X A7);rw[A0O A7,A0m]at hr;generalize l[i]=s at *
  obtain⟨s1,s2,s3,s4⟩:=s;simp only[Hn]at hx;by_cases hc:s1=nm
  .subst hc;simp only[decide_true]at hr;simp[EM,A6,k0,k3,k4,A7,hx];exact hΦ _ _ _ (.inr ⟨rfl,(s1,s2,s3,s4),by simp[A6],hr.symm⟩)
  .simp only[hc,decide_false]at hr;simp[EM,A6,k0,k3,k4,A7,L4,hx,hc];exact G0 hJ ⟨i+1,by omega,by simp[A6],hr⟩
 .rw[A0P (by omega)]at hr;simp[EM,A6,k3,k4,A7];exact hΦ _ _ _ (.inl ⟨rfl,hr.symm⟩)
theorem cK (nm:J3):pc Q HN [.str nm]=some (.int .i64 (Dw nm)):=by
 have hS:=Sz;refine H8 QT λfr hl h0=>?_;simp[QT]at hl h0;simp[QT,hl,hS];refine B7.mono (mi (true,true) uG nm (by decide) _ _ ?_ ?_ ?_ ?_) ?_<;>first|(simp[hl,h0];done)|skip
 rintro e D5 h1 ⟨K,⟨rfl,hf⟩|⟨rfl,x,k2,hf⟩⟩
 .have A6:D5.length=24:=K.1.trans (by simp[hl]);simp[A6,Dw,NP,hf,zS]
 .simp[k2,Dw,NP,hf]
theorem nH (m m':I6) (l:List Sy) (nm:J3) (x0 x2:AV) (kids:G6) (B9:l.length<=1048576) (fr:Fr) (h:AH) (hh:h=⟨[[x0,.str nm,x2,sl m' 4 (A4 kids)]],[]⟩) (hl:fr.length=40) (h1:A0 fr 1=.ptr 0 0) (h3:A0 fr 3=sl m 4 (l.map Hn)) (h4:A0 fr 4=.int .i64 0) :
  B7 (lp (A2 (K8 Q) (D6 MS) Bz) (fr,h)) λe C3 h'=>Kp Bz.wr fr C3/\(e=.exit 0/\l.find? (λx=>decide (x.1=nm))=none\/e=.ret/\∃x:Sy,A0 C3 2=.bool (decide (x.2.1<=(kids.length:Int))&&decide ((kids.length:Int)<=x.2.2.1))/\l.find? (λx=>decide (x.1=nm))=some x):=by
 refine B4 rfl fr (λn fr h'=>∃(i:Nat),i+n=l.length/\A0 fr 4=.int .i64 (i:Nat)/\(h'=⟨[[x0,.str nm,x2,sl m' 4 (A4 kids)]],[]⟩/\(l.drop i).find? (λx=>decide (x.1=nm))=l.find? λx=>decide (x.1=nm))) ?_ l.length h ⟨0,by omega,h4,hh,rfl⟩;rintro J Φ hJ hΦ n D5 H1 K ⟨i,hi,k4,hr⟩;have A6:=K.1.trans hl;have k1:=A8 K 1 h1;have k3:=A8 K 3 h3;clear K;by_cases A7:i<l.length
 .have L4:=C6 i (by omega);obtain⟨rfl,hr⟩:=hr;have hx:=G1 (f:=Hn) (A0X A7);rw[A0O A7,A0m]at hr;clear hh;generalize l[i]=s at *
  obtain⟨s1,s2,s3,s4⟩:=s;simp only[Hn]at hx;by_cases hc:s1=nm
  .subst hc;simp only[decide_true]at hr;by_cases hd:s2<=(kids.length:Int)
   .simp[Bz,A6,k1,k3,k4,A7,hx,hd];exact hΦ _ _ _ (.inr ⟨rfl,(s1,s2,s3,s4),by simp[A6,hd],hr.symm⟩)
   .simp[Bz,A6,k1,k3,k4,A7,hx,hd];exact hΦ _ _ _ (.inr ⟨rfl,(s1,s2,s3,s4),by simp[A6,hd],hr.symm⟩)
  .simp only[hc,decide_false]at hr;simp[Bz,A6,k1,k3,k4,A7,L4,hx,hc];exact G0 hJ ⟨i+1,by omega,by simp[A6],rfl,hr⟩
 .obtain⟨rfl,hr⟩:=hr;rw[A0P (by omega)]at hr;simp[Bz,A6,k3,k4,A7];exact hΦ _ _ _ (.inl ⟨rfl,hr.symm⟩)
theorem vY (t:Tm) (hk:Dw t.name≠0):pc Q MS [B8 t]=some (.bool (Lp t.name t.kids.length)):=by
 have hS:=Sz;refine H8 QU λfr hl h0=>?_;simp[QU]at hl h0;simp[QU,hl,h0,hS];refine B7.mono (nH (true,true) t.cm uG t.name (.int .i64 t.kind) (.int .i64 t.sort) t.kids (by decide) _ _ ?_ ?_ ?_ ?_ ?_) ?_<;>first|(simp[hl];done)|skip
 rintro e D5 h1 ⟨K,⟨rfl,hf⟩|⟨rfl,x,k2,hf⟩⟩
 .exact absurd (by simp[Dw,NP,hf,zS]) hk
 .simp[k2,Lp,NP,hf]
theorem ed (m:I6) (l:G6) (x0 x1 x2:AV) (B9:l.length<=1099511627776) (fr:Fr) (h:AH) (hh:h=⟨[[x0,x1,x2,sl m 4 (A4 l)]],[]⟩) (hl:fr.length=36) (h1:A0 fr 1=.ptr 0 0) (h3:A0 fr 3=.int .i64 0) :
  B7 (lp (A2 (K8 Q) (D6 Ja) y6) (fr,h)) λe C3 h'=>Kp y6.wr fr C3/\(e=.exit 0/\l.any EG=false\/e=.ret/\A0 C3 2=.bool false/\l.any EG=true):=by
 refine B4 rfl fr (λn fr h'=>∃(i:Nat),i+n=l.length/\A0 fr 3=.int .i64 (i:Nat)/\(h'=⟨[[x0,x1,x2,sl m 4 (A4 l)]],[]⟩/\(l.drop i).any EG=l.any EG)) ?_ l.length h ⟨0,by omega,h3,hh,rfl⟩;rintro J Φ hJ hΦ n D5 H1 K ⟨i,hi,k3,hr⟩;have A6:=K.1.trans hl;have k1:=A8 K 1 h1;clear K;by_cases A7:i<l.length
 .have L4:=C6 i (by omega);obtain⟨rfl,hr⟩:=hr;have hx:=I0 A7;rw[A0O A7,A00]at hr;clear hh;generalize l[i]=s at *
  by_cases hc:EG s=true
  .rw[hc,A0r]at hr;by_cases hk:s.kind=3
   .simp[y6,A6,k1,k3,A7,hx,hk];exact hΦ _ _ _ (.inr ⟨rfl,by simp[A6],hr.symm⟩)
   .have hs:s.sort≠1:=by simpa[EG,hk]using hc
    simp[y6,A6,k1,k3,A7,hx,hk,hs];exact hΦ _ _ _ (.inr ⟨rfl,by simp[A6],hr.symm⟩)
  .simp only[EG,A0w,decide_eq_true_eq,not_or,ne_eq,Decidable.not_not]at hc;have hn:EG s=false:=by simp[EG,hc]
   rw[hn,A0z]at hr;have hk:=hc.1;have hs:=hc.2;clear hc hn;simp[y6,A6,k1,k3,A7,L4,hx,hk,hs];exact G0 hJ ⟨i+1,by omega,by simp[A6],rfl,hr⟩
 .obtain⟨rfl,hr⟩:=hr;rw[A0P (by omega)]at hr;simp[y6,A6,k1,k3,A7];exact hΦ _ _ _ (.inl ⟨rfl,hr.symm⟩)
def uQ (nm:ByteArray) (l:List Tm):Bool:=if nm=bs [110,101,119]then (match l with | []=>true|a::_=>decide (a.kind=2))else !(l.any EG)
theorem nu (t:Tm) (hb:t.size<=1099511627776) (hn:t.name=bs [110,101,119]->1<=t.kids.length):pc Q Ja [B8 t]=some (.bool (uQ t.name t.kids)):=by
 have J5:=t.kids_size;have B9:=Tm.length_le t.kids;by_cases Cz:t.name=bs [110,101,119]
 .have hk:=hn Cz;have hx:Hm (A4 t.kids) 0=some (B8 t.kids[0]):=I0 (l:=t.kids) (i:=0) (by omega);have e:uQ t.name t.kids=decide (t.kids[0].kind=2):=by
   unfold uQ;rw[if_pos Cz];clear hx J5 B9 hb hn;obtain⟨k,nm,s,m,l⟩:=t;cases l with
   |nil=>simp[Tm.kids]at hk
   |cons a l=>rfl
  rw[e];refine H8 EN λfr hl h0=>?_;simp[EN]at hl h0;simp[EN,hl,h0,Cz,hx]
 .have e:uQ t.name t.kids=!(t.kids.any EG):=by unfold uQ;rw[if_neg Cz]
  rw[e];have GX:=ed t.cm t.kids (.int .i64 t.kind) (.str t.name) (.int .i64 t.sort) (by omega);generalize t.kids.any EG=b at GX ⊢;refine H8 EN λfr hl h0=>?_;simp[EN]at hl h0;simp[EN,hl,h0,Cz];refine B7.mono (GX _ _ ?_ ?_ ?_ ?_) ?_<;>first|(simp[hl];done)|skip
  rintro e D5 h1 ⟨K,⟨rfl,ha⟩|⟨rfl,k2,ha⟩⟩
  .have A6:D5.length=36:=K.1.trans (by simp[hl]);simp[A6,ha]
  .simp[k2,ha]
theorem XY (nm:J3):Dw nm=2↔nm=bs [115,107]\/nm=bs [115,104,107]\/nm=bs [110,101,119]:=by
 constructor
 .intro h;have hm:∀x∈uG,x.2.2.2=2->x.1=bs [115,107]\/x.1=bs [115,104,107]\/x.1=bs [110,101,119]:=by decide
  unfold Dw NP at h;cases hf:uG.find? (λx=>decide (x.1=nm))with
  |none=>rw[hf]at h;exact absurd h (by decide)
  |some x =>
   rw[hf]at h;have h1:=List.find?_some hf;simp only[decide_eq_true_eq]at h1;rw[←h1];exact hm x (List.mem_of_find?_eq_some hf) h
 .rintro(rfl|rfl|rfl)<;>decide
theorem xE (nm:J3) (l:G6):Yo nm l=if Dw nm=2/\uQ nm l=false then 10 else 0:=by
 have hd1:(bs [115,107])≠bs [110,101,119]:=by decide
 have hd2:(bs [115,104,107])≠bs [110,101,119]:=by decide
 unfold Yo uQ;by_cases h1:nm=bs [115,107]\/nm=bs [115,104,107]
 .have hk:Dw nm=2:=(XY nm).2 (by rcases h1 with h|h;exact .inl h;exact .inr (.inl h))
  have hn:nm≠bs [110,101,119]:=by
   rcases h1 with rfl|rfl
   .exact hd1
   .exact hd2
  rw[if_pos h1,if_neg hn];cases l.any EG<;>simp[hk]
 .rw[if_neg h1];by_cases hn:nm=bs [110,101,119]
  .have hk:Dw nm=2:=(XY nm).2 (.inr (.inr hn));rw[if_pos hn,if_pos hn];cases l with
   |nil=>simp
   |cons a l=>by_cases ha:a.kind=2<;>simp[hk,ha]
  .rw[if_neg hn,if_neg];rintro⟨h,-⟩;rcases (XY nm).1 h with h|h|h
   .exact h1 (.inl h)
   .exact h1 (.inr h)
   .exact hn h
theorem bw (m:I6) (l:G6) (x0 x1 x2:AV) (B9:l.length<=1099511627776) (IH:∀t∈l,pc Q Fq [B8 t]=some (.int .i64 (Ue t))) (fr:Fr) (h:AH) (hh:h=⟨[[x0,x1,x2,sl m 4 (A4 l)]],[]⟩) (hl:fr.length=40) (h1:A0 fr 1=.ptr 0 0) (h4:A0 fr 4=.int .i64 0) :
  B7 (lp (A2 (K8 Q) (D6 Fq) Cc) (fr,h)) λe C3 h'=>Kp Cc.wr fr C3/\(e=.exit 0/\NQ l=0\/e=.ret/\A0 C3 2=.int .i64 (NQ l)):=by
 refine B4 rfl fr (λn fr h'=>∃(i:Nat),i+n=l.length/\A0 fr 4=.int .i64 (i:Nat)/\(h'=⟨[[x0,x1,x2,sl m 4 (A4 l)]],[]⟩/\NQ (l.drop i)=NQ l)) ?_ l.length h ⟨0,by omega,h4,hh,rfl⟩;rintro J Φ hJ hΦ n D5 H1 K ⟨i,hi,k4,hr⟩;have A6:=K.1.trans hl;have k1:=A8 K 1 h1;clear K;by_cases A7:i<l.length
 .have L4:=C6 i (by omega);obtain⟨rfl,hr⟩:=hr;have hx:=I0 A7;have hI:=IH l[i] (A0Q A7);rw[A0O A7,VV]at hr;clear hh;generalize l[i]=s at *
  by_cases hc:Ue s=0
  .rw[if_neg (by simp[hc])]at hr;rw[hc]at hI;simp[Cc,A6,k1,k4,A7,L4,hx,hI];exact G0 hJ ⟨i+1,by omega,by simp[A6],by simp,hr⟩
  .rw[if_pos hc]at hr;simp[Cc,A6,k1,k4,A7,hx,hI,hc];exact hΦ _ _ _ (.inr ⟨rfl,by simp[A6,hr]⟩)
 .obtain⟨rfl,hr⟩:=hr;rw[A0P (by omega)]at hr;simp[Cc,A6,k1,k4,A7];exact hΦ _ _ _ (.inl ⟨rfl,hr.symm⟩)
theorem jo:∀(n:Nat) (t:Tm),t.size<=n->t.size<=1099511627776->pc Q Fq [B8 t]=some (.int .i64 (Ue t)):=by
 intro n
 induction n with
 |zero=>intro t h;have:=t.size_pos;omega
 |succ n ih =>
  intro t hn hb;have J5:=t.kids_size;have B9:=Tm.length_le t.kids;have GX:=bw t.cm t.kids (.int .i64 t.kind) (.str t.name) (.int .i64 t.sort) (by omega) (λt' ht=>by have:=Tm.size_le ht;exact ih t' (by omega) (by omega));clear ih;have hK:=cK t.name;have hF:=vY t;have hA:=nu t hb;have hfn:t.name=bs [110,101,119]->Lp t.name t.kids.length=true->1<=t.kids.length:=λe h=>fE (by rw[←e];exact h);have e:Ue t=if t.kind≠3 then 0 else if Dw t.name=0 then 10 else if Lp t.name t.kids.length=false then 6 else if Yo t.name t.kids≠0 then Yo t.name t.kids else NQ t.kids:=by
   obtain⟨k,nm,s,m,l⟩:=t;rw[Ue];rfl
  rw[e,xE];clear e;by_cases hk:t.kind=3
  .rw[if_neg (by simp[hk])];have hag:AV.agg [.int .i64 3,.str t.name,.int .i64 t.sort,sl t.cm 4 (A4 t.kids)]=B8 t:=by rw[←hk];exact VX t
   by_cases hkd:Dw t.name=0
   .rw[if_pos hkd];rw[hkd]at hK;refine H8 K6 λfr hl h0=>?_;simp[K6]at hl h0;simp[K6,hl,h0,hk,hK]
   .rw[if_neg hkd];have hF:=hF hkd;by_cases hf:Lp t.name t.kids.length=false
    .rw[if_pos hf];rw[hf]at hF;refine H8 K6 λfr hl h0=>?_;simp[K6]at hl h0;simp[K6,hl,h0,hk,hag,hK,hkd,hF]
    .rw[if_neg hf];have hf':Lp t.name t.kids.length=true:=by simpa using hf
     rw[hf']at hF;have hA:=hA (λe=>hfn e hf');by_cases hp:Dw t.name=2
     .by_cases ha:uQ t.name t.kids=false
      .rw[if_pos (by simp[hp,ha]),if_pos ⟨hp,ha⟩];rw[ha]at hA;rw[hp]at hK;refine H8 K6 λfr hl h0=>?_;simp[K6]at hl h0;simp[K6,hl,h0,hk,hag,hK,hF,hA]
      .rw[if_neg (by simp[ha])];have ha':uQ t.name t.kids=true:=by simpa using ha
       rw[ha']at hA;rw[hp]at hK;refine H8 K6 λfr hl h0=>?_;simp[K6]at hl h0;simp[K6,hl,h0,hk,hag,hK,hF,hA];refine B7.mono (GX _ _ ?_ ?_ ?_ ?_) ?_<;>first|(simp[hl,hk];done)|skip
       rintro e D5 h1 ⟨K,⟨rfl,he⟩|⟨rfl,k2⟩⟩
       .have A6:D5.length=40:=K.1.trans (by simp[hl]);simp[A6,he]
       .simp[k2]
     .rw[if_neg (by simp[hp])];refine H8 K6 λfr hl h0=>?_;simp[K6]at hl h0;simp[K6,hl,h0,hk,hag,hK,hkd,hp,hF];refine B7.mono (GX _ _ ?_ ?_ ?_ ?_) ?_<;>first|(simp[hl,hk];done)|skip
      rintro e D5 h1 ⟨K,⟨rfl,he⟩|⟨rfl,k2⟩⟩
      .have A6:D5.length=40:=K.1.trans (by simp[hl]);simp[A6,he]
      .simp[k2]
  .rw[if_pos hk];refine H8 K6 λfr hl h0=>?_;simp[K6]at hl h0;simp[K6,hl,h0,hk]
theorem RW (t:Tm) (hb:t.size<=1099511627776):pc Q IC [B8 t]=some (.int .i64 (vE t)):=by
 have h1:=Lv t hb;have h2:=jo _ t (A0R _) hb;unfold vE;by_cases hv:R6 t=0
 .rw[if_neg (by simp[hv])];rw[hv]at h1;refine H8 GA λfr hl h0=>?_;simp[GA]at hl h0;simp[GA,hl,h0,h1,h2]
 .rw[if_pos hv];refine H8 GA λfr hl h0=>?_;simp[GA]at hl h0;simp[GA,hl,h0,h1,hv]
end Go.Abs.Q
