/- A part of the proof. -/
import Derived.Test.YtohjdamplbhdpaaGreatDoorSE14
set_option linter.all false
open List renaming drop_eq_getElem_cons->A0Z,drop_eq_nil_of_le->A0a,getElem_mem->A0b,take_of_length_le->A0d,length_append->A0e,take_succ_eq_append_getElem->A0f,length_map->A0g,map_append->A0h,getElem?_eq_getElem->A0i,length_take->A0j,take_append_drop->A0k,eq_nil_of_length_eq_zero->A0l,getElem_of_mem->A0m,map_cons->A0o,length_cons->A0p,length_drop->A0q,find?_cons->A0r,mem_append->A0s,length_filter_le->A0t,mem_of_mem_drop->A0u,mem_cons->A0v,flatMap_append->A0w,any_eq_true->A0y,filter_cons->A0z,mem_flatMap->A00,append_nil->A03,filter_nil->A04,any_cons->A06,map_nil->A08,length->A09
open Nat renaming le_refl->A0c,lt_or_eq_of_le->A0n
open Bool renaming and_eq_true->A0x,eq_iff_iff->A01,or_eq_true->A02,false_or->A05,true_or->A07
namespace Go.Abs.Q
open Go.Proofs
attribute [local simp] E6 E8 fin K1 H2 P7 M6
theorem yH (m:I6) (l:G7) (t:Tm) (B8:l.length<=1048576) (hs:∀x∈l,x.size<=1099511627776) (ht:t.size<=1099511627776) :
  ∃m',pc Q r7 [sl m 4 (A4 l),B9 t]=some (sl m' 4 (A4 (Lx t false l))):=by
 suffices h:∃v,pc Q r7 [sl m 4 (A4 l),B9 t]=some v/\∃q:Bool×Bool,v=sl q 4 (A4 (Lx t false l)) by
  obtain⟨v,h1,q,rfl⟩:=h;exact⟨q,h1⟩
 refine Sz Rv λΨ hΨ fr hl h0 h1=>?_;simp[Rv]at hl h0 h1;simp[Rv,h1];refine B6.mono (rZ m l t B8 hs ht _ _ ?_ ?_ ?_ ?_ ?_ ?_ ?_) ?_<;>first|(simp[hl,h0];done)|skip
 rintro e D4 ⟨B,F⟩ ⟨K,rfl,acc,d,v,hB,k5,k6,hg,hal,hr⟩;simp only at hB;subst hB;have J3:D4.length=47:=K.1.trans (by simp[hl]);have OP:A0 D4 3=.ptr 0 0:=A8 K 3 (by simp[hl]);clear K;have hlA:(A4 acc).length=acc.length:=by rw[C9,A0g]
 cases d with
 |true =>
  rw[Zb,A03]at hr;obtain⟨mm,hz⟩:=Ka hg;obtain⟨c1,c2,c3⟩:=L6 hg;simp only[I3]at hz;simp[J3,k5,k6,hz];refine hΨ _ ⟨mm,?_⟩;rw[hr]
 |false =>
  obtain⟨v1,⟨B1,F1⟩,a1,g1,b1⟩:=Al (c:=D6 r7) (bytes:=56) (x:=B9 t) hg rfl (true,true) (by omega) (by omega);simp only at b1;subst b1;rw[←Q0]at g1;simp only[Lx]at hr;rw[if_neg (by simp)]at hr;obtain⟨mm,hz⟩:=Ka g1;obtain⟨c1,c2,c3⟩:=L6 g1;simp only[I3]at a1 hz;simp[J3,OP,k5,k6,hz,a1,A5];exact hΨ _ ⟨mm,by rw[hr]⟩
theorem rh (m:I6) (l:G7) (B8:l.length<=1048576) (hs:∀x∈l,x.size<=1099511627776) (fr:Fr) (h:AH) (h3:A0 fr 3=.vs true 0 []) (hl:fr.length=18) (h0:A0 fr 0=sl m 4 (A4 l)) (h4:A0 fr 4=.int .i64 0) :
  B6 (lp (A2 (K8 Q) (D6 Ez) Ie) (fr,h)) λe C3 h'=>Kp Ie.wr fr C3/\e=.exit 0/\∃(R:List Tm) (m':Bool×Bool),A0 C3 3=sl m' 4 (A4 R)/\L9 R l/\(∀x∈R,x∈l)/\R.length<=l.length:=by
 refine A9 rfl fr (λn fr h'=>∃(i:Nat),i+n=l.length/\A0 fr 4=.int .i64 (i:Nat)/\(∃(R:List Tm) (m':Bool×Bool),A0 fr 3=sl m' 4 (A4 R)/\L9 R (l.take i)/\(∀x∈R,x∈l)/\R.length<=i)) ?_ l.length h ⟨0,by omega,h4,[],(true,false),h3.trans (GT 4),⟨List.Pairwise.nil,λ_=>Iff.rfl⟩,λ_ h=>(nomatch h),A0c _⟩;rintro J Φ hJ hΦ n D4 H1 K ⟨i,hi,k4,hr⟩;have A6:=K.1.trans hl;have k0:=A8 K 0 h0;clear K;by_cases A7:i<l.length
 .have L3:=C6 i (by omega);obtain⟨R,m',k3,x4,hsub,hRl⟩:=hr;have hx:=I0 A7;have HW:=A0b A7;obtain⟨m2,hA⟩:=yH m' R l[i] (by omega) (λx hx=>hs x (hsub x hx)) (hs _ HW);have h2:=iO (t:=l[i]) x4;rw[←A0f A7]at h2;obtain⟨-,j2,-,-,j5⟩:=VH l[i] R x4.1;generalize l[i]=s at *
  simp[Ie,A6,k0,k4,A7,L3,k3,hx,hA];refine⟨n-1,by omega,hJ _ _ _ ⟨i+1,by omega,by simp[A6],Lx s false R,m2,by simp[A6],h2,λx hx=>?_,by omega⟩⟩;rcases j2 x hx with rfl|hx
  .exact HW
  .exact hsub x hx
 .obtain⟨R,m',k3,x4,hsub,hRl⟩:=hr;rw[A0d (by omega)]at x4;simp[Ie,A6,k0,k4,A7];exact hΦ _ _ _ ⟨rfl,R,m',by simp[k3],x4,hsub,by omega⟩
theorem ji (m:I6) (l:G7) (B8:l.length<=1048576) (hs:∀x∈l,x.size<=1099511627776) :
  ∃(R:List Tm) (m':Bool×Bool),pc Q Ez [sl m 4 (A4 l)]=some (sl m' 4 (A4 R))/\L9 R l/\(∀x∈R,x∈l)/\R.length<=l.length:=by
 suffices h:∃v,pc Q Ez [sl m 4 (A4 l)]=some v/\∃q:List Tm×(Bool×Bool),v=sl q.2 4 (A4 q.1)/\L9 q.1 l/\(∀x∈q.1,x∈l)/\q.1.length<=l.length by
  obtain⟨v,h1,q,rfl,h2⟩:=h;exact⟨q.1,q.2,h1,h2⟩
 refine Fj Ry λΨ hΨ fr hl h0=>?_;simp[Ry]at hl h0;simp[Ry];refine B6.mono (rh m l B8 hs _ _ ?_ ?_ ?_ ?_) ?_<;>first|(simp[hl,h0];done)|skip
 rintro e D4 h1 ⟨K,rfl,R,m',k3,h2⟩;have A6:D4.length=18:=K.1.trans (by simp[hl]);simp[A6,k3];exact hΨ _ ⟨(R,m'),rfl,h2⟩
def iJ (sz:Nat) (acc:List AV) (v:AV) (h:AH):Prop:=v=sl (true,true) sz acc\/EB sz acc v h
theorem XD {c:Ctx} {sz bytes:Nat} {acc ys:G6} {v x:AV} {h:AH} (hg:iJ sz acc v h) (hm:c.mutApp=false) (hx:AY h sz x=some ys) (P4:ys≠[])
  (hb:(acc.length+ys.length)*bytes<=H3/\acc.length+ys.length<=maxLen):∃v' h',K6 c h sz bytes v x=some (v',h')/\EB sz (acc++ys) v' h'/\h'.boxes=h.boxes:=by
 rcases hg with rfl|hg
 .have e:K6 c h sz bytes (sl (true,true) sz acc) x=some (.sl h.fams.length (acc.length+ys.length) 0 (acc.length+ys.length),{h with fams:=h.fams++[⟨acc++ys,sz,c.mutApp⟩]}):=by
   have:sl (true,true) sz acc=.vs true sz acc:=by simp[sl]
   rw[this];simp only[K6,hx];rw[if_neg (λk=>P4 (A0l k)),if_pos ⟨by simp,hb⟩]
  rw[e,hm];exact⟨_,_,rfl,.inr ⟨by simp[P4],h.fams.length,by simp,by simp⟩,rfl⟩
 .exact OH hg hm hx hb
theorem dY {sz:Nat} {acc:G6} {v:AV} {h:AH} (hg:iJ sz acc v h):∃m,Dg h v=some (sl m sz acc):=by
 rcases hg with rfl|hg
 .exact⟨(true,true),rfl⟩
 .exact Ka hg
theorem iK {sz:Nat} {acc:G6} {v:AV} {h:AH} (hg:iJ sz acc v h):v.isTup=false/\v.cells=[v]/\ED [v]=false:=by
 rcases hg with rfl|hg
 .exact⟨rfl,rfl,rfl⟩
 .exact L6 hg
theorem Ut (a b:G7):A4 (a++b)=A4 a++A4 b:=by simp[C9]
theorem ud (t:Tm):A4 (DC t)≠[]:=by
 rw[AL,C9];simp
theorem rd (m:I6) (l:G7) (t:Tm) (x0 x1 x2:AV) (B8:Tm.sizes l<=1048576) (hll:l.length<=1048576) (IH:∀x∈l,∃m',pc Q BV [B9 x]=some (sl m' 4 (A4 (DC x)))) (fr:Fr) (h:AH) (hh:h.boxes=[[x0,x1,x2,sl m 4 (A4 l)]]) (h3:A0 fr 3=sl (true,true) 4 [B9 t]) (hl:fr.length=23) (h1:A0 fr 1=.ptr 0 0) (h4:A0 fr 4=.int .i64 0) :
  B6 (lp (A2 (K8 Q) (D6 BV) Ic) (fr,h)) λe C3 h'=>Kp Ic.wr fr C3/\e=.exit 0/\∃v:AV,h'.boxes=[[x0,x1,x2,sl m 4 (A4 l)]]/\A0 C3 3=v/\iJ 4 (A4 (t::alls l)) v h':=by
 refine A9 rfl fr (λn fr h'=>∃(i:Nat),i+n=l.length/\A0 fr 4=.int .i64 (i:Nat)/\(∃v:AV,h'.boxes=[[x0,x1,x2,sl m 4 (A4 l)]]/\A0 fr 3=v/\iJ 4 (A4 (t::alls (l.take i))) v h')) ?_ l.length h ⟨0,by omega,h4,_,hh,h3,.inl rfl⟩;rintro J Φ hJ hΦ n D4 H1 K ⟨i,hi,k4,hr⟩;have A6:=K.1.trans hl;have k1:=A8 K 1 h1;clear K;by_cases A7:i<l.length
 .have L3:=C6 i (by omega);obtain⟨v,hB,k3,hg⟩:=hr;obtain⟨B,F⟩:=H1;simp only at hB;subst hB;have hx:=I0 A7;obtain⟨m',hA⟩:=IH l[i] (A0b A7);have hat:=PS A7;have hal:=Q8 (l.take (i+1));have a3:Tm.sizes (l.take (i+1))<=Tm.sizes l:=by
   have e:=congrArg A09 (congrArg alls (A0k (i+1) l));rw[G3,G3,A0w,A0e,←G3,←G3,←G3,Q8,Q8,Q8]at e;omega
  rw[hat]at hal;obtain⟨v1,⟨B1,F1⟩,a1,g1,b1⟩:=XD (c:=D6 BV) (bytes:=56) (x:=sl m' 4 (A4 (DC l[i]))) hg rfl (N0 _ m' 4 _) (ud _) (by
   simp only[A0e]at hal;simp only[H3,maxLen,C9,A0g,A0p];omega)
  simp only at b1;subst b1;rw[←Ut,List.cons_append,←hat]at g1;clear hat hal hg hh;generalize l[i]=s at *
  simp[Ic,A6,k1,k4,A7,L3,k3,hx,hA,a1];exact G0 hJ ⟨i+1,by omega,by simp[A6],v1,by simp,by simp[A6],.inr g1⟩
 .obtain⟨v,hB,k3,hg⟩:=hr;rw[A0d (by omega)]at hg;obtain⟨B,F⟩:=H1;simp only at hB;subst hB;simp[Ic,A6,k1,k4,A7];exact hΦ _ _ _ ⟨rfl,v,rfl,by simp[k3],hg⟩
theorem jf:∀(n:Nat) (t:Tm),t.size<=n->t.size<=1048576->∃m',pc Q BV [B9 t]=some (sl m' 4 (A4 (DC t))):=by
 intro n
 induction n with
 |zero=>intro t h;have:=t.size_pos;omega
 |succ n ih =>
  intro t hn hb;have J4:=t.kids_size;have Gl:=rd t.cm t.kids t (.int .i64 t.kind) (.str t.name) (.int .i64 t.sort) (by omega) (by have:=Tm.length_le t.kids;omega) (λt' ht'=>by have:=Tm.size_le ht';exact ih t' (by omega) (by omega));clear ih
  suffices h:∃v,pc Q BV [B9 t]=some v/\∃q:Bool×Bool,v=sl q 4 (A4 (DC t)) by
   obtain⟨v,h1,q,rfl⟩:=h;exact⟨q,h1⟩
  refine Fj Rw λΨ hΨ fr hl h0=>?_;simp[Rw]at hl h0;simp[Rw,hl,h0,A5];refine B6.mono (Gl _ _ ?_ ?_ ?_ ?_ ?_) ?_<;>first|(simp[hl];done)|skip
  rintro e D4 ⟨B,F⟩ ⟨K,rfl,v,hB,k3,hg⟩;obtain⟨mm,hz⟩:=dY hg;obtain⟨c1,c2,c3⟩:=iK hg;have A6:D4.length=23:=K.1.trans (by simp[hl]);simp[A6,k3,hz];exact hΨ _ ⟨mm,by rw[AL]⟩
theorem VU (m:I6) (l:G7) (B8:Tm.sizes l<=1048576) (hll:l.length<=1048576) (fr:Fr) (h:AH) (hh:h.boxes=[]) (h3:A0 fr 3=.vs true 0 []) (hl:fr.length=20) (h0:A0 fr 0=sl m 4 (A4 l)) (h4:A0 fr 4=.int .i64 0) :
  B6 (lp (A2 (K8 Q) (D6 x8) CF) (fr,h)) λe C3 h'=>Kp CF.wr fr C3/\e=.exit 0/\∃v:AV,h'.boxes=[]/\A0 C3 3=v/\EB 4 (A4 (alls l)) v h':=by
 refine A9 rfl fr (λn fr h'=>∃(i:Nat),i+n=l.length/\A0 fr 4=.int .i64 (i:Nat)/\(∃v:AV,h'.boxes=[]/\A0 fr 3=v/\EB 4 (A4 (alls (l.take i))) v h')) ?_ l.length h ⟨0,by omega,h4,_,hh,h3,DB _ _⟩;rintro J Φ hJ hΦ n D4 H1 K ⟨i,hi,k4,hr⟩;have A6:=K.1.trans hl;have k0:=A8 K 0 h0;clear K;by_cases A7:i<l.length
 .have L3:=C6 i (by omega);obtain⟨v,hB,k3,hg⟩:=hr;obtain⟨B,F⟩:=H1;simp only at hB;subst hB;have hx:=I0 A7;have hat:=PS A7;have hal:=Q8 (l.take (i+1));have a3:Tm.sizes (l.take (i+1))<=Tm.sizes l:=by
   have e:=congrArg A09 (congrArg alls (A0k (i+1) l));rw[G3,G3,A0w,A0e,←G3,←G3,←G3,Q8,Q8,Q8]at e;omega
  rw[hat]at hal;obtain⟨m',hA⟩:=jf _ l[i] (A0c _) (by have:=Tm.size_le (A0b A7);omega);obtain⟨v1,⟨B1,F1⟩,a1,g1,b1⟩:=OH (c:=D6 x8) (bytes:=56) (x:=sl m' 4 (A4 (DC l[i]))) hg rfl (N0 _ m' 4 _) (by
   simp only[A0e]at hal;simp only[H3,maxLen,C9,A0g];omega)
  simp only at b1;subst b1;rw[←Ut,←hat]at g1;clear hat hal hg hh;generalize l[i]=s at *
  simp[CF,A6,k0,k4,A7,L3,k3,hx,hA,a1];exact G0 hJ ⟨i+1,by omega,by simp[A6],v1,by simp,by simp[A6],g1⟩
 .obtain⟨v,hB,k3,hg⟩:=hr;rw[A0d (by omega)]at hg;simp[CF,A6,k0,k4,A7];exact hΦ _ _ _ ⟨rfl,v,hB,by simp[k3],hg⟩
theorem Rh (m:I6) (l:G7) (B8:Tm.sizes l<=1048576) :
  ∃(R:List Tm) (m':Bool×Bool),pc Q x8 [sl m 4 (A4 l)]=some (sl m' 4 (A4 R))/\L9 R (alls l)/\(∀x∈R,x∈alls l)/\R.length<=Tm.sizes l:=by
 suffices h:∃v,pc Q x8 [sl m 4 (A4 l)]=some v/\∃q:List Tm×(Bool×Bool),v=sl q.2 4 (A4 q.1)/\L9 q.1 (alls l)/\(∀x∈q.1,x∈alls l)/\q.1.length<=Tm.sizes l by
  obtain⟨v,h1,q,rfl,h2⟩:=h;exact⟨q.1,q.2,h1,h2⟩
 have hal:=Q8 l;refine Fj LC λΨ hΨ fr hl h0=>?_;simp[LC]at hl h0;simp[LC];refine B6.mono (VU m l B8 (by have:=Tm.length_le l;omega) _ _ ?_ ?_ ?_ ?_ ?_) ?_<;>first|(simp[hl,h0];done)|skip
 rintro e D4 h1 ⟨K,rfl,v,hB,k3,hg⟩;have A6:D4.length=20:=K.1.trans (by simp[hl]);obtain⟨mm,hz⟩:=SP hg;have htm:CS h1 v=true:=by
  rcases hg with ⟨_,rfl⟩|⟨_,k,rfl,hk⟩
  .rfl
  .simp only[CS,KW,hk];rfl
 obtain⟨R,m',hS,x4,hsub,hRl⟩:=ji mm (alls l) (by omega) (λx hx=>by
  rw[G3]at hx;obtain⟨y,hy,hx⟩:=A00.1 hx;have:=ST _ y (A0c _) x hx;have:=Tm.size_le hy;omega)
 simp[A6,k3,hz,hS,htm];exact hΨ _ ⟨(R,m'),rfl,x4,hsub,by rw[←hal];exact hRl⟩
theorem nW (m:I6) (l:G7) (kd:Int) (hll:l.length<=1048576) (fr:Fr) (h:AH) (h5:A0 fr 5=.vs true 0 []) (hl:fr.length=32) (h1:A0 fr 1=.int .i64 kd) (h6:A0 fr 6=sl m 4 (A4 l)) (h7:A0 fr 7=.int .i64 0) :
  B6 (lp (A2 (K8 Q) (D6 HZ) EU) (fr,h)) λe C3 h'=>Kp EU.wr fr C3/\e=.exit 0/\∃v:AV,h'.boxes=h.boxes/\A0 C3 5=v/\EB 4 (A4 (l.filter λx=>decide (x.kind=kd))) v h':=by
 refine A9 rfl fr (λn fr h'=>∃(i:Nat),i+n=l.length/\A0 fr 7=.int .i64 (i:Nat)/\(∃v:AV,h'.boxes=h.boxes/\A0 fr 5=v/\EB 4 (A4 ((l.take i).filter λx=>decide (x.kind=kd))) v h')) ?_ l.length h ⟨0,by omega,h7,_,rfl,h5,DB _ _⟩;rintro J Φ hJ hΦ n D4 H1 K ⟨i,hi,k7,hr⟩;have A6:=K.1.trans hl;have k1:=A8 K 1 h1;have k6:=A8 K 6 h6;clear K;by_cases A7:i<l.length
 .have L3:=C6 i (by omega);obtain⟨v,hB,k5,hg⟩:=hr;have hx:=I0 A7;have hfl:=A0t (λx:Tm=>decide (x.kind=kd)) (l.take i);have htl:(l.take i).length<=1048576:=by rw[A0j];omega
  have e2:(l.take (i+1)).filter (λx:Tm=>decide (x.kind=kd))=(l.take i).filter (λx:Tm=>decide (x.kind=kd))++[l[i]].filter (λx:Tm=>decide (x.kind=kd)):=by
   rw[A0f A7,List.filter_append]
  generalize l[i]=s at *
  by_cases hc:s.kind=kd
  .subst hc;rw[A0z,if_pos (by simp),A04]at e2;have hz2:(A4 ((l.take i).filter λx=>decide (x.kind=s.kind))).length=((l.take i).filter λx=>decide (x.kind=s.kind)).length:=by rw[C9,A0g]
   obtain⟨v1,⟨B1,F1⟩,a1,g1,b1⟩:=Al (c:=D6 HZ) (bytes:=56) (x:=B9 s) hg rfl (true,true) (by omega) (by omega);simp only at b1;subst b1;rw[←Q0,←e2]at g1;obtain⟨c1,c2,c3⟩:=L6 g1;simp[EU,A6,k1,k6,k7,A7,L3,k5,hx,A5,a1];exact G0 hJ ⟨i+1,by omega,by simp[A6],v1,hB,by simp[A6],g1⟩
  .rw[A0z,if_neg (by simp[hc]),A04,A03]at e2;rw[←e2]at hg;simp[EU,A6,k1,k6,k7,A7,L3,hx,hc];exact G0 hJ ⟨i+1,by omega,by simp[A6],v,hB,by simp[k5],hg⟩
 .obtain⟨v,hB,k5,hg⟩:=hr;rw[A0d (by omega)]at hg;simp[EU,A6,k6,k7,A7];exact hΦ _ _ _ ⟨rfl,v,hB,by simp[k5],hg⟩
theorem jv (t:Tm) (kd:Int) (B8:t.size<=1048576) :
  ∃(R:List Tm) (m':Bool×Bool),pc Q HZ [B9 t,.int .i64 kd]=some (sl m' 4 (A4 R))/\L9 R ((DC t).filter λx=>decide (x.kind=kd)):=by
 obtain⟨m,hA⟩:=jf _ t (A0c _) B8;have hal:=Mw t;have hfl:=A0t (λx:Tm=>decide (x.kind=kd)) (DC t)
 suffices h:∃v,pc Q HZ [B9 t,.int .i64 kd]=some v/\∃q:List Tm×(Bool×Bool),v=sl q.2 4 (A4 q.1)/\L9 q.1 ((DC t).filter λx=>decide (x.kind=kd)) by
  obtain⟨v,h1,q,rfl,h2⟩:=h;exact⟨q.1,q.2,h1,h2⟩
 refine Sz Qc λΨ hΨ fr hl h0 h1=>?_;simp[Qc]at hl h0 h1;simp[Qc,hl,h0,hA];refine B6.mono (nW m (DC t) kd (by omega) _ _ ?_ ?_ ?_ ?_ ?_) ?_<;>first|(simp[hl,h1];done)|skip
 rintro e D4 DD ⟨K,rfl,v,hB,k5,hg⟩;have A6:D4.length=32:=K.1.trans (by simp[hl]);obtain⟨mm,hz⟩:=SP hg;have htm:CS DD v=true:=by
  rcases hg with ⟨_,rfl⟩|⟨_,k,rfl,hk⟩
  .rfl
  .simp only[CS,KW,hk];rfl
 obtain⟨R,m',hS,x4,-⟩:=ji mm ((DC t).filter λx=>decide (x.kind=kd)) (by omega) (λx hx=>by
  have:=ST _ t (A0c _) x (List.mem_filter.1 hx).1;omega)
 simp[A6,k5,hz,hS,htm];exact hΨ _ ⟨(R,m'),rfl,x4⟩
def vJ (t:Tm):Bool:=((DC t).filter λx=>decide (x.kind=1)).isEmpty
theorem ZY {R l:G7} (h:L9 R l):R.length=0↔l.isEmpty=true:=by
 have h2:=h.2;rw[List.isEmpty_iff];constructor
 .intro e;have:R=[]:=A0l e;subst this;cases l with
  |nil=>rfl
  |cons a l=>exact absurd ((h2 (E3 a)).2 (by simp)) (by simp)
 .rintro rfl;cases R with
  |nil=>rfl
  |cons a l=>exact absurd ((h2 (E3 a)).1 (by simp)) (by simp)
theorem ob (t:Tm) (B8:t.size<=1048576):pc Q NI [B9 t]=some (.bool (vJ t)):=by
 obtain⟨R,m',hK,x4⟩:=jv t 1 B8;have hV:pc Q QJ [B9 t]=some (sl m' 4 (A4 R)):=by
  refine H6 Qb λfr hl h0=>?_;simp[Qb]at hl h0;simp[Qb,hl,h0,hK]
 have e:decide (R.length=0)=vJ t:=by
  rw[A01,decide_eq_true_iff];exact ZY x4
 refine H6 Nj λfr hl h0=>?_;simp[Nj]at hl h0;simp[Nj,hl,h0,hV];rw[←e];simp
theorem dw (a:Nat):G8 .shr (.int .u64 (a:Int)) (.int .u64 1)=some (.int .u64 ((a / 2:Nat):Int)):=by
 have e:Int.fdiv (a:Int) (2 ^ (min (1:Int).toNat IntKind.u64.bits))=((a / 2:Nat):Int):=by
  rw[show min (1:Int).toNat IntKind.u64.bits=1 from rfl];rw[Int.fdiv_eq_ediv_of_nonneg _ (by decide)];omega
 simp only[G8];rw[if_pos (by decide),e]
theorem uI {n:Int} (h0:0<=n) (h1:n<=9223372036854775807):IntKind.u64.wrap n=n:=by
 simp only[IntKind.wrap,IntKind.bits,IntKind.signed];simp;omega
def Y5 (R:List Tm):Prop:=R.Pairwise λa b=>H7 a b<0
theorem Y5.get {R:G7} (h:Y5 R) {i j:Nat} (hi:i<R.length) (hj:j<R.length) (hij:i<j):H7 R[i] R[j]<0:=(List.pairwise_iff_getElem.1 h) i j hi hj hij
theorem rJ {R:G7} (h:Y5 R) (t:Tm) (i:Nat) (h1:∀j (hj:j<R.length),j<i->H7 R[j] t<0) (h2:∀j (hj:j<R.length),i<=j->0<=H7 R[j] t) :
  K4 R t=true↔∃hi:i<R.length,H7 R[i] t=0:=by
 simp only[K4,A0y,KU,decide_eq_true_eq];constructor
 .rintro⟨x,hx,hc⟩;obtain⟨j,hj,rfl⟩:=A0m hx;have hij:i<=j:=by
   rcases Nat.lt_or_ge j i with q|q
   .have:=h1 j hj q;omega
   .exact q
  refine⟨by omega,?_⟩;rcases A0n hij with q|q
  .have a:=h.get (by omega) hj q;have b:=h2 i (by omega) (A0c _);have:=sH a (by omega:H7 R[j] t<=0);omega
  .subst q;exact hc
 .rintro⟨hi,hc⟩;exact⟨_,A0b hi,hc⟩
theorem wl (m:I6) (R:G7) (t:Tm) (hR:Y5 R) (B8:R.length<=1099511627776) (hs:∀x∈R,x.size<=1099511627776) (ht:t.size<=1099511627776) :
  ∃i:Nat,i<=R.length/\(∀j (hj:j<R.length),j<i->H7 R[j] t<0)/\(∀j (hj:j<R.length),i<=j->0<=H7 R[j] t) /\
   pc Q I1 [sl m 4 (A4 R),B9 t,.fn C4 []]=some (.tup [.int .i64 (i:Nat),.bool (K4 R t)]):=by
 suffices h:∃v,pc Q I1 [sl m 4 (A4 R),B9 t,.fn C4 []]=some v/\∃i:Nat,v=.tup [.int .i64 (i:Nat),.bool (K4 R t)]/\i<=R.length/\(∀j (hj:j<R.length),j<i->H7 R[j] t<0)/\(∀j (hj:j<R.length),i<=j->0<=H7 R[j] t) by
  obtain⟨v,h1,i,rfl,h2,h3,h4⟩:=h;exact⟨i,h2,h3,h4,h1⟩
 refine gI S8 λΨ hΨ fr hl h0 h1 h2=>?_;simp[S8]at hl h0 h1 h2;simp[S8,hl,h0,h1];refine(A9 (Ψ:=λe C3 h'=>e=.exit 0/\h'=⟨[(B9 t).cells],[]⟩/\∃i:Nat,A0 C3 9=.int .i64 (i:Nat)/\i<=R.length/\(∀j (hj:j<R.length),j<i->H7 R[j] t<0)/\(∀j (hj:j<R.length),i<=j->0<=H7 R[j] t)) rfl _
  (λn C3 h'=>h'=⟨[(B9 t).cells],[]⟩/\∃lo hi:Nat,hi=lo+n/\hi<=R.length/\A0 C3 9=.int .i64 (lo:Nat)/\A0 C3 10=.int .i64 (hi:Nat)/\(∀j (hj:j<R.length),j<lo->H7 R[j] t<0)/\(∀j (hj:j<R.length),hi<=j->0<=H7 R[j] t)) ?_ R.length _
  ⟨by simp,0,R.length,by omega,A0c _,by simp[hl],by simp[hl],λj _ h=>absurd h (Nat.not_lt_zero _),λj hj h=>by omega⟩).mono ?_
 .rintro J Φ hJ hΦ n D4 H1 K ⟨rfl,lo,hi,hn,Zx,k9,k10,g1,g2⟩;have A6:D4.length=49:=K.1.trans (by simp[hl]);have k0:=A8 K 0 (by simp[h0]:_=sl m 4 (A4 R));have k2:=A8 K 2 (by simp[h2]:_=AV.fn C4 []);have k4:=A8 K 4 (by simp[hl]:_=AV.ptr 0 0);clear K;by_cases A7:0<n
  .have hlti:(lo:Int)<(hi:Int):=by omega
   have hw1:IntKind.i64.wrap ((lo:Int)+(hi:Int))=(lo:Int)+(hi:Int):=W8 (by omega) (by omega);have hw2:IntKind.u64.wrap ((lo:Int)+(hi:Int))=(lo:Int)+(hi:Int):=uI (by omega) (by omega);obtain⟨mid,hmd⟩:∃mid,mid=(lo+hi) / 2:=⟨_,rfl⟩;have hb:=dw (lo+hi);rw[←hmd,Int.natCast_add]at hb;have hm1:lo<=mid:=by omega
   have hm2:mid<hi:=by omega
   have hw3:IntKind.i64.wrap (mid:Int)=(mid:Int):=W8 (by omega) (by omega);have hw4:=C6 mid (by omega);have hmid:mid<R.length:=by omega
   have hx:=I0 hmid;have hC:=y7 _ R[mid] t (A0c _) (hs _ (A0b hmid)) ht;by_cases hc:H7 R[mid] t<0
   .have g1':∀j (hj:j<R.length),j<mid+1->H7 R[j] t<0:=λj hj hjm=>by
     rcases A0n (Nat.le_of_lt_succ hjm)with q|q
     .exact Gn (hR.get hj hmid q) hc
     .subst q;exact hc
    generalize R[mid]=x at *
    simp[M2,A6,k0,k2,k4,k9,k10,hlti,hw1,hw2,hw3,hw4,hb,hx,hC,hc];exact⟨hi-(mid+1),by omega,hJ _ _ _ ⟨by simp,mid+1,hi,by omega,Zx,by simp[A6],by simp[k10],g1',g2⟩⟩
   .have g2':∀j (hj:j<R.length),mid<=j->0<=H7 R[j] t:=λj hj hjm=>by
     rcases A0n hjm with q|q
     .rcases Int.lt_or_le (H7 R[j] t) 0 with p|p
      .exact absurd (Gn (hR.get hmid hj q) p) hc
      .exact p
     .subst q;omega
    generalize R[mid]=x at *
    simp[M2,A6,k0,k2,k4,k9,k10,hlti,hw1,hw2,hw3,hb,hx,hC,hc];exact⟨mid-lo,by omega,hJ _ _ _ ⟨by simp,lo,mid,by omega,by omega,by simp[k9],by simp[A6],g1,g2'⟩⟩
  .have hn0:n=0:=by omega
   have hlh:hi=lo:=by omega
   subst hlh;simp[M2,A6,k9,k10];exact hΦ _ _ _ ⟨rfl,by simp,hi,by simp[k9],Zx,g1,g2⟩
 .rintro e D4 DD ⟨K,rfl,rfl,i,k9,hi,g1,g2⟩;have A6:D4.length=49:=K.1.trans (by simp[hl]);have k0:=A8 K 0 (by simp[h0]:_=sl m 4 (A4 R));have k2:=A8 K 2 (by simp[h2]:_=AV.fn C4 []);have k4:=A8 K 4 (by simp[hl]:_=AV.ptr 0 0);have k8:=A8 K 8 (by simp[hl]:_=AV.int .i64 R.length);clear K;have hh:=rJ hR t i g1 g2;by_cases A7:i<R.length
  .have hx:=I0 A7;have hC:=y7 _ R[i] t (A0c _) (hs _ (A0b A7)) ht;have e:decide (H7 R[i] t=0)=K4 R t:=by
    rw[A01,decide_eq_true_iff,hh];exact⟨λh=>⟨A7,h⟩,λ⟨_,h⟩=>h⟩
   simp[A6,k0,k2,k4,k8,k9,A7,hx,hC];exact hΨ _ ⟨i,by rw[e],hi,g1,g2⟩
  .have e:K4 R t=false:=by
    rw[Bool.eq_false_iff];intro h;obtain⟨h,-⟩:=hh.1 h;omega
   simp[A6,k8,k9,A7];exact hΨ _ ⟨i,by rw[e],hi,g1,g2⟩
@[simp] theorem scal2 (k:IntKind) (i:Int) (b:Bool):(AV.tup [.int k i,.bool b]).scalar=true:=rfl
theorem Ko (m:I6) (R:G7) (t:Tm) (hR:Y5 R) (B8:R.length<=1099511627776) (hs:∀x∈R,x.size<=1099511627776) (ht:t.size<=1099511627776) :
  pc Q O9 [sl m 4 (A4 R),B9 t]=some (.bool (K4 R t)):=by
 obtain⟨i,-,-,-,hB⟩:=wl m R t hR B8 hs ht;refine N3 IE λfr hl h0 h1=>?_;simp[IE]at hl h0 h1;simp[IE,hl,h0,h1,hB]
def Xc (R:List Tm) (i:Nat) (t:Tm):List Tm:=R.take i++t::R.drop i
theorem gQ (m:I6) (xs:G6) (dV:xs.length<=1048576) (h:AH):∃w h',rc Q K9 [sl m 4 xs] h=some (w,h')/\mI h.fams.length 4 xs w h'/\h'.boxes=h.boxes/\∃e,h'.fams=h.fams++e:=by
 have hr:xs.length*56<=H3/\xs.length<=maxLen:=by simp only[H3,maxLen];omega
 suffices hq:∃w h',rc Q K9 [sl m 4 xs] h=some (w,h')/\∀Ψ:AV->AH->Prop,(∀w h',mI h.fams.length 4 xs w h'/\h'.boxes=h.boxes/\(∃e,h'.fams=h.fams++e)->Ψ w h')->Ψ w h' by
  obtain⟨w,h',h1,h2⟩:=hq;exact⟨w,h',h1,h2 _ λ_ _ h=>h⟩
 refine gO Z8 λfr hl h0=>?_;simp[Z8]at hl h0;by_cases he:xs=[]
 .subst he;obtain⟨m1,m2⟩:=m;cases m2 with
  |false =>
   simp[Z8,hl,h0,To];exact λΨ hΨ=>hΨ _ _ (.inl ⟨rfl,false,GT 4⟩) rfl [] (by simp)
  |true =>
   simp[Z8,hl,h0,To,Gm,A5];exact λΨ hΨ=>hΨ _ _ (.inl ⟨rfl,true,rfl⟩) rfl [] (by simp)
 .have he':xs.isEmpty=false:=by simpa using he
  simp[Z8,hl,h0,To,he',Gm,A5,he,hr,show ZI K9=true from rfl];exact λΨ hΨ=>hΨ _ _ (.inr ⟨he,rfl,by simp⟩) rfl _ rfl
theorem eX (R:G7) (i:Nat) (t:Tm):A4 (Xc R i t)=(A4 R).take i++B9 t::(A4 R).drop i:=by
 rw[Xc,C9,C9,A0h,A0o,List.map_take,List.map_drop]
theorem rL {R:G7} (hR:Y5 R) (t:Tm) {i:Nat} (hi:i<=R.length) (h1:∀j (hj:j<R.length),j<i->H7 R[j] t<0) (h2:∀j (hj:j<R.length),i<=j->0<=H7 R[j] t) (hn:K4 R t=false) :
  Y5 (Xc R i t)/\∀e,e∈(Xc R i t).map E3↔e=E3 t\/e∈R.map E3:=by
 have Yz:∀x∈R,H7 x t≠0:=by
  intro x hx hc;have:K4 R t=true:=by
   simp only[K4,A0y,KU,decide_eq_true_eq];exact⟨x,hx,hc⟩
  rw[this]at hn;cases hn
 have ha:∀x∈R.take i,H7 x t<0:=by
  intro x hx;obtain⟨j,hj,rfl⟩:=A0m hx;rw[A0j]at hj;rw[List.getElem_take];exact h1 j (by omega) (by omega)
 have hb:∀x∈R.drop i,H7 t x<0:=by
  intro x hx;have hm:=A0u hx;obtain⟨j,hj,rfl⟩:=A0m hx;rw[A0q]at hj;rw[List.getElem_drop]at hm ⊢;have a:=h2 (i+j) (by omega) (by omega);have b:=Yz _ hm;exact Kc.1.2 (by omega)
 refine⟨?_,λe=>?_⟩
 .unfold Y5 Xc;rw[List.pairwise_append];refine⟨hR.sublist (List.take_sublist i R),List.pairwise_cons.2 ⟨hb,hR.sublist (List.drop_sublist i R)⟩,λx hx y hy=>?_⟩;rcases A0v.1 hy with rfl|hy
  .exact ha x hx
  .exact Gn (ha x hx) (hb y hy)
 .have:e∈R.map E3↔e∈(R.take i).map E3\/e∈(R.drop i).map E3:=by
   rw[←A0s,←A0h,A0k]
  rw[this,Xc,A0h,A0o,A0s,A0v];constructor
  .rintro(h|h|h)
   .exact .inr (.inl h)
   .exact .inl h
   .exact .inr (.inr h)
  .rintro(h|h|h)
   .exact .inr (.inl h)
   .exact .inl h
   .exact .inr (.inr h)
theorem eV (K b:Nat) (O:Orc) (args:G6) (h:AH):(mw K b).run O args h=QC K b args h:=rfl
theorem yb {k:Nat} {xs:G6} {w x:AV} {h:AH} (hg:mI k 4 xs w h) (hx:x.isAgg=true) (i:Nat) (hi:i<=xs.length) (hl:xs.length<=1048576) :
  ∃h' k',rc Q N6 [w,.int .i64 (i:Nat),sl (true,true) 4 [x]] h=some (.sl k' (xs.length+1) 0 (xs.length+1),h')/\h'.boxes=h.boxes/\∃b,h'.fams[k']?=some ⟨xs.take i++x::xs.drop i,4,b⟩:=by
 have e1:sl (true,true) 4 [x]=.vs true 4 [x]:=by simp[sl]
 rcases hg with ⟨rfl,b,rfl⟩|⟨P4,rfl,hk⟩
 .have hi0:i=0:=by simpa using hi
  subst hi0;refine⟨⟨h.boxes,h.fams++[⟨[x],4,true⟩]⟩,h.fams.length,OZ (s:=mw 4 56) rfl rfl ?_,rfl,true,by simp⟩;rw[e1];rw[eV];simp only[sl,QC];rw[if_pos ⟨trivial,hx⟩,if_pos (by decide)];rfl
 .have Bs:=H4 hk;refine⟨⟨h.boxes,h.fams.set k ⟨xs.take i++x::xs.drop i,4,true⟩⟩,k,OZ (s:=mw 4 56) rfl rfl ?_,rfl,true,by simp[Bs]⟩;rw[e1];rw[eV];simp only[QC,hk];rw[if_pos ⟨trivial,hx⟩,if_pos ⟨trivial,trivial,trivial,List.length_pos_iff.2 P4,trivial,trivial,by omega,by omega,by simp only[H3];omega,by simp only[maxLen];omega⟩];simp
theorem vw (m:I6) (R:G7) (t:Tm) (hR:Y5 R) (B8:R.length<=1048576) (hs:∀x∈R,x.size<=1099511627776) (ht:t.size<=1099511627776) (hn:K4 R t=false) :
  ∃(R':List Tm) (m':Bool×Bool),pc Q Aa [sl m 4 (A4 R),B9 t]=some (sl m' 4 (A4 R'))/\Y5 R'/\(∀e,e∈R'.map E3↔e=E3 t\/e∈R.map E3)/\(∀x∈R',x=t\/x∈R)/\R'.length=R.length+1:=by
 obtain⟨i,hi,g1,g2,hB⟩:=wl m R t hR (by omega) hs ht;obtain⟨s1,s2⟩:=rL hR t hi g1 g2 hn;rw[hn]at hB;have hlR:(A4 R).length=R.length:=by rw[C9,A0g]
 suffices h:∃v,pc Q Aa [sl m 4 (A4 R),B9 t]=some v/\∃q:Bool×Bool,v=sl q 4 (A4 (Xc R i t)) by
  obtain⟨v,h1,q,rfl⟩:=h;refine⟨Xc R i t,q,h1,s1,s2,λx hx=>?_,?_⟩
  .rw[Xc]at hx;rcases A0s.1 hx with h|h
   .exact .inr (List.mem_of_mem_take h)
   .rcases A0v.1 h with rfl|h
    .exact .inl rfl
    .exact .inr (A0u h)
  .rw[Xc,A0e,A0p,A0j,A0q];omega
 obtain⟨w,⟨B,F⟩,hC,hg,hb,hf⟩:=gQ m (A4 R) (by omega) ⟨[(B9 t).cells],[]⟩;simp only at hb;subst hb;obtain⟨⟨B',F'⟩,k',hI,hb',b,EC⟩:=yb (x:=B9 t) hg (by cases t;rfl) i (by omega) (by omega);simp only at hb';subst hb';rw[hlR]at hI;rw[←eX]at EC;have hz:Ev ⟨[(B9 t).cells],F'⟩ true (.sl k' (R.length+1) 0 (R.length+1))=some (sl (false,true) 4 (A4 (Xc R i t))):=Jb EC (by
  rw[eX,A0e,A0p,A0j,A0q,hlR];omega)
 obtain⟨c1,c2,c3⟩:=VF hg;simp only[I3]at hC hI hz;refine Sz HG λΨ hΨ fr hl h0 h1=>?_;simp[HG]at hl h0 h1;simp[HG,hl,h0,h1,hB,hC,hI,hz,A5];exact hΨ _ ⟨_,rfl⟩
end Go.Abs.Q
namespace Go.Abs.Q
open Go.Proofs
attribute [local simp] E6 E8 fin K1 H2 P7 M6 R4 R3
def uQ:List (ByteArray×Int×Int×Int):=[(bs [112,97,105,114],2,2,1),(bs [101,110,99],2,2,1),(bs [97,101,110,99],2,2,1),(bs [112,107],1,1,1),(bs [115,105,103,110],2,2,1),(bs [104,97,115,104],1,1,1),(bs [120,111,114],2,8,1),(bs [122,101,114,111],0,0,1),(bs [101,120,112],2,2,1),(bs [109,117,108],2,8,1),(bs [105,110,118],1,1,1),(bs [111,110,101],0,0,1),(bs [115,107],1,1,2),(bs [115,104,107],2,2,2),(bs [110,101,119],1,8,2),(bs [102,115,116],1,1,3),(bs [115,110,100],1,1,3),(bs [100,101,99],2,2,3),(bs [97,100,101,99],2,2,3),(bs [111,112,101,110],2,2,3),(bs [114,101,97,100],1,1,3)]
def IB (x:ByteArray×Int×Int×Int):AV:=.agg [.str x.1,.int .i64 x.2.1,.int .i64 x.2.2.1,.int .i64 x.2.2.2]
def zS:ByteArray×Int×Int×Int:=(bs [],0,0,0)
def NZ (nm:ByteArray):ByteArray×Int×Int×Int:=(uQ.find? λx=>decide (x.1=nm)).getD zS
theorem Dn (kd least most:Int) (nm:J1) (acc:G6) (v:AV) (F:List Fam) (hg:EB 4 acc v ⟨[[v]],F⟩) (hb:acc.length<=100) :
  ∃(v':AV) (F':List Fam),rc Q T8 [.int .i64 kd,.str nm,.int .i64 least,.int .i64 most,.ptr 0 0] ⟨[[v]],F⟩=some (C5,⟨[[v']],F'⟩)/\EB 4 (acc++[IB (nm,least,most,kd)]) v' ⟨[[v']],F'⟩:=by
 obtain⟨v',⟨B',F'⟩,ha,g',hb'⟩:=Al (c:=D6 T8) (bytes:=40) (x:=IB (nm,least,most,kd)) hg rfl (true,true) (by omega) (by omega);simp only at hb';subst hb'
 suffices hq:∃x h',rc Q T8 [.int .i64 kd,.str nm,.int .i64 least,.int .i64 most,.ptr 0 0] ⟨[[v]],F⟩=some (x,h')/\(x=C5/\h'=⟨[[v']],F'⟩) by
  obtain⟨x,h',h1,rfl,rfl⟩:=hq;exact⟨v',F',h1,Bn g' rfl⟩
 obtain⟨c1,c2,c3⟩:=L6 hg;obtain⟨c4,c5,c6⟩:=L6 g';simp only[IB]at ha;refine rcQ Rl (by simp[FV]) λfr hl ha=>?_;have h0:=ha 0;have h1:=ha 1;have h2:=ha 2;have h3:=ha 3;have h4:=ha 4;clear ha;simp[FV]at hl h0 h1 h2 h3 h4;simp[FV,hl,h0,h1,h2,h3,h4,c3,c4,c5,ha,A5,C8,D8]
theorem jj:∃m,pc Q Z5 []=some (sl m 4 (uQ.map IB)):=by
 suffices h:∃v,pc Q Z5 []=some v/\∃q:Bool×Bool,v=sl q 4 (uQ.map IB) by
  obtain⟨v,h1,q,rfl⟩:=h;exact⟨q,h1⟩
 have g0:EB 4 [] (.vs true 0 []) ⟨[[.vs true 0 []]],[]⟩:=DB _ _;obtain⟨v1,F1,c1,g1⟩:=Dn 1 2 2 (bs [112,97,105,114]) _ _ _ g0 (by simp);obtain⟨v2,F2,c2,g2⟩:=Dn 1 2 2 (bs [101,110,99]) _ _ _ g1 (by simp);obtain⟨v3,F3,c3,g3⟩:=Dn 1 2 2 (bs [97,101,110,99]) _ _ _ g2 (by simp);obtain⟨v4,F4,c4,g4⟩:=Dn 1 1 1 (bs [112,107]) _ _ _ g3 (by simp);obtain⟨v5,F5,c5,g5⟩:=Dn 1 2 2 (bs [115,105,103,110]) _ _ _ g4 (by simp);obtain⟨v6,F6,c6,g6⟩:=Dn 1 1 1 (bs [104,97,115,104]) _ _ _ g5 (by simp);obtain⟨v7,F7,c7,g7⟩:=Dn 1 2 8 (bs [120,111,114]) _ _ _ g6 (by simp);obtain⟨v8,F8,c8,g8⟩:=Dn 1 0 0 (bs [122,101,114,111]) _ _ _ g7 (by simp);obtain⟨v9,F9,c9,g9⟩:=Dn 1 2 2 (bs [101,120,112]) _ _ _ g8 (by simp);obtain⟨v10,F10,c10,g10⟩:=Dn 1 2 8 (bs [109,117,108]) _ _ _ g9 (by simp);obtain⟨v11,F11,c11,g11⟩:=Dn 1 1 1 (bs [105,110,118]) _ _ _ g10 (by simp);obtain⟨v12,F12,c12,g12⟩:=Dn 1 0 0 (bs [111,110,101]) _ _ _ g11 (by simp);obtain⟨v13,F13,c13,g13⟩:=Dn 2 1 1 (bs [115,107]) _ _ _ g12 (by simp);obtain⟨v14,F14,c14,g14⟩:=Dn 2 2 2 (bs [115,104,107]) _ _ _ g13 (by simp);obtain⟨v15,F15,c15,g15⟩:=Dn 2 1 8 (bs [110,101,119]) _ _ _ g14 (by simp);obtain⟨v16,F16,c16,g16⟩:=Dn 3 1 1 (bs [102,115,116]) _ _ _ g15 (by simp);obtain⟨v17,F17,c17,g17⟩:=Dn 3 1 1 (bs [115,110,100]) _ _ _ g16 (by simp);obtain⟨v18,F18,c18,g18⟩:=Dn 3 2 2 (bs [100,101,99]) _ _ _ g17 (by simp);obtain⟨v19,F19,c19,g19⟩:=Dn 3 2 2 (bs [97,100,101,99]) _ _ _ g18 (by simp);obtain⟨v20,F20,c20,g20⟩:=Dn 3 2 2 (bs [111,112,101,110]) _ _ _ g19 (by simp);obtain⟨v21,F21,c21,g21⟩:=Dn 3 1 1 (bs [114,101,97,100]) _ _ _ g20 (by simp);have hg:EB 4 (uQ.map IB) v21 ⟨[[v21]],F21⟩:=g21;clear g0 g1 g2 g3 g4 g5 g6 g7 g8 g9 g10 g11 g12 g13 g14 g15 g16 g17 g18 g19 g20 g21;obtain⟨m,hz⟩:=Ka hg;obtain⟨d1,d2,d3⟩:=L6 hg;refine QN (C:=Q) ((VE _).trans rfl) ((RA _).trans Tp) (by simp[Ht]) λΨ hΨ fr hl ha=>?_;rw[ZW];clear ha;simp[Ht]at hl ;simp[Ht,hl,hz,d3,c1,c2,c3,c4,c5,c6,c7,c8,c9,c10,c11,c12,c13,c14,c15,c16,c17,c18,c19,c20,c21];exact hΨ _ ⟨m,rfl⟩
abbrev Sy:=ByteArray×Int×Int×Int
@[simp] theorem yl (x:Sy):(IB x).cells=[.str x.1,.int .i64 x.2.1,.int .i64 x.2.2.1,.int .i64 x.2.2.2]:=rfl
@[simp] theorem ym (x:Sy):(IB x).isTup=false:=rfl
theorem fL (m:I6) (l:List Sy) (nm:J1) (B8:l.length<=1048576) (fr:Fr) (h:AH) (hh:h.boxes=[(IB zS).cells]) (hl:fr.length=18) (h0:A0 fr 0=.str nm) (h2:A0 fr 2=.ptr 0 0) (h5:A0 fr 5=sl m 4 (l.map IB)) (h6:A0 fr 6=.int .i64 l.length) (h7:A0 fr 7=.int .i64 0) :
  B6 (lp (A2 (K8 Q) (D6 Fi) Au) (fr,h)) λe C3 h'=>Kp Au.wr fr C3/\(e=.exit 0/\(∃B,h'.boxes=(IB zS).cells::B)/\l.find? (λx=>decide (x.1=nm))=none\/e=.ret/\∃x B,h'.boxes=(IB x).cells::B/\l.find? (λx=>decide (x.1=nm))=some x):=by
 refine A9 rfl fr (λn fr h'=>∃(i:Nat),i+n=l.length/\A0 fr 7=.int .i64 (i:Nat)/\((∃B,h'.boxes=(IB zS).cells::B)/\(l.drop i).find? (λx=>decide (x.1=nm))=l.find? λx=>decide (x.1=nm))) ?_ l.length h ⟨0,by omega,h7,⟨[],hh⟩,rfl⟩;rintro J Φ hJ hΦ n D4 H1 K ⟨i,hi,k7,hr⟩;have A6:=K.1.trans hl;have k0:=A8 K 0 h0;have k2:=A8 K 2 h2;have k5:=A8 K 5 h5;have k6:=A8 K 6 h6;clear K;by_cases A7:i<l.length
 .have L3:=C6 i (by omega);obtain⟨⟨B,hB⟩,hr⟩:=hr;obtain⟨bx,F⟩:=H1;simp only at hB;subst hB;have hx:=G1 (f:=IB) (A0i A7);rw[A0Z A7,A0r]at hr;clear hh;generalize l[i]=s at *
  obtain⟨s1,s2,s3,s4⟩:=s;by_cases hc:s1=nm
  .subst hc;simp only[decide_true]at hr;simp only[IB]at hx;simp[Au,A6,k0,k2,k5,k6,k7,A7,hx,IB,zS];exact hΦ _ _ _ (.inr ⟨rfl,(s1,s2,s3,s4),_,rfl,hr.symm⟩)
  .simp only[hc,decide_false]at hr;simp only[IB]at hx;simp[Au,A6,k0,k5,k6,k7,A7,L3,hx,IB,zS,hc];exact G0 hJ ⟨i+1,by omega,by simp[A6],⟨_,rfl⟩,hr⟩
 .obtain⟨⟨B,hB⟩,hr⟩:=hr;rw[A0a (by omega)]at hr;simp[Au,A6,k6,k7,A7];exact hΦ _ _ _ (.inl ⟨rfl,⟨B,hB⟩,hr.symm⟩)
theorem aZ (nm:J1):pc Q Fi [.str nm]=some (IB (NZ nm)):=by
 obtain⟨m,hS⟩:=jj;refine H6 MS λfr hl h0=>?_;simp[MS]at hl h0;simp[MS,hl,hS];refine B6.mono (fL m uQ nm (by decide) _ _ ?_ ?_ ?_ ?_ ?_ ?_ ?_) ?_<;>first|(simp[hl,h0,IB,zS];done)|skip
 rintro e D4 ⟨bx,F⟩ ⟨K,⟨rfl,⟨B,hB⟩,hf⟩|⟨rfl,x,B,hB,hf⟩⟩
 .simp only at hB;subst hB;have J3:D4.length=18:=K.1.trans (by simp[hl]);have GX:A0 D4 2=.ptr 0 0:=A8 K 2 (by simp[hl]);clear K;simp[J3,GX,IB,zS,C8,D8];simp[NZ,hf,zS]
 .simp only at hB;subst hB;have J3:D4.length=18:=K.1.trans (by simp[hl]);have GX:A0 D4 2=.ptr 0 0:=A8 K 2 (by simp[hl]);clear K;simp[GX,IB];simp[NZ,hf]
def EE (nm:ByteArray):Int:=(NZ nm).2.2.2
def Ly (nm:ByteArray) (n:Int):Bool:=decide ((NZ nm).2.1<=n)&&decide (n<=(NZ nm).2.2.1)
def EO (t:Tm):Bool:=decide (t.kind=3)||decide (t.sort≠1)
def Yv (nm:ByteArray) (l:List Tm):Int :=
 if nm=bs [115,107]\/nm=bs [115,104,107]then (if l.any EO=true then 10 else 0)
 else if nm=bs [110,101,119]then (match l with | []=>0|a::_=>if a.kind=2 then 0 else 10)else 0
mutual
def Us:Tm->Int
 | .mk k nm _ _ l=>if k≠3 then 0 else if EE nm=0 then 10 else if Ly nm l.length=false then 6 else if Yv nm l≠0 then Yv nm l else Na l
def Na:List Tm->Int
 | []=>0
 |t::l=>if Us t≠0 then Us t else Na l
end
theorem Vi (t:Tm) (l:G7):Na (t::l)=if Us t≠0 then Us t else Na l:=rfl
theorem vV (m:I6) (l:G7) (B8:l.length<=1099511627776) (fr:Fr) (h:AH) (hl:fr.length=74) (h38:A0 fr 38=sl m 4 (A4 l)) (h39:A0 fr 39=.int .i64 l.length) (h40:A0 fr 40=.int .i64 0) :
  B6 (lp (A2 (K8 Q) (D6 Ac) AK) (fr,h)) λe C3 h'=>Kp AK.wr fr C3/\(e=.exit 1/\(∃B,h'.boxes=h.boxes++B)/\l.any EO=false\/e=.ret/\A0 C3 2=.int .i64 10/\l.any EO=true):=by
 refine A9 rfl fr (λn fr h'=>∃(i:Nat),i+n=l.length/\A0 fr 40=.int .i64 (i:Nat)/\((∃B,h'.boxes=h.boxes++B)/\(l.drop i).any EO=l.any EO)) ?_ l.length h ⟨0,by omega,h40,⟨[],by simp⟩,rfl⟩;rintro J Φ hJ hΦ n D4 H1 K ⟨i,hi,k40,hr⟩;have A6:=K.1.trans hl;have k38:=A8 K 38 h38;have k39:=A8 K 39 h39;clear K;by_cases A7:i<l.length
 .have L3:=C6 i (by omega);obtain⟨⟨B,hB⟩,hr⟩:=hr;obtain⟨bx,F⟩:=H1;simp only at hB;have hx:=I0 A7;rw[A0Z A7,A06]at hr;generalize l[i]=s at *
  by_cases hc:EO s=true
  .rw[hc,A07]at hr;by_cases hk:s.kind=3
   .simp[AK,A6,k38,k39,k40,A7,hx,hk];exact hΦ _ _ _ (.inr ⟨rfl,by simp[A6],hr.symm⟩)
   .have hs:s.sort≠1:=by simpa[EO,hk]using hc
    simp[AK,A6,k38,k39,k40,A7,hx,hk,hs];exact hΦ _ _ _ (.inr ⟨rfl,by simp[A6],hr.symm⟩)
  .simp only[EO,A02,decide_eq_true_eq,not_or,ne_eq,Decidable.not_not]at hc;have hn:EO s=false:=by simp[EO,hc]
   rw[hn,A05]at hr;have hk:=hc.1;have hs:=hc.2;clear hc hn;simp[AK,A6,k38,k39,k40,A7,L3,hx,hk,hs];exact G0 hJ ⟨i+1,by omega,by simp[A6],⟨B++[[.int .i64 s.kind,.str s.name,.int .i64 1,sl s.cm 4 (A4 s.kids)]],by simp[hB]⟩,hr⟩
 .obtain⟨⟨B,hB⟩,hr⟩:=hr;rw[A0a (by omega)]at hr;simp[AK,A6,k39,k40,A7];exact hΦ _ _ _ (.inl ⟨rfl,⟨B,hB⟩,hr.symm⟩)
theorem fC (m:I6) (l:G7) (B8:l.length<=1099511627776) (IH:∀t∈l,pc Q Ac [B9 t]=some (.int .i64 (Us t))) (fr:Fr) (h:AH) (hl:fr.length=74) (h62:A0 fr 62=sl m 4 (A4 l)) (h63:A0 fr 63=.int .i64 l.length) (h64:A0 fr 64=.int .i64 0) :
  B6 (lp (A2 (K8 Q) (D6 Ac) Bk) (fr,h)) λe C3 h'=>Kp Bk.wr fr C3/\(e=.exit 3/\Na l=0\/e=.ret/\A0 C3 2=.int .i64 (Na l)):=by
 refine A9 rfl fr (λn fr h'=>∃(i:Nat),i+n=l.length/\A0 fr 64=.int .i64 (i:Nat)/\(Na (l.drop i)=Na l)) ?_ l.length h ⟨0,by omega,h64,rfl⟩;rintro J Φ hJ hΦ n D4 H1 K ⟨i,hi,k64,hr⟩;have A6:=K.1.trans hl;have k62:=A8 K 62 h62;have k63:=A8 K 63 h63;clear K;by_cases A7:i<l.length
 .have L3:=C6 i (by omega);have hx:=I0 A7;have hI:=IH l[i] (A0b A7);rw[A0Z A7,Vi]at hr;obtain⟨bx,F⟩:=H1;generalize l[i]=s at *
  by_cases hc:Us s=0
  .rw[if_neg (by simp[hc])]at hr;rw[hc]at hI;simp[Bk,A6,k62,k63,k64,A7,L3,hx,hI];exact G0 hJ ⟨i+1,by omega,by simp[A6],hr⟩
  .rw[if_pos hc]at hr;simp[Bk,A6,k62,k63,k64,A7,hx,hI,hc];exact hΦ _ _ _ (.inr ⟨rfl,by simp[A6,hr]⟩)
 .rw[A0a (by omega)]at hr;simp[Bk,A6,k63,k64,A7];exact hΦ _ _ _ (.inl ⟨rfl,hr.symm⟩)
theorem fR {n:Nat} (h:Ly (bs [110,101,119]) n=true):1<=n:=by
 have e:(NZ (bs [110,101,119])).2.1=1:=by decide
 simp only[Ly,e,A0x,decide_eq_true_eq]at h;omega
theorem uB (t:Tm) (h:t.kind≠3):Us t=0:=by
 obtain⟨k,nm,s,m,l⟩:=t;have h:k≠3:=h;rw[Us,if_pos h]
theorem lz {k:Int} {nm:J1} {s:Int} {m:I6} {l:G7} (h:k=3):Us (.mk k nm s m l)=if EE nm=0 then 10 else if Ly nm l.length=false then 6 else if Yv nm l≠0 then Yv nm l else Na l:=by
 rw[Us,if_neg (by simp[h])]
theorem oq:∀(n:Nat) (t:Tm),t.size<=n->t.size<=1099511627776->pc Q Ac [B9 t]=some (.int .i64 (Us t)):=by
 intro n
 induction n with
 |zero=>intro t h;have:=t.size_pos;omega
 |succ n ih =>
  intro t hn hb;obtain⟨k,nm,s,m,kids⟩:=t;have J4:Tm.size (.mk k nm s m kids)=1+Tm.sizes kids:=rfl;have B8:=Tm.length_le kids;have hS:=aZ nm;have hlp0:=fC m kids (by omega) (λt ht=>ih t (by have:=Tm.size_le ht;omega) (by have:=Tm.size_le ht;omega));have hlp1:=vV m kids (by omega);clear ih;by_cases hk:k=3
  .subst hk;rw[lz rfl];by_cases hkd:EE nm=0
   .rw[if_pos hkd];simp only[EE]at hkd;generalize NZ nm=q at *
    obtain⟨q1,q2,q3,q4⟩:=q;simp only[IB]at hS hkd;refine H6 H0 λfr hl h0=>?_;simp[H0,B9]at hl h0;simp[H0,hl,h0,hS,hkd]
   .rw[if_neg hkd];by_cases hf:Ly nm kids.length=false
    .rw[if_pos hf];simp only[EE]at hkd;simp only[Ly]at hf;generalize NZ nm=q at *
     obtain⟨q1,q2,q3,q4⟩:=q;simp only[IB]at hS hkd hf;refine H6 H0 λfr hl h0=>?_;simp[H0,B9]at hl h0;by_cases h2:(kids.length:Int)<q2
     .simp[H0,hl,h0,hS,hkd,h2]
     .have h3:q3<(kids.length:Int):=by
       rw[Bool.and_eq_false_iff]at hf;rcases hf with hf|hf
       .simp only[decide_eq_false_iff_not]at hf;omega
       .simp only[decide_eq_false_iff_not]at hf;omega
      simp[H0,hl,h0,hS,hkd,h2,h3]
    .have hf':Ly nm kids.length=true:=by simpa using hf
     rw[if_neg hf];have hnf:=@fR kids.length;have Dy:¬((kids.length:Int)<(NZ nm).2.1)/\¬((NZ nm).2.2.1<(kids.length:Int)):=by
      simp only[Ly,A0x,decide_eq_true_eq]at hf';omega
     obtain⟨hf1,hf2⟩:=Dy;have DG:nm=bs [110,101,119]->1<=kids.length:=λe=>hnf (by rw[←e];exact hf');clear hf hf' hnf;simp only[EE]at hkd;generalize NZ nm=q at *
     obtain⟨q1,q2,q3,q4⟩:=q;simp only[IB]at hS hkd hf1 hf2;by_cases hsk:nm=bs [115,107]\/nm=bs [115,104,107]
     .have hag:Yv nm kids=if kids.any EO=true then 10 else 0:=by unfold Yv;rw[if_pos hsk]
      rw[hag];clear DG hag;generalize kids.any EO=b at hlp1 ⊢;have hmain:∀(nm':ByteArray),nm'=nm->(nm'=bs [115,107]\/nm'≠bs [115,107]/\nm'=bs [115,104,107])->pc Q Ac [B9 (.mk 3 nm s m kids)]=some (.int .i64 (if (if b=true then (10:Int)else 0)≠0 then if b=true then 10 else 0 else Na kids)):=by
       intro nm' e hn2;subst e;refine H6 H0 λfr hl h0=>?_;simp[H0,B9]at hl h0;rcases hn2 with hn2|⟨hn1,hn2⟩
       .subst hn2;simp[H0,hl,h0,hS,hkd,hf1,hf2];refine B6.mono (hlp1 _ _ ?_ ?_ ?_ ?_) ?_<;>first|(simp[hl];done)|skip
        rintro e Q6 ⟨bx,F⟩ ⟨K,⟨rfl,⟨B,hB⟩,ha⟩|⟨rfl,k2,ha⟩⟩
        .simp only at hB;subst hB;have Bb:Q6.length=74:=K.1.trans (by simp[hl]);have k1:A0 Q6 1=.ptr 0 0:=A8 K 1 (by simp[hl]);clear K;simp[Bb,k1,ha];refine B6.mono (hlp0 _ _ ?_ ?_ ?_ ?_) ?_<;>first|(simp[Bb];done)|skip
         rintro e fr3 h3 ⟨K,⟨rfl,he⟩|⟨rfl,h2⟩⟩
         .have hl3:fr3.length=74:=K.1.trans (by simp[Bb]);simp[hl3,he]
         .simp[h2]
        .simp[k2,ha]
       .subst hn2;simp[H0,hl,h0,hS,hkd,hf1,hf2,hn1];refine B6.mono (hlp1 _ _ ?_ ?_ ?_ ?_) ?_<;>first|(simp[hl];done)|skip
        rintro e Q6 ⟨bx,F⟩ ⟨K,⟨rfl,⟨B,hB⟩,ha⟩|⟨rfl,k2,ha⟩⟩
        .simp only at hB;subst hB;have Bb:Q6.length=74:=K.1.trans (by simp[hl]);have k1:A0 Q6 1=.ptr 0 0:=A8 K 1 (by simp[hl]);clear K;simp[Bb,k1,ha];refine B6.mono (hlp0 _ _ ?_ ?_ ?_ ?_) ?_<;>first|(simp[Bb];done)|skip
         rintro e fr3 h3 ⟨K,⟨rfl,he⟩|⟨rfl,h2⟩⟩
         .have hl3:fr3.length=74:=K.1.trans (by simp[Bb]);simp[hl3,he]
         .simp[h2]
        .simp[k2,ha]
      refine hmain nm rfl ?_;by_cases h1:nm=bs [115,107]
      .exact .inl h1
      .exact .inr ⟨h1,hsk.resolve_left h1⟩
     .have hsk1:nm≠bs [115,107]:=λe=>hsk (.inl e);have hsk2:nm≠bs [115,104,107]:=λe=>hsk (.inr e);by_cases hn1:nm=bs [110,101,119]
      .have Bs:=DG hn1;subst hn1;cases kids with
       |nil=>simp at Bs
       |cons a kids =>
        have hag:Yv (bs [110,101,119]) (a::kids)=if a.kind=2 then 0 else 10:=by unfold Yv;rw[if_neg hsk,if_pos rfl]
        rw[hag];have hx:IZ (A4 (a::kids)) 0=some (B9 a):=I0 (l:=a::kids) (i:=0) (by simp);generalize a::kids=kids' at *
        by_cases ha:a.kind=2
        .refine H6 H0 λfr hl h0=>?_;simp[H0,B9]at hl h0;simp[H0,hl,h0,hS,hkd,hf1,hf2,hsk1,hsk2,hx,ha];refine B6.mono (hlp0 _ _ ?_ ?_ ?_ ?_) ?_<;>first|(simp[hl];done)|skip
         rintro e fr3 h3 ⟨K,⟨rfl,he⟩|⟨rfl,h2⟩⟩
         .have hl3:fr3.length=74:=K.1.trans (by simp[hl]);simp[hl3,he]
         .simp[h2]
        .refine H6 H0 λfr hl h0=>?_;simp[H0,B9]at hl h0;simp[H0,hl,h0,hS,hkd,hf1,hf2,hsk1,hsk2,hx,ha]
      .have hag:Yv nm kids=0:=by unfold Yv;rw[if_neg hsk,if_neg hn1]
       rw[hag];refine H6 H0 λfr hl h0=>?_;simp[H0,B9]at hl h0;simp[H0,hl,h0,hS,hkd,hf1,hf2,hsk1,hsk2,hn1];refine B6.mono (hlp0 _ _ ?_ ?_ ?_ ?_) ?_<;>first|(simp[hl];done)|skip
       rintro e fr3 h3 ⟨K,⟨rfl,he⟩|⟨rfl,h2⟩⟩
       .have hl3:fr3.length=74:=K.1.trans (by simp[hl]);simp[hl3,he]
       .simp[h2]
  .rw[uB (.mk k nm s m kids) hk];refine H6 H0 λfr hl h0=>?_;simp[H0,B9]at hl h0;simp[H0,hl,h0,hk]
def vE (t:Tm):Int:=if R9 t≠0 then R9 t else Us t
theorem NR (t:Tm) (hb:t.size<=1099511627776):pc Q Gy [B9 t]=some (.int .i64 (vE t)):=by
 have h1:=Hi t hb;have h2:=oq _ t (A0c _) hb;unfold vE;by_cases hv:R9 t=0
 .rw[if_neg (by simp[hv])];rw[hv]at h1;refine H6 Ep λfr hl h0=>?_;simp[Ep]at hl h0;simp[Ep,hl,h0,h1,h2]
 .rw[if_pos hv];refine H6 Ep λfr hl h0=>?_;simp[Ep]at hl h0;simp[Ep,hl,h0,h1,hv]
theorem TM:pc Q Ff []=some (sl (true,true) 4 (uQ.map IB)):=by
 refine je Ul rfl (by simp[Iv]) λfr hl ha=>?_;clear ha;simp[Iv]at hl ;simp[Iv,hl,C8,D8,A5];rfl
theorem nG (m:I6) (l:List Sy) (nm:J1) (B8:l.length<=1048576) (fr:Fr) (h:AH) (hl:fr.length=24) (h0:A0 fr 0=.str nm) (h3:A0 fr 3=sl m 4 (l.map IB)) (h4:A0 fr 4=.int .i64 0) :
  B6 (lp (A2 (K8 Q) (D6 Ha) EV) (fr,h)) λe C3 h'=>Kp EV.wr fr C3/\(e=.exit 0/\l.find? (λx=>decide (x.1=nm))=none\/e=.ret/\∃x:Sy,A0 C3 2=.int .i64 x.2.2.2/\l.find? (λx=>decide (x.1=nm))=some x):=by
 refine A9 rfl fr (λn fr h'=>∃(i:Nat),i+n=l.length/\A0 fr 4=.int .i64 (i:Nat)/\(l.drop i).find? (λx=>decide (x.1=nm))=l.find? λx=>decide (x.1=nm)) ?_ l.length h ⟨0,by omega,h4,rfl⟩;rintro J Φ hJ hΦ n D4 H1 K ⟨i,hi,k4,hr⟩;have A6:=K.1.trans hl;have k0:=A8 K 0 h0;have k3:=A8 K 3 h3;clear K;by_cases A7:i<l.length
 .have L3:=C6 i (by omega);have hx:=G1 (f:=IB) (A0i A7);rw[A0Z A7,A0r]at hr;generalize l[i]=s at *
  obtain⟨s1,s2,s3,s4⟩:=s;simp only[IB]at hx;by_cases hc:s1=nm
  .subst hc;simp only[decide_true]at hr;simp[EV,A6,k0,k3,k4,A7,hx];exact hΦ _ _ _ (.inr ⟨rfl,(s1,s2,s3,s4),by simp[A6],hr.symm⟩)
  .simp only[hc,decide_false]at hr;simp[EV,A6,k0,k3,k4,A7,L3,hx,hc];exact G0 hJ ⟨i+1,by omega,by simp[A6],hr⟩
 .rw[A0a (by omega)]at hr;simp[EV,A6,k3,k4,A7];exact hΦ _ _ _ (.inl ⟨rfl,hr.symm⟩)
theorem cY (nm:J1):pc Q Ha [.str nm]=some (.int .i64 (EE nm)):=by
 have hS:=TM;refine H6 Qd λfr hl h0=>?_;simp[Qd]at hl h0;simp[Qd,hl,hS];refine B6.mono (nG (true,true) uQ nm (by decide) _ _ ?_ ?_ ?_ ?_) ?_<;>first|(simp[hl,h0];done)|skip
 rintro e D4 h1 ⟨K,⟨rfl,hf⟩|⟨rfl,x,k2,hf⟩⟩
 .have A6:D4.length=24:=K.1.trans (by simp[hl]);simp[A6,EE,NZ,hf,zS]
 .simp[k2,EE,NZ,hf]
theorem nT (m m':I6) (l:List Sy) (nm:J1) (x0 x2:AV) (kids:G7) (B8:l.length<=1048576) (fr:Fr) (h:AH) (hh:h=⟨[[x0,.str nm,x2,sl m' 4 (A4 kids)]],[]⟩) (hl:fr.length=40) (h1:A0 fr 1=.ptr 0 0) (h3:A0 fr 3=sl m 4 (l.map IB)) (h4:A0 fr 4=.int .i64 0) :
  B6 (lp (A2 (K8 Q) (D6 Mb) CG) (fr,h)) λe C3 h'=>Kp CG.wr fr C3/\(e=.exit 0/\l.find? (λx=>decide (x.1=nm))=none\/e=.ret/\∃x:Sy,A0 C3 2=.bool (decide (x.2.1<=(kids.length:Int))&&decide ((kids.length:Int)<=x.2.2.1))/\l.find? (λx=>decide (x.1=nm))=some x):=by
 refine A9 rfl fr (λn fr h'=>∃(i:Nat),i+n=l.length/\A0 fr 4=.int .i64 (i:Nat)/\(h'=⟨[[x0,.str nm,x2,sl m' 4 (A4 kids)]],[]⟩/\(l.drop i).find? (λx=>decide (x.1=nm))=l.find? λx=>decide (x.1=nm))) ?_ l.length h ⟨0,by omega,h4,hh,rfl⟩;rintro J Φ hJ hΦ n D4 H1 K ⟨i,hi,k4,hr⟩;have A6:=K.1.trans hl;have k1:=A8 K 1 h1;have k3:=A8 K 3 h3;clear K;by_cases A7:i<l.length
 .have L3:=C6 i (by omega);obtain⟨rfl,hr⟩:=hr;have hx:=G1 (f:=IB) (A0i A7);rw[A0Z A7,A0r]at hr;clear hh;generalize l[i]=s at *
  obtain⟨s1,s2,s3,s4⟩:=s;simp only[IB]at hx;by_cases hc:s1=nm
  .subst hc;simp only[decide_true]at hr;by_cases hd:s2<=(kids.length:Int)
   .simp[CG,A6,k1,k3,k4,A7,hx,hd];exact hΦ _ _ _ (.inr ⟨rfl,(s1,s2,s3,s4),by simp[A6,hd],hr.symm⟩)
   .simp[CG,A6,k1,k3,k4,A7,hx,hd];exact hΦ _ _ _ (.inr ⟨rfl,(s1,s2,s3,s4),by simp[A6,hd],hr.symm⟩)
  .simp only[hc,decide_false]at hr;simp[CG,A6,k1,k3,k4,A7,L3,hx,hc];exact G0 hJ ⟨i+1,by omega,by simp[A6],rfl,hr⟩
 .obtain⟨rfl,hr⟩:=hr;rw[A0a (by omega)]at hr;simp[CG,A6,k3,k4,A7];exact hΦ _ _ _ (.inl ⟨rfl,hr.symm⟩)
theorem vp (t:Tm) (hk:EE t.name≠0):pc Q Mb [B9 t]=some (.bool (Ly t.name t.kids.length)):=by
 have hS:=TM;refine H6 Qe λfr hl h0=>?_;simp[Qe]at hl h0;simp[Qe,hl,h0,hS];refine B6.mono (nT (true,true) t.cm uQ t.name (.int .i64 t.kind) (.int .i64 t.sort) t.kids (by decide) _ _ ?_ ?_ ?_ ?_ ?_) ?_<;>first|(simp[hl];done)|skip
 rintro e D4 h1 ⟨K,⟨rfl,hf⟩|⟨rfl,x,k2,hf⟩⟩
 .exact absurd (by simp[EE,NZ,hf,zS]) hk
 .simp[k2,Ly,NZ,hf]
theorem fB (m:I6) (l:G7) (x0 x1 x2:AV) (B8:l.length<=1099511627776) (fr:Fr) (h:AH) (hh:h=⟨[[x0,x1,x2,sl m 4 (A4 l)]],[]⟩) (hl:fr.length=36) (h1:A0 fr 1=.ptr 0 0) (h3:A0 fr 3=.int .i64 0) :
  B6 (lp (A2 (K8 Q) (D6 Jj) AA) (fr,h)) λe C3 h'=>Kp AA.wr fr C3/\(e=.exit 0/\l.any EO=false\/e=.ret/\A0 C3 2=.bool false/\l.any EO=true):=by
 refine A9 rfl fr (λn fr h'=>∃(i:Nat),i+n=l.length/\A0 fr 3=.int .i64 (i:Nat)/\(h'=⟨[[x0,x1,x2,sl m 4 (A4 l)]],[]⟩/\(l.drop i).any EO=l.any EO)) ?_ l.length h ⟨0,by omega,h3,hh,rfl⟩;rintro J Φ hJ hΦ n D4 H1 K ⟨i,hi,k3,hr⟩;have A6:=K.1.trans hl;have k1:=A8 K 1 h1;clear K;by_cases A7:i<l.length
 .have L3:=C6 i (by omega);obtain⟨rfl,hr⟩:=hr;have hx:=I0 A7;rw[A0Z A7,A06]at hr;clear hh;generalize l[i]=s at *
  by_cases hc:EO s=true
  .rw[hc,A07]at hr;by_cases hk:s.kind=3
   .simp[AA,A6,k1,k3,A7,hx,hk];exact hΦ _ _ _ (.inr ⟨rfl,by simp[A6],hr.symm⟩)
   .have hs:s.sort≠1:=by simpa[EO,hk]using hc
    simp[AA,A6,k1,k3,A7,hx,hk,hs];exact hΦ _ _ _ (.inr ⟨rfl,by simp[A6],hr.symm⟩)
  .simp only[EO,A02,decide_eq_true_eq,not_or,ne_eq,Decidable.not_not]at hc;have hn:EO s=false:=by simp[EO,hc]
   rw[hn,A05]at hr;have hk:=hc.1;have hs:=hc.2;clear hc hn;simp[AA,A6,k1,k3,A7,L3,hx,hk,hs];exact G0 hJ ⟨i+1,by omega,by simp[A6],rfl,hr⟩
 .obtain⟨rfl,hr⟩:=hr;rw[A0a (by omega)]at hr;simp[AA,A6,k1,k3,A7];exact hΦ _ _ _ (.inl ⟨rfl,hr.symm⟩)
def ub (nm:ByteArray) (l:List Tm):Bool:=if nm=bs [110,101,119]then (match l with | []=>true|a::_=>decide (a.kind=2))else !(l.any EO)
theorem om (t:Tm) (hb:t.size<=1099511627776) (hn:t.name=bs [110,101,119]->1<=t.kids.length):pc Q Jj [B9 t]=some (.bool (ub t.name t.kids)):=by
 have J4:=t.kids_size;have B8:=Tm.length_le t.kids;by_cases DG:t.name=bs [110,101,119]
 .have hk:=hn DG;have hx:IZ (A4 t.kids) 0=some (B9 t.kids[0]):=I0 (l:=t.kids) (i:=0) (by omega);have e:ub t.name t.kids=decide (t.kids[0].kind=2):=by
   unfold ub;rw[if_pos DG];clear hx J4 B8 hb hn;obtain⟨k,nm,s,m,l⟩:=t;cases l with
   |nil=>simp[Tm.kids]at hk
   |cons a l=>rfl
  rw[e];refine H6 EW λfr hl h0=>?_;simp[EW]at hl h0;simp[EW,hl,h0,DG,hx]
 .have e:ub t.name t.kids=!(t.kids.any EO):=by unfold ub;rw[if_neg DG]
  rw[e];have Gl:=fB t.cm t.kids (.int .i64 t.kind) (.str t.name) (.int .i64 t.sort) (by omega);generalize t.kids.any EO=b at Gl ⊢;refine H6 EW λfr hl h0=>?_;simp[EW]at hl h0;simp[EW,hl,h0,DG];refine B6.mono (Gl _ _ ?_ ?_ ?_ ?_) ?_<;>first|(simp[hl];done)|skip
  rintro e D4 h1 ⟨K,⟨rfl,ha⟩|⟨rfl,k2,ha⟩⟩
  .have A6:D4.length=36:=K.1.trans (by simp[hl]);simp[A6,ha]
  .simp[k2,ha]
theorem Xf (nm:J1):EE nm=2↔nm=bs [115,107]\/nm=bs [115,104,107]\/nm=bs [110,101,119]:=by
 constructor
 .intro h;have hm:∀x∈uQ,x.2.2.2=2->x.1=bs [115,107]\/x.1=bs [115,104,107]\/x.1=bs [110,101,119]:=by decide
  unfold EE NZ at h;cases hf:uQ.find? (λx=>decide (x.1=nm))with
  |none=>rw[hf]at h;exact absurd h (by decide)
  |some x =>
   rw[hf]at h;have h1:=List.find?_some hf;simp only[decide_eq_true_eq]at h1;rw[←h1];exact hm x (List.mem_of_find?_eq_some hf) h
 .rintro(rfl|rfl|rfl)<;>decide
theorem xO (nm:J1) (l:G7):Yv nm l=if EE nm=2/\ub nm l=false then 10 else 0:=by
 have hd1:(bs [115,107])≠bs [110,101,119]:=by decide
 have hd2:(bs [115,104,107])≠bs [110,101,119]:=by decide
 unfold Yv ub;by_cases h1:nm=bs [115,107]\/nm=bs [115,104,107]
 .have hk:EE nm=2:=(Xf nm).2 (by rcases h1 with h|h;exact .inl h;exact .inr (.inl h))
  have hn:nm≠bs [110,101,119]:=by
   rcases h1 with rfl|rfl
   .exact hd1
   .exact hd2
  rw[if_pos h1,if_neg hn];cases l.any EO<;>simp[hk]
 .rw[if_neg h1];by_cases hn:nm=bs [110,101,119]
  .have hk:EE nm=2:=(Xf nm).2 (.inr (.inr hn));rw[if_pos hn,if_pos hn];cases l with
   |nil=>simp
   |cons a l=>by_cases ha:a.kind=2<;>simp[hk,ha]
  .rw[if_neg hn,if_neg];rintro⟨h,-⟩;rcases (Xf nm).1 h with h|h|h
   .exact h1 (.inl h)
   .exact h1 (.inr h)
   .exact hn h
theorem cJ (m:I6) (l:G7) (x0 x1 x2:AV) (B8:l.length<=1099511627776) (IH:∀t∈l,pc Q Fz [B9 t]=some (.int .i64 (Us t))) (fr:Fr) (h:AH) (hh:h=⟨[[x0,x1,x2,sl m 4 (A4 l)]],[]⟩) (hl:fr.length=40) (h1:A0 fr 1=.ptr 0 0) (h4:A0 fr 4=.int .i64 0) :
  B6 (lp (A2 (K8 Q) (D6 Fz) Cg) (fr,h)) λe C3 h'=>Kp Cg.wr fr C3/\(e=.exit 0/\Na l=0\/e=.ret/\A0 C3 2=.int .i64 (Na l)):=by
 refine A9 rfl fr (λn fr h'=>∃(i:Nat),i+n=l.length/\A0 fr 4=.int .i64 (i:Nat)/\(h'=⟨[[x0,x1,x2,sl m 4 (A4 l)]],[]⟩/\Na (l.drop i)=Na l)) ?_ l.length h ⟨0,by omega,h4,hh,rfl⟩;rintro J Φ hJ hΦ n D4 H1 K ⟨i,hi,k4,hr⟩;have A6:=K.1.trans hl;have k1:=A8 K 1 h1;clear K;by_cases A7:i<l.length
 .have L3:=C6 i (by omega);obtain⟨rfl,hr⟩:=hr;have hx:=I0 A7;have hI:=IH l[i] (A0b A7);rw[A0Z A7,Vi]at hr;clear hh;generalize l[i]=s at *
  by_cases hc:Us s=0
  .rw[if_neg (by simp[hc])]at hr;rw[hc]at hI;simp[Cg,A6,k1,k4,A7,L3,hx,hI];exact G0 hJ ⟨i+1,by omega,by simp[A6],by simp,hr⟩
  .rw[if_pos hc]at hr;simp[Cg,A6,k1,k4,A7,hx,hI,hc];exact hΦ _ _ _ (.inr ⟨rfl,by simp[A6,hr]⟩)
 .obtain⟨rfl,hr⟩:=hr;rw[A0a (by omega)]at hr;simp[Cg,A6,k1,k4,A7];exact hΦ _ _ _ (.inl ⟨rfl,hr.symm⟩)
theorem jy:∀(n:Nat) (t:Tm),t.size<=n->t.size<=1099511627776->pc Q Fz [B9 t]=some (.int .i64 (Us t)):=by
 intro n
 induction n with
 |zero=>intro t h;have:=t.size_pos;omega
 |succ n ih =>
  intro t hn hb;have J4:=t.kids_size;have B8:=Tm.length_le t.kids;have Gl:=cJ t.cm t.kids (.int .i64 t.kind) (.str t.name) (.int .i64 t.sort) (by omega) (λt' ht=>by have:=Tm.size_le ht;exact ih t' (by omega) (by omega));clear ih;have hK:=cY t.name;have hF:=vp t;have hA:=om t hb;have hfn:t.name=bs [110,101,119]->Ly t.name t.kids.length=true->1<=t.kids.length:=λe h=>fR (by rw[←e];exact h);have e:Us t=if t.kind≠3 then 0 else if EE t.name=0 then 10 else if Ly t.name t.kids.length=false then 6 else if Yv t.name t.kids≠0 then Yv t.name t.kids else Na t.kids:=by
   obtain⟨k,nm,s,m,l⟩:=t;rw[Us];rfl
  rw[e,xO];clear e;by_cases hk:t.kind=3
  .rw[if_neg (by simp[hk])];have hag:AV.agg [.int .i64 3,.str t.name,.int .i64 t.sort,sl t.cm 4 (A4 t.kids)]=B9 t:=by rw[←hk];exact Vk t
   by_cases hkd:EE t.name=0
   .rw[if_pos hkd];rw[hkd]at hK;refine H6 L0 λfr hl h0=>?_;simp[L0]at hl h0;simp[L0,hl,h0,hk,hK]
   .rw[if_neg hkd];have hF:=hF hkd;by_cases hf:Ly t.name t.kids.length=false
    .rw[if_pos hf];rw[hf]at hF;refine H6 L0 λfr hl h0=>?_;simp[L0]at hl h0;simp[L0,hl,h0,hk,hag,hK,hkd,hF]
    .rw[if_neg hf];have hf':Ly t.name t.kids.length=true:=by simpa using hf
     rw[hf']at hF;have hA:=hA (λe=>hfn e hf');by_cases hp:EE t.name=2
     .by_cases ha:ub t.name t.kids=false
      .rw[if_pos (by simp[hp,ha]),if_pos ⟨hp,ha⟩];rw[ha]at hA;rw[hp]at hK;refine H6 L0 λfr hl h0=>?_;simp[L0]at hl h0;simp[L0,hl,h0,hk,hag,hK,hF,hA]
      .rw[if_neg (by simp[ha])];have ha':ub t.name t.kids=true:=by simpa using ha
       rw[ha']at hA;rw[hp]at hK;refine H6 L0 λfr hl h0=>?_;simp[L0]at hl h0;simp[L0,hl,h0,hk,hag,hK,hF,hA];refine B6.mono (Gl _ _ ?_ ?_ ?_ ?_) ?_<;>first|(simp[hl,hk];done)|skip
       rintro e D4 h1 ⟨K,⟨rfl,he⟩|⟨rfl,k2⟩⟩
       .have A6:D4.length=40:=K.1.trans (by simp[hl]);simp[A6,he]
       .simp[k2]
     .rw[if_neg (by simp[hp])];refine H6 L0 λfr hl h0=>?_;simp[L0]at hl h0;simp[L0,hl,h0,hk,hag,hK,hkd,hp,hF];refine B6.mono (Gl _ _ ?_ ?_ ?_ ?_) ?_<;>first|(simp[hl,hk];done)|skip
      rintro e D4 h1 ⟨K,⟨rfl,he⟩|⟨rfl,k2⟩⟩
      .have A6:D4.length=40:=K.1.trans (by simp[hl]);simp[A6,he]
      .simp[k2]
  .rw[if_pos hk];refine H6 L0 λfr hl h0=>?_;simp[L0]at hl h0;simp[L0,hl,h0,hk]
theorem Ri (t:Tm) (hb:t.size<=1099511627776):pc Q IS [B9 t]=some (.int .i64 (vE t)):=by
 have h1:=ME t hb;have h2:=jy _ t (A0c _) hb;unfold vE;by_cases hv:R9 t=0
 .rw[if_neg (by simp[hv])];rw[hv]at h1;refine H6 GK λfr hl h0=>?_;simp[GK]at hl h0;simp[GK,hl,h0,h1,h2]
 .rw[if_pos hv];refine H6 GK λfr hl h0=>?_;simp[GK]at hl h0;simp[GK,hl,h0,h1,hv]
def AX:List ByteArray:=[bs [112,97,105,114],bs [101,110,99],bs [97,101,110,99],bs [112,107],bs [115,105,103,110],bs [104,97,115,104],bs [115,107],bs [115,104,107]]
def kV (t:Tm):Prop:=∀x∈DC t,x.kind=3->x.name∈AX
theorem kV.kid {t x:Tm} (h:kV t) (hx:x∈t.kids):kV x:=λy hy=>h y (by
 rw[AL,G3];exact List.mem_cons_of_mem _ (A00.2 ⟨x,hx,hy⟩))
theorem kV.name {t:Tm} (h:kV t) (hk:t.kind=3):t.name∈AX:=h t (by rw[AL];exact List.mem_cons_self) hk
theorem Li {nm:J1} (h:nm∈AX):nm≠bs [102,115,116]/\nm≠bs [115,110,100]/\nm≠bs [100,101,99]/\nm≠bs [97,100,101,99]/\nm≠bs [111,112,101,110]/\nm≠bs [114,101,97,100]/\nm≠bs [120,111,114]/\nm≠bs [109,117,108]/\nm≠bs [105,110,118]/\nm≠bs [111,110,101]/\nm≠bs [101,120,112]/\nm≠bs [122,101,114,111]/\nm≠bs [110,101,119]/\EE nm≠3/\EE nm≠0:=by
 have:∀nm∈AX,nm≠bs [102,115,116]/\nm≠bs [115,110,100]/\nm≠bs [100,101,99]/\nm≠bs [97,100,101,99]/\nm≠bs [111,112,101,110]/\nm≠bs [114,101,97,100]/\nm≠bs [120,111,114]/\nm≠bs [109,117,108]/\nm≠bs [105,110,118]/\nm≠bs [111,110,101]/\nm≠bs [101,120,112]/\nm≠bs [122,101,114,111]/\nm≠bs [110,101,119]/\EE nm≠3/\EE nm≠0:=by decide
 exact this nm h
theorem fF (m:I6) (l:G7) (nm:J1) (C0 C1:G6) (B8:l.length<=1048576) (IH:∀t∈l,∃t',pc Q r9 [B9 t]=some (.tup [B9 t',.int .i64 0])/\E3 t'=E3 t) (fr:Fr) (h:AH) (hh:h.boxes=[C0,C1,[.int .i64 3,.str nm,.int .i64 0,.vs true 0 []]]) (hl:fr.length=90) (h2:A0 fr 2=.ptr 1 0) (h4:A0 fr 4=.ptr 2 0) (h19:A0 fr 19=sl m 4 (A4 l)) (h20:A0 fr 20=.int .i64 l.length) (h21:A0 fr 21=.int .i64 0) :
  B6 (lp (A2 (K8 Q) (D6 r9) Df) (fr,h)) λe C3 h'=>Kp Df.wr fr C3/\e=.exit 0/\∃(B:List (List AV)) (v:AV) (done:List Tm),h'.boxes=C0::C1::[.int .i64 3,.str nm,.int .i64 0,v]::B/\EB 4 (A4 done) v h'/\H5 done=H5 l:=by
 refine A9 rfl fr (λn fr h'=>∃(i:Nat),i+n=l.length/\A0 fr 21=.int .i64 (i:Nat)/\(∃(B:List (List AV)) (v:AV) (done:List Tm),h'.boxes=C0::C1::[.int .i64 3,.str nm,.int .i64 0,v]::B/\EB 4 (A4 done) v h'/\H5 done=H5 (l.take i)/\done.length=i)) ?_ l.length h ⟨0,by omega,h21,[],_,[],hh,DB _ _,by simp[H5],rfl⟩;rintro J Φ hJ hΦ n D4 H1 K ⟨i,hi,k21,hr⟩;have A6:=K.1.trans hl;have k2:=A8 K 2 h2;have k4:=A8 K 4 h4;have k19:=A8 K 19 h19;have k20:=A8 K 20 h20;clear K;by_cases A7:i<l.length
 .have L3:=C6 i (by omega);obtain⟨B,v,done,hB,hg,hd,Ds⟩:=hr;obtain⟨bx,F⟩:=H1;simp only at hB;subst hB;have hx:=I0 A7;obtain⟨t',hI,ht⟩:=IH l[i] (A0b A7);have hda:(A4 done).length=done.length:=by rw[C9,A0g]
  obtain⟨v',⟨bx',F'⟩,ha,d7,Qw⟩:=Al (c:=D6 r9) (bytes:=56) (x:=B9 t') (h:=⟨C0::C1::[.int .i64 3,.str nm,.int .i64 0,v]::(B++[(B9 l[i]).cells]++[(B9 t').cells]),F⟩) (Bn hg rfl) rfl (true,true) (by omega) (by omega);have e2:H5 (done++[t'])=H5 (l.take (i+1)):=by
   rw[A0f A7,E4,A0h,←E4,hd,E4,E4,A0h,A0o,A08,A0o,A08,ht]
  have hg2:EB 4 (A4 (done++[t'])) v' ⟨bx',F'⟩:=by rw[Q0];exact d7
  clear ht hd hh;generalize l[i]=s at *
  simp only at Qw;subst Qw;simp only[I3,List.append_assoc,List.singleton_append]at ha;obtain⟨c1,c2,-⟩:=L6 d7;simp[Df,A6,k4,k19,k20,k21,A7,L3,hx,hI,A5,ha,c1,c2];exact G0 hJ ⟨i+1,by omega,by simp[A6],_,v',done++[t'],rfl,Bn hg2 rfl,e2,by simp[Ds]⟩
 .obtain⟨B,v,done,hB,hg,hd,Ds⟩:=hr;obtain⟨bx,F⟩:=H1;simp only at hB;subst hB;rw[A0d (by omega)]at hd;simp[Df,A6,k20,k21,A7];exact hΦ _ _ _ ⟨rfl,B,v,done,rfl,hg,hd⟩
theorem fV {k:Int} {nm:J1} {s:Int} {n:Nat} (h:s7 k s nm n=0) (hk:k=3):s=0:=by
 subst hk;unfold s7 at h;by_cases hs:s=0
 .exact hs
 .rw[if_pos (.inr (.inl ⟨rfl,hs⟩))]at h;exact absurd h (by decide)
theorem oy:∀(n:Nat) (t:Tm),t.size<=n->t.size<=1048576->kV t->I9 t=0->∃t',pc Q r9 [B9 t]=some (.tup [B9 t',.int .i64 0])/\E3 t'=E3 t:=by
 intro n
 induction n with
 |zero=>intro t h;have:=t.size_pos;omega
 |succ n ih =>
  intro t hn hb hf Yz
  suffices h:∃v,pc Q r9 [B9 t]=some v/\∃t',v=.tup [B9 t',.int .i64 0]/\E3 t'=E3 t by
   obtain⟨v,h1,t',rfl,h2⟩:=h;exact⟨t',h1,h2⟩
  obtain⟨k,nm,s,m,kids⟩:=t;have J4:Tm.size (.mk k nm s m kids)=1+Tm.sizes kids:=rfl;have B8:=Tm.length_le kids;obtain⟨hno1,hno2⟩:=Q4 Yz;have Gl:=fF m kids nm [.int .i64 k,.str nm,.int .i64 s,sl m 4 (A4 kids)] [.int .i64 0,.str (bs []),.int .i64 0,.vs true 0 []] (by omega) (λt ht=>ih t (by have:=Tm.size_le ht;omega) (by have:=Tm.size_le ht;omega) (hf.kid ht) (K0 hno2 t ht));clear ih;by_cases hk:k=3
  .obtain⟨n1,n2,n3,n4,n5,n6,n7,n8,n9,n10,n11,-⟩:=Li (hf.name hk);simp only[Tm.name]at n1 n2 n3 n4 n5 n6 n7 n8 n9 n10 n11;have hs0:=fV hno1 hk;subst hk hs0;refine Fj Cz λΨ hΨ fr hl h0=>?_;simp[Cz,B9]at hl h0;simp[Cz,hl,h0,C8,D8];refine B6.mono (Gl _ _ ?_ ?_ ?_ ?_ ?_ ?_ ?_) ?_<;>first|(simp[hl];done)|skip
   rintro e D4 ⟨bx,F⟩ ⟨K,rfl,B,v,done,hB,hg,hd⟩;simp only at hB;subst hB;have J3:D4.length=90:=K.1.trans (by simp[hl]);have Fe:A0 D4 1=.ptr 0 0:=A8 K 1 (by simp[hl]);have GX:A0 D4 2=.ptr 1 0:=A8 K 2 (by simp[hl]);have ND:A0 D4 4=.ptr 2 0:=A8 K 4 (by simp[hl]);clear K;obtain⟨mm,hz⟩:=PN hg;obtain⟨c1,c2,c3⟩:=L6 hg;simp[J3,Fe,GX,ND,hz,n1,n2,n3,n4,n5,n6,n7,n8,n9,n10,n11];exact hΨ _ ⟨.mk 3 nm 0 mm done,rfl,by simp[E3,hd]⟩
  .refine Fj Cz λΨ hΨ fr hl h0=>?_;simp[Cz,B9]at hl h0;simp[Cz,hl,h0,hk];exact hΨ _ ⟨.mk k nm s m kids,rfl,rfl⟩
end Go.Abs.Q
