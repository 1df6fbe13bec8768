/- A part of the proof. -/
import Derived.Test.YtohjdamplbhdpaaGreatDoorSO14
set_option linter.all false
open List renaming drop_eq_getElem_cons->A0Q,drop_eq_nil_of_le->A0R,getElem_mem->A0S,take_of_length_le->A0U,length_append->A0V,take_succ_eq_append_getElem->A0W,length_map->A0X,map_append->A0Y,getElem?_eq_getElem->A0Z,length_take->A0a,take_append_drop->A0b,eq_nil_of_length_eq_zero->A0c,getElem_of_mem->A0d,map_cons->A0f,length_cons->A0g,length_drop->A0h,find?_cons->A0i,mem_append->A0j,length_filter_le->A0k,mem_of_mem_drop->A0l,mem_cons->A0m,flatMap_append->A0n,any_eq_true->A0p,filter_cons->A0q,mem_flatMap->A0r,append_nil->A0u,filter_nil->A0v,any_cons->A0x,map_nil->A0z,length->A00
open Nat renaming le_refl->A0T,lt_or_eq_of_le->A0e
open Bool renaming and_eq_true->A0o,eq_iff_iff->A0s,or_eq_true->A0t,false_or->A0w,true_or->A0y
namespace Go.Abs.Q
open Go.Proofs
attribute [local simp] E1 E5 fin J7 G4 O2 L3
theorem xz (m:I7) (l:G7) (t:Tm) (B8:l.length<=1048576) (hs:∀x∈l,x.size<=1099511627776) (ht:t.size<=1099511627776) :
  ∃m',pc Q q8 [sl m 4 (A4 l),B9 t]=some (sl m' 4 (A4 (Ln t false l))):=by
 suffices h:∃v,pc Q q8 [sl m 4 (A4 l),B9 t]=some v/\∃q:Bool×Bool,v=sl q 4 (A4 (Ln t false l)) by
  obtain⟨v,h1,q,rfl⟩:=h;exact⟨q,h1⟩
 refine Sp Rq λΨ hΨ fr hl h0 h1=>?_;simp[Rq]at hl h0 h1;simp[Rq,h1];refine B7.mono (rP m l t B8 hs ht _ _ ?_ ?_ ?_ ?_ ?_ ?_ ?_) ?_<;>first|(simp[hl,h0];done)|skip
 rintro e D5 ⟨B,F⟩ ⟨K,rfl,acc,d,v,hB,k5,k6,hg,hal,hr⟩;simp only at hB;subst hB;have J0:D5.length=47:=K.1.trans (by simp[hl]);have OE:A0 D5 3=.ptr 0 0:=A8 K 3 (by simp[hl]);clear K;have hlA:(A4 acc).length=acc.length:=by rw[D0,A0X]
 cases d with
 |true =>
  rw[ZP,A0u]at hr;obtain⟨mm,hz⟩:=KS hg;obtain⟨c1,c2,c3⟩:=L5 hg;simp only[I1]at hz;simp[J0,k5,k6,hz];refine hΨ _ ⟨mm,?_⟩;rw[hr]
 |false =>
  obtain⟨v1,⟨B1,F1⟩,a1,g1,b1⟩:=Af (c:=D6 q8) (bytes:=56) (x:=B9 t) hg rfl (true,true) (by omega) (by omega);simp only at b1;subst b1;rw[←P8]at g1;simp only[Ln]at hr;rw[if_neg (by simp)]at hr;obtain⟨mm,hz⟩:=KS g1;obtain⟨c1,c2,c3⟩:=L5 g1;simp only[I1]at a1 hz;simp[J0,OE,k5,k6,hz,a1,A5];exact hΨ _ ⟨mm,by rw[hr]⟩
theorem rT (m:I7) (l:G7) (B8:l.length<=1048576) (hs:∀x∈l,x.size<=1099511627776) (fr:Fr) (h:AH) (h3:A0 fr 3=.vs true 0 []) (hl:fr.length=18) (h0:A0 fr 0=sl m 4 (A4 l)) (h4:A0 fr 4=.int .i64 0) :
  B7 (lp (A2 (K8 Q) (D6 Eo) IM) (fr,h)) λe C4 h'=>Kp IM.wr fr C4/\e=.exit 0/\∃(R:List Tm) (m':Bool×Bool),A0 C4 3=sl m' 4 (A4 R)/\K7 R l/\(∀x∈R,x∈l)/\R.length<=l.length:=by
 refine B4 rfl fr (λn fr h'=>∃(i:Nat),i+n=l.length/\A0 fr 4=.int .i64 (i:Nat)/\(∃(R:List Tm) (m':Bool×Bool),A0 fr 3=sl m' 4 (A4 R)/\K7 R (l.take i)/\(∀x∈R,x∈l)/\R.length<=i)) ?_ l.length h ⟨0,by omega,h4,[],(true,false),h3.trans (Il 4),⟨List.Pairwise.nil,λ_=>Iff.rfl⟩,λ_ h=>(nomatch h),A0T _⟩;rintro J Φ hJ hΦ n D5 H1 K ⟨i,hi,k4,hr⟩;have A6:=K.1.trans hl;have k0:=A8 K 0 h0;clear K;by_cases A7:i<l.length
 .have L4:=C6 i (by omega);obtain⟨R,m',k3,Z8,hsub,hRl⟩:=hr;have hx:=H9 A7;have KI:=A0S A7;obtain⟨m2,hA⟩:=xz m' R l[i] (by omega) (λx hx=>hs x (hsub x hx)) (hs _ KI);have h2:=iD (t:=l[i]) Z8;rw[←A0W A7]at h2;obtain⟨-,j2,-,-,j5⟩:=Uu l[i] R Z8.1;generalize l[i]=s at *
  simp[IM,A6,k0,k4,A7,L4,k3,hx,hA];refine⟨n-1,by omega,hJ _ _ _ ⟨i+1,by omega,by simp[A6],Ln s false R,m2,by simp[A6],h2,λx hx=>?_,by omega⟩⟩;rcases j2 x hx with rfl|hx
  .exact KI
  .exact hsub x hx
 .obtain⟨R,m',k3,Z8,hsub,hRl⟩:=hr;rw[A0U (by omega)]at Z8;simp[IM,A6,k0,k4,A7];exact hΦ _ _ _ ⟨rfl,R,m',by simp[k3],Z8,hsub,by omega⟩
theorem ja (m:I7) (l:G7) (B8:l.length<=1048576) (hs:∀x∈l,x.size<=1099511627776) :
  ∃(R:List Tm) (m':Bool×Bool),pc Q Eo [sl m 4 (A4 l)]=some (sl m' 4 (A4 R))/\K7 R l/\(∀x∈R,x∈l)/\R.length<=l.length:=by
 suffices h:∃v,pc Q Eo [sl m 4 (A4 l)]=some v/\∃q:List Tm×(Bool×Bool),v=sl q.2 4 (A4 q.1)/\K7 q.1 l/\(∀x∈q.1,x∈l)/\q.1.length<=l.length by
  obtain⟨v,h1,q,rfl,h2⟩:=h;exact⟨q.1,q.2,h1,h2⟩
 refine GU Rt λΨ hΨ fr hl h0=>?_;simp[Rt]at hl h0;simp[Rt];refine B7.mono (rT m l B8 hs _ _ ?_ ?_ ?_ ?_) ?_<;>first|(simp[hl,h0];done)|skip
 rintro e D5 h1 ⟨K,rfl,R,m',k3,h2⟩;have A6:D5.length=18:=K.1.trans (by simp[hl]);simp[A6,k3];exact hΨ _ ⟨(R,m'),rfl,h2⟩
def gy (sz:Nat) (acc:List AV) (v:AV) (h:AH):Prop:=v=sl (true,true) sz acc\/Dr sz acc v h
theorem Wl {c:Ctx} {sz bytes:Nat} {acc ys:G3} {v x:AV} {h:AH} (hg:gy sz acc v h) (hm:c.mutApp=false) (hx:AR h sz x=some ys) (P0:ys≠[])
  (hb:(acc.length+ys.length)*bytes<=H2/\acc.length+ys.length<=maxLen):∃v' h',K1 c h sz bytes v x=some (v',h')/\Dr sz (acc++ys) v' h'/\h'.boxes=h.boxes:=by
 rcases hg with rfl|hg
 .have e:K1 c h sz bytes (sl (true,true) sz acc) x=some (.sl h.fams.length (acc.length+ys.length) 0 (acc.length+ys.length),{h with fams:=h.fams++[⟨acc++ys,sz,c.mutApp⟩]}):=by
   have:sl (true,true) sz acc=.vs true sz acc:=by simp[sl]
   rw[this];simp only[K1,hx];rw[if_neg (λk=>P0 (A0c k)),if_pos ⟨by simp,hb⟩]
  rw[e,hm];exact⟨_,_,rfl,.inr ⟨by simp[P0],h.fams.length,by simp,by simp⟩,rfl⟩
 .exact Nu hg hm hx hb
theorem dK {sz:Nat} {acc:G3} {v:AV} {h:AH} (hg:gy sz acc v h):∃m,DX h v=some (sl m sz acc):=by
 rcases hg with rfl|hg
 .exact⟨(true,true),rfl⟩
 .exact KS hg
theorem gz {sz:Nat} {acc:G3} {v:AV} {h:AH} (hg:gy sz acc v h):v.isTup=false/\v.cells=[v]/\Es [v]=false:=by
 rcases hg with rfl|hg
 .exact⟨rfl,rfl,rfl⟩
 .exact L5 hg
theorem Uf (a b:G7):A4 (a++b)=A4 a++A4 b:=by simp[D0]
theorem uU (t:Tm):A4 (Cu t)≠[]:=by
 rw[AD,D0];simp
theorem rQ (m:I7) (l:G7) (t:Tm) (x0 x1 x2:AV) (B8:Tm.sizes l<=1048576) (hll:l.length<=1048576) (IH:∀x∈l,∃m',pc Q BP [B9 x]=some (sl m' 4 (A4 (Cu x)))) (fr:Fr) (h:AH) (hh:h.boxes=[[x0,x1,x2,sl m 4 (A4 l)]]) (h3:A0 fr 3=sl (true,true) 4 [B9 t]) (hl:fr.length=23) (h1:A0 fr 1=.ptr 0 0) (h4:A0 fr 4=.int .i64 0) :
  B7 (lp (A2 (K8 Q) (D6 BP) IL) (fr,h)) λe C4 h'=>Kp IL.wr fr C4/\e=.exit 0/\∃v:AV,h'.boxes=[[x0,x1,x2,sl m 4 (A4 l)]]/\A0 C4 3=v/\gy 4 (A4 (t::alls l)) v h':=by
 refine B4 rfl fr (λn fr h'=>∃(i:Nat),i+n=l.length/\A0 fr 4=.int .i64 (i:Nat)/\(∃v:AV,h'.boxes=[[x0,x1,x2,sl m 4 (A4 l)]]/\A0 fr 3=v/\gy 4 (A4 (t::alls (l.take i))) v h')) ?_ l.length h ⟨0,by omega,h4,_,hh,h3,.inl rfl⟩;rintro J Φ hJ hΦ n D5 H1 K ⟨i,hi,k4,hr⟩;have A6:=K.1.trans hl;have k1:=A8 K 1 h1;clear K;by_cases A7:i<l.length
 .have L4:=C6 i (by omega);obtain⟨v,hB,k3,hg⟩:=hr;obtain⟨B,F⟩:=H1;simp only at hB;subst hB;have hx:=H9 A7;obtain⟨m',hA⟩:=IH l[i] (A0S A7);have hat:=PE A7;have hal:=Q5 (l.take (i+1));have a3:Tm.sizes (l.take (i+1))<=Tm.sizes l:=by
   have e:=congrArg A00 (congrArg alls (A0b (i+1) l));rw[G0,G0,A0n,A0V,←G0,←G0,←G0,Q5,Q5,Q5]at e;omega
  rw[hat]at hal;obtain⟨v1,⟨B1,F1⟩,a1,g1,b1⟩:=Wl (c:=D6 BP) (bytes:=56) (x:=sl m' 4 (A4 (Cu l[i]))) hg rfl (M9 _ m' 4 _) (uU _) (by
   simp only[A0V]at hal;simp only[H2,maxLen,D0,A0X,A0g];omega)
  simp only at b1;subst b1;rw[←Uf,List.cons_append,←hat]at g1;clear hat hal hg hh;generalize l[i]=s at *
  simp[IL,A6,k1,k4,A7,L4,k3,hx,hA,a1];exact E9 hJ ⟨i+1,by omega,by simp[A6],v1,by simp,by simp[A6],.inr g1⟩
 .obtain⟨v,hB,k3,hg⟩:=hr;rw[A0U (by omega)]at hg;obtain⟨B,F⟩:=H1;simp only at hB;subst hB;simp[IL,A6,k1,k4,A7];exact hΦ _ _ _ ⟨rfl,v,rfl,by simp[k3],hg⟩
theorem jV:∀(n:Nat) (t:Tm),t.size<=n->t.size<=1048576->∃m',pc Q BP [B9 t]=some (sl m' 4 (A4 (Cu t))):=by
 intro n
 induction n with
 |zero=>intro t h;have:=t.size_pos;omega
 |succ n ih =>
  intro t hn hb;have J4:=t.kids_size;have GW:=rQ t.cm t.kids t (.int .i64 t.kind) (.str t.name) (.int .i64 t.sort) (by omega) (by have:=Tm.length_le t.kids;omega) (λt' ht'=>by have:=Tm.size_le ht';exact ih t' (by omega) (by omega));clear ih
  suffices h:∃v,pc Q BP [B9 t]=some v/\∃q:Bool×Bool,v=sl q 4 (A4 (Cu t)) by
   obtain⟨v,h1,q,rfl⟩:=h;exact⟨q,h1⟩
  refine GU Rr λΨ hΨ fr hl h0=>?_;simp[Rr]at hl h0;simp[Rr,hl,h0,A5];refine B7.mono (GW _ _ ?_ ?_ ?_ ?_ ?_) ?_<;>first|(simp[hl];done)|skip
  rintro e D5 ⟨B,F⟩ ⟨K,rfl,v,hB,k3,hg⟩;obtain⟨mm,hz⟩:=dK hg;obtain⟨c1,c2,c3⟩:=gz hg;have A6:D5.length=23:=K.1.trans (by simp[hl]);simp[A6,k3,hz];exact hΨ _ ⟨mm,by rw[AD]⟩
theorem VF (m:I7) (l:G7) (B8:Tm.sizes l<=1048576) (hll:l.length<=1048576) (fr:Fr) (h:AH) (hh:h.boxes=[]) (h3:A0 fr 3=.vs true 0 []) (hl:fr.length=20) (h0:A0 fr 0=sl m 4 (A4 l)) (h4:A0 fr 4=.int .i64 0) :
  B7 (lp (A2 (K8 Q) (D6 BW) By) (fr,h)) λe C4 h'=>Kp By.wr fr C4/\e=.exit 0/\∃v:AV,h'.boxes=[]/\A0 C4 3=v/\Dr 4 (A4 (alls l)) v h':=by
 refine B4 rfl fr (λn fr h'=>∃(i:Nat),i+n=l.length/\A0 fr 4=.int .i64 (i:Nat)/\(∃v:AV,h'.boxes=[]/\A0 fr 3=v/\Dr 4 (A4 (alls (l.take i))) v h')) ?_ l.length h ⟨0,by omega,h4,_,hh,h3,Ct _ _⟩;rintro J Φ hJ hΦ n D5 H1 K ⟨i,hi,k4,hr⟩;have A6:=K.1.trans hl;have k0:=A8 K 0 h0;clear K;by_cases A7:i<l.length
 .have L4:=C6 i (by omega);obtain⟨v,hB,k3,hg⟩:=hr;obtain⟨B,F⟩:=H1;simp only at hB;subst hB;have hx:=H9 A7;have hat:=PE A7;have hal:=Q5 (l.take (i+1));have a3:Tm.sizes (l.take (i+1))<=Tm.sizes l:=by
   have e:=congrArg A00 (congrArg alls (A0b (i+1) l));rw[G0,G0,A0n,A0V,←G0,←G0,←G0,Q5,Q5,Q5]at e;omega
  rw[hat]at hal;obtain⟨m',hA⟩:=jV _ l[i] (A0T _) (by have:=Tm.size_le (A0S A7);omega);obtain⟨v1,⟨B1,F1⟩,a1,g1,b1⟩:=Nu (c:=D6 BW) (bytes:=56) (x:=sl m' 4 (A4 (Cu l[i]))) hg rfl (M9 _ m' 4 _) (by
   simp only[A0V]at hal;simp only[H2,maxLen,D0,A0X];omega)
  simp only at b1;subst b1;rw[←Uf,←hat]at g1;clear hat hal hg hh;generalize l[i]=s at *
  simp[By,A6,k0,k4,A7,L4,k3,hx,hA,a1];exact E9 hJ ⟨i+1,by omega,by simp[A6],v1,by simp,by simp[A6],g1⟩
 .obtain⟨v,hB,k3,hg⟩:=hr;rw[A0U (by omega)]at hg;simp[By,A6,k0,k4,A7];exact hΦ _ _ _ ⟨rfl,v,hB,by simp[k3],hg⟩
theorem Xy (m:I7) (l:G7) (B8:Tm.sizes l<=1048576) :
  ∃(R:List Tm) (m':Bool×Bool),pc Q BW [sl m 4 (A4 l)]=some (sl m' 4 (A4 R))/\K7 R (alls l)/\(∀x∈R,x∈alls l)/\R.length<=Tm.sizes l:=by
 suffices h:∃v,pc Q BW [sl m 4 (A4 l)]=some v/\∃q:List Tm×(Bool×Bool),v=sl q.2 4 (A4 q.1)/\K7 q.1 (alls l)/\(∀x∈q.1,x∈alls l)/\q.1.length<=Tm.sizes l by
  obtain⟨v,h1,q,rfl,h2⟩:=h;exact⟨q.1,q.2,h1,h2⟩
 have hal:=Q5 l;refine GU Ku λΨ hΨ fr hl h0=>?_;simp[Ku]at hl h0;simp[Ku];refine B7.mono (VF m l B8 (by have:=Tm.length_le l;omega) _ _ ?_ ?_ ?_ ?_ ?_) ?_<;>first|(simp[hl,h0];done)|skip
 rintro e D5 h1 ⟨K,rfl,v,hB,k3,hg⟩;have A6:D5.length=20:=K.1.trans (by simp[hl]);obtain⟨mm,hz⟩:=SI hg;have htm:CM h1 v=true:=by
  rcases hg with ⟨_,rfl⟩|⟨_,k,rfl,hk⟩
  .rfl
  .simp only[CM,KO,hk];rfl
 obtain⟨R,m',hS,Z8,hsub,hRl⟩:=ja mm (alls l) (by omega) (λx hx=>by
  rw[G0]at hx;obtain⟨y,hy,hx⟩:=A0r.1 hx;have:=SK _ y (A0T _) x hx;have:=Tm.size_le hy;omega)
 simp[A6,k3,hz,hS,htm];exact hΨ _ ⟨(R,m'),rfl,Z8,hsub,by rw[←hal];exact hRl⟩
theorem nR (m:I7) (l:G7) (kd:Int) (hll:l.length<=1048576) (fr:Fr) (h:AH) (h5:A0 fr 5=.vs true 0 []) (hl:fr.length=32) (h1:A0 fr 1=.int .i64 kd) (h6:A0 fr 6=sl m 4 (A4 l)) (h7:A0 fr 7=.int .i64 0) :
  B7 (lp (A2 (K8 Q) (D6 HL) EJ) (fr,h)) λe C4 h'=>Kp EJ.wr fr C4/\e=.exit 0/\∃v:AV,h'.boxes=h.boxes/\A0 C4 5=v/\Dr 4 (A4 (l.filter λx=>decide (x.kind=kd))) v h':=by
 refine B4 rfl fr (λn fr h'=>∃(i:Nat),i+n=l.length/\A0 fr 7=.int .i64 (i:Nat)/\(∃v:AV,h'.boxes=h.boxes/\A0 fr 5=v/\Dr 4 (A4 ((l.take i).filter λx=>decide (x.kind=kd))) v h')) ?_ l.length h ⟨0,by omega,h7,_,rfl,h5,Ct _ _⟩;rintro J Φ hJ hΦ n D5 H1 K ⟨i,hi,k7,hr⟩;have A6:=K.1.trans hl;have k1:=A8 K 1 h1;have k6:=A8 K 6 h6;clear K;by_cases A7:i<l.length
 .have L4:=C6 i (by omega);obtain⟨v,hB,k5,hg⟩:=hr;have hx:=H9 A7;have hfl:=A0k (λx:Tm=>decide (x.kind=kd)) (l.take i);have htl:(l.take i).length<=1048576:=by rw[A0a];omega
  have e2:(l.take (i+1)).filter (λx:Tm=>decide (x.kind=kd))=(l.take i).filter (λx:Tm=>decide (x.kind=kd))++[l[i]].filter (λx:Tm=>decide (x.kind=kd)):=by
   rw[A0W A7,List.filter_append]
  generalize l[i]=s at *
  by_cases hc:s.kind=kd
  .subst hc;rw[A0q,if_pos (by simp),A0v]at e2;have hz2:(A4 ((l.take i).filter λx=>decide (x.kind=s.kind))).length=((l.take i).filter λx=>decide (x.kind=s.kind)).length:=by rw[D0,A0X]
   obtain⟨v1,⟨B1,F1⟩,a1,g1,b1⟩:=Af (c:=D6 HL) (bytes:=56) (x:=B9 s) hg rfl (true,true) (by omega) (by omega);simp only at b1;subst b1;rw[←P8,←e2]at g1;obtain⟨c1,c2,c3⟩:=L5 g1;simp[EJ,A6,k1,k6,k7,A7,L4,k5,hx,A5,a1];exact E9 hJ ⟨i+1,by omega,by simp[A6],v1,hB,by simp[A6],g1⟩
  .rw[A0q,if_neg (by simp[hc]),A0v,A0u]at e2;rw[←e2]at hg;simp[EJ,A6,k1,k6,k7,A7,L4,hx,hc];exact E9 hJ ⟨i+1,by omega,by simp[A6],v,hB,by simp[k5],hg⟩
 .obtain⟨v,hB,k5,hg⟩:=hr;rw[A0U (by omega)]at hg;simp[EJ,A6,k6,k7,A7];exact hΦ _ _ _ ⟨rfl,v,hB,by simp[k5],hg⟩
theorem jn (t:Tm) (kd:Int) (B8:t.size<=1048576) :
  ∃(R:List Tm) (m':Bool×Bool),pc Q HL [B9 t,.int .i64 kd]=some (sl m' 4 (A4 R))/\K7 R ((Cu t).filter λx=>decide (x.kind=kd)):=by
 obtain⟨m,hA⟩:=jV _ t (A0T _) B8;have hal:=Mn t;have hfl:=A0k (λx:Tm=>decide (x.kind=kd)) (Cu t)
 suffices h:∃v,pc Q HL [B9 t,.int .i64 kd]=some v/\∃q:List Tm×(Bool×Bool),v=sl q.2 4 (A4 q.1)/\K7 q.1 ((Cu t).filter λx=>decide (x.kind=kd)) by
  obtain⟨v,h1,q,rfl,h2⟩:=h;exact⟨q.1,q.2,h1,h2⟩
 refine Sp QR λΨ hΨ fr hl h0 h1=>?_;simp[QR]at hl h0 h1;simp[QR,hl,h0,hA];refine B7.mono (nR m (Cu t) kd (by omega) _ _ ?_ ?_ ?_ ?_ ?_) ?_<;>first|(simp[hl,h1];done)|skip
 rintro e D5 Cv ⟨K,rfl,v,hB,k5,hg⟩;have A6:D5.length=32:=K.1.trans (by simp[hl]);obtain⟨mm,hz⟩:=SI hg;have htm:CM Cv v=true:=by
  rcases hg with ⟨_,rfl⟩|⟨_,k,rfl,hk⟩
  .rfl
  .simp only[CM,KO,hk];rfl
 obtain⟨R,m',hS,Z8,-⟩:=ja mm ((Cu t).filter λx=>decide (x.kind=kd)) (by omega) (λx hx=>by
  have:=SK _ t (A0T _) x (List.mem_filter.1 hx).1;omega)
 simp[A6,k5,hz,hS,htm];exact hΨ _ ⟨(R,m'),rfl,Z8⟩
def uz (t:Tm):Bool:=((Cu t).filter λx=>decide (x.kind=1)).isEmpty
theorem ZM {R l:G7} (h:K7 R l):R.length=0↔l.isEmpty=true:=by
 have h2:=h.2;rw[List.isEmpty_iff];constructor
 .intro e;have:R=[]:=A0c e;subst this;cases l with
  |nil=>rfl
  |cons a l=>exact absurd ((h2 (E3 a)).2 (by simp)) (by simp)
 .rintro rfl;cases R with
  |nil=>rfl
  |cons a l=>exact absurd ((h2 (E3 a)).1 (by simp)) (by simp)
theorem nu (t:Tm) (B8:t.size<=1048576):pc Q Mw [B9 t]=some (.bool (uz t)):=by
 obtain⟨R,m',hK,Z8⟩:=jn t 1 B8;have hV:pc Q Pz [B9 t]=some (sl m' 4 (A4 R)):=by
  refine H5 QQ λfr hl h0=>?_;simp[QQ]at hl h0;simp[QQ,hl,h0,hK]
 have e:decide (R.length=0)=uz t:=by
  rw[A0s,decide_eq_true_iff];exact ZM Z8
 refine H5 NU λfr hl h0=>?_;simp[NU]at hl h0;simp[NU,hl,h0,hV];rw[←e];simp
theorem da (a:Nat):G5 .shr (.int .u64 (a:Int)) (.int .u64 1)=some (.int .u64 ((a / 2:Nat):Int)):=by
 have e:Int.fdiv (a:Int) (2 ^ (min (1:Int).toNat IntKind.u64.bits))=((a / 2:Nat):Int):=by
  rw[show min (1:Int).toNat IntKind.u64.bits=1 from rfl];rw[Int.fdiv_eq_ediv_of_nonneg _ (by decide)];omega
 simp only[G5];rw[if_pos (by decide),e]
theorem uA {n:Int} (h0:0<=n) (h1:n<=9223372036854775807):IntKind.u64.wrap n=n:=by
 simp only[IntKind.wrap,IntKind.bits,IntKind.signed];simp;omega
def X9 (R:List Tm):Prop:=R.Pairwise λa b=>H6 a b<0
theorem X9.get {R:G7} (h:X9 R) {i j:Nat} (hi:i<R.length) (hj:j<R.length) (hij:i<j):H6 R[i] R[j]<0:=(List.pairwise_iff_getElem.1 h) i j hi hj hij
theorem qw {R:G7} (h:X9 R) (t:Tm) (i:Nat) (h1:∀j (hj:j<R.length),j<i->H6 R[j] t<0) (h2:∀j (hj:j<R.length),i<=j->0<=H6 R[j] t) :
  J8 R t=true↔∃hi:i<R.length,H6 R[i] t=0:=by
 simp only[J8,A0p,JK,decide_eq_true_eq];constructor
 .rintro⟨x,hx,hc⟩;obtain⟨j,hj,rfl⟩:=A0d hx;have hij:i<=j:=by
   rcases Nat.lt_or_ge j i with q|q
   .have:=h1 j hj q;omega
   .exact q
  refine⟨by omega,?_⟩;rcases A0e hij with q|q
  .have a:=h.get (by omega) hj q;have b:=h2 i (by omega) (A0T _);have:=ru a (by omega:H6 R[j] t<=0);omega
  .subst q;exact hc
 .rintro⟨hi,hc⟩;exact⟨_,A0S hi,hc⟩
theorem wZ (m:I7) (R:G7) (t:Tm) (hR:X9 R) (B8:R.length<=1099511627776) (hs:∀x∈R,x.size<=1099511627776) (ht:t.size<=1099511627776) :
  ∃i:Nat,i<=R.length/\(∀j (hj:j<R.length),j<i->H6 R[j] t<0)/\(∀j (hj:j<R.length),i<=j->0<=H6 R[j] t) /\
   pc Q I0 [sl m 4 (A4 R),B9 t,.fn C3 []]=some (.tup [.int .i64 (i:Nat),.bool (J8 R t)]):=by
 suffices h:∃v,pc Q I0 [sl m 4 (A4 R),B9 t,.fn C3 []]=some v/\∃i:Nat,v=.tup [.int .i64 (i:Nat),.bool (J8 R t)]/\i<=R.length/\(∀j (hj:j<R.length),j<i->H6 R[j] t<0)/\(∀j (hj:j<R.length),i<=j->0<=H6 R[j] t) by
  obtain⟨v,h1,i,rfl,h2,h3,h4⟩:=h;exact⟨i,h2,h3,h4,h1⟩
 refine fu S0 λΨ hΨ fr hl h0 h1 h2=>?_;simp[S0]at hl h0 h1 h2;simp[S0,hl,h0,h1];refine(B4 (Ψ:=λe C4 h'=>e=.exit 0/\h'=⟨[(B9 t).cells],[]⟩/\∃i:Nat,A0 C4 9=.int .i64 (i:Nat)/\i<=R.length/\(∀j (hj:j<R.length),j<i->H6 R[j] t<0)/\(∀j (hj:j<R.length),i<=j->0<=H6 R[j] t)) rfl _
  (λn C4 h'=>h'=⟨[(B9 t).cells],[]⟩/\∃lo hi:Nat,hi=lo+n/\hi<=R.length/\A0 C4 9=.int .i64 (lo:Nat)/\A0 C4 10=.int .i64 (hi:Nat)/\(∀j (hj:j<R.length),j<lo->H6 R[j] t<0)/\(∀j (hj:j<R.length),hi<=j->0<=H6 R[j] t)) ?_ R.length _
  ⟨by simp,0,R.length,by omega,A0T _,by simp[hl],by simp[hl],λj _ h=>absurd h (Nat.not_lt_zero _),λj hj h=>by omega⟩).mono ?_
 .rintro J Φ hJ hΦ n D5 H1 K ⟨rfl,lo,hi,hn,Zk,k9,k10,g1,g2⟩;have A6:D5.length=49:=K.1.trans (by simp[hl]);have k0:=A8 K 0 (by simp[h0]:_=sl m 4 (A4 R));have k2:=A8 K 2 (by simp[h2]:_=AV.fn C3 []);have k4:=A8 K 4 (by simp[hl]:_=AV.ptr 0 0);clear K;by_cases A7:0<n
  .have hlti:(lo:Int)<(hi:Int):=by omega
   have hw1:IntKind.i64.wrap ((lo:Int)+(hi:Int))=(lo:Int)+(hi:Int):=W2 (by omega) (by omega);have hw2:IntKind.u64.wrap ((lo:Int)+(hi:Int))=(lo:Int)+(hi:Int):=uA (by omega) (by omega);obtain⟨mid,hmd⟩:∃mid,mid=(lo+hi) / 2:=⟨_,rfl⟩;have hb:=da (lo+hi);rw[←hmd,Int.natCast_add]at hb;have hm1:lo<=mid:=by omega
   have hm2:mid<hi:=by omega
   have hw3:IntKind.i64.wrap (mid:Int)=(mid:Int):=W2 (by omega) (by omega);have hw4:=C6 mid (by omega);have hmid:mid<R.length:=by omega
   have hx:=H9 hmid;have hC:=j7 _ R[mid] t (A0T _) (hs _ (A0S hmid)) ht;by_cases hc:H6 R[mid] t<0
   .have g1':∀j (hj:j<R.length),j<mid+1->H6 R[j] t<0:=λj hj hjm=>by
     rcases A0e (Nat.le_of_lt_succ hjm)with q|q
     .exact GZ (hR.get hj hmid q) hc
     .subst q;exact hc
    generalize R[mid]=x at *
    simp[L9,A6,k0,k2,k4,k9,k10,hlti,hw1,hw2,hw3,hw4,hb,hx,hC,hc];exact⟨hi-(mid+1),by omega,hJ _ _ _ ⟨by simp,mid+1,hi,by omega,Zk,by simp[A6],by simp[k10],g1',g2⟩⟩
   .have g2':∀j (hj:j<R.length),mid<=j->0<=H6 R[j] t:=λj hj hjm=>by
     rcases A0e hjm with q|q
     .rcases Int.lt_or_le (H6 R[j] t) 0 with p|p
      .exact absurd (GZ (hR.get hmid hj q) p) hc
      .exact p
     .subst q;omega
    generalize R[mid]=x at *
    simp[L9,A6,k0,k2,k4,k9,k10,hlti,hw1,hw2,hw3,hb,hx,hC,hc];exact⟨mid-lo,by omega,hJ _ _ _ ⟨by simp,lo,mid,by omega,by omega,by simp[k9],by simp[A6],g1,g2'⟩⟩
  .have hn0:n=0:=by omega
   have hlh:hi=lo:=by omega
   subst hlh;simp[L9,A6,k9,k10];exact hΦ _ _ _ ⟨rfl,by simp,hi,by simp[k9],Zk,g1,g2⟩
 .rintro e D5 Cv ⟨K,rfl,rfl,i,k9,hi,g1,g2⟩;have A6:D5.length=49:=K.1.trans (by simp[hl]);have k0:=A8 K 0 (by simp[h0]:_=sl m 4 (A4 R));have k2:=A8 K 2 (by simp[h2]:_=AV.fn C3 []);have k4:=A8 K 4 (by simp[hl]:_=AV.ptr 0 0);have k8:=A8 K 8 (by simp[hl]:_=AV.int .i64 R.length);clear K;have hh:=qw hR t i g1 g2;by_cases A7:i<R.length
  .have hx:=H9 A7;have hC:=j7 _ R[i] t (A0T _) (hs _ (A0S A7)) ht;have e:decide (H6 R[i] t=0)=J8 R t:=by
    rw[A0s,decide_eq_true_iff,hh];exact⟨λh=>⟨A7,h⟩,λ⟨_,h⟩=>h⟩
   simp[A6,k0,k2,k4,k8,k9,A7,hx,hC];exact hΨ _ ⟨i,by rw[e],hi,g1,g2⟩
  .have e:J8 R t=false:=by
    rw[Bool.eq_false_iff];intro h;obtain⟨h,-⟩:=hh.1 h;omega
   simp[A6,k8,k9,A7];exact hΨ _ ⟨i,by rw[e],hi,g1,g2⟩
@[simp] theorem scal2 (k:IntKind) (i:Int) (b:Bool):(AV.tup [.int k i,.bool b]).scalar=true:=rfl
theorem Kg (m:I7) (R:G7) (t:Tm) (hR:X9 R) (B8:R.length<=1099511627776) (hs:∀x∈R,x.size<=1099511627776) (ht:t.size<=1099511627776) :
  pc Q O5 [sl m 4 (A4 R),B9 t]=some (.bool (J8 R t)):=by
 obtain⟨i,-,-,-,hB⟩:=wZ m R t hR B8 hs ht;refine O9 Hp λfr hl h0 h1=>?_;simp[Hp]at hl h0 h1;simp[Hp,hl,h0,h1,hB]
def XM (R:List Tm) (i:Nat) (t:Tm):List Tm:=R.take i++t::R.drop i
theorem gE (m:I7) (xs:G3) (Zm:xs.length<=1048576) (h:AH):∃w h',rc Q K4 [sl m 4 xs] h=some (w,h')/\mC h.fams.length 4 xs w h'/\h'.boxes=h.boxes/\∃e,h'.fams=h.fams++e:=by
 have hr:xs.length*56<=H2/\xs.length<=maxLen:=by simp only[H2,maxLen];omega
 suffices hq:∃w h',rc Q K4 [sl m 4 xs] h=some (w,h')/\∀Ψ:AV->AH->Prop,(∀w h',mC h.fams.length 4 xs w h'/\h'.boxes=h.boxes/\(∃e,h'.fams=h.fams++e)->Ψ w h')->Ψ w h' by
  obtain⟨w,h',h1,h2⟩:=hq;exact⟨w,h',h1,h2 _ λ_ _ h=>h⟩
 refine gC Z0 λfr hl h0=>?_;simp[Z0]at hl h0;by_cases he:xs=[]
 .subst he;obtain⟨m1,m2⟩:=m;cases m2 with
  |false =>
   simp[Z0,hl,h0,Td];exact λΨ hΨ=>hΨ _ _ (.inl ⟨rfl,false,Il 4⟩) rfl [] (by simp)
  |true =>
   simp[Z0,hl,h0,Td,GY,A5];exact λΨ hΨ=>hΨ _ _ (.inl ⟨rfl,true,rfl⟩) rfl [] (by simp)
 .have he':xs.isEmpty=false:=by simpa using he
  simp[Z0,hl,h0,Td,he',GY,A5,he,hr,show Yu K4=true from rfl];exact λΨ hΨ=>hΨ _ _ (.inr ⟨he,rfl,by simp⟩) rfl _ rfl
theorem eJ (R:G7) (i:Nat) (t:Tm):A4 (XM R i t)=(A4 R).take i++B9 t::(A4 R).drop i:=by
 rw[XM,D0,D0,A0Y,A0f,List.map_take,List.map_drop]
theorem qy {R:G7} (hR:X9 R) (t:Tm) {i:Nat} (hi:i<=R.length) (h1:∀j (hj:j<R.length),j<i->H6 R[j] t<0) (h2:∀j (hj:j<R.length),i<=j->0<=H6 R[j] t) (hn:J8 R t=false) :
  X9 (XM R i t)/\∀e,e∈(XM R i t).map E3↔e=E3 t\/e∈R.map E3:=by
 have Ym:∀x∈R,H6 x t≠0:=by
  intro x hx hc;have:J8 R t=true:=by
   simp only[J8,A0p,JK,decide_eq_true_eq];exact⟨x,hx,hc⟩
  rw[this]at hn;cases hn
 have ha:∀x∈R.take i,H6 x t<0:=by
  intro x hx;obtain⟨j,hj,rfl⟩:=A0d hx;rw[A0a]at hj;rw[List.getElem_take];exact h1 j (by omega) (by omega)
 have hb:∀x∈R.drop i,H6 t x<0:=by
  intro x hx;have hm:=A0l hx;obtain⟨j,hj,rfl⟩:=A0d hx;rw[A0h]at hj;rw[List.getElem_drop]at hm ⊢;have a:=h2 (i+j) (by omega) (by omega);have b:=Ym _ hm;exact KV.1.2 (by omega)
 refine⟨?_,λe=>?_⟩
 .unfold X9 XM;rw[List.pairwise_append];refine⟨hR.sublist (List.take_sublist i R),List.pairwise_cons.2 ⟨hb,hR.sublist (List.drop_sublist i R)⟩,λx hx y hy=>?_⟩;rcases A0m.1 hy with rfl|hy
  .exact ha x hx
  .exact GZ (ha x hx) (hb y hy)
 .have:e∈R.map E3↔e∈(R.take i).map E3\/e∈(R.drop i).map E3:=by
   rw[←A0j,←A0Y,A0b]
  rw[this,XM,A0Y,A0f,A0j,A0m];constructor
  .rintro(h|h|h)
   .exact .inr (.inl h)
   .exact .inl h
   .exact .inr (.inr h)
  .rintro(h|h|h)
   .exact .inr (.inl h)
   .exact .inl h
   .exact .inr (.inr h)
theorem eI (K b:Nat) (O:Orc) (args:G3) (h:AH):(ml K b).run O args h=Ps K b args h:=rfl
theorem yS {k:Nat} {xs:G3} {w x:AV} {h:AH} (hg:mC k 4 xs w h) (hx:x.isAgg=true) (i:Nat) (hi:i<=xs.length) (hl:xs.length<=1048576) :
  ∃h' k',rc Q N3 [w,.int .i64 (i:Nat),sl (true,true) 4 [x]] h=some (.sl k' (xs.length+1) 0 (xs.length+1),h')/\h'.boxes=h.boxes/\∃b,h'.fams[k']?=some ⟨xs.take i++x::xs.drop i,4,b⟩:=by
 have e1:sl (true,true) 4 [x]=.vs true 4 [x]:=by simp[sl]
 rcases hg with ⟨rfl,b,rfl⟩|⟨P0,rfl,hk⟩
 .have hi0:i=0:=by simpa using hi
  subst hi0;refine⟨⟨h.boxes,h.fams++[⟨[x],4,true⟩]⟩,h.fams.length,ON (s:=ml 4 56) rfl rfl ?_,rfl,true,by simp⟩;rw[e1];rw[eI];simp only[sl,Ps];rw[if_pos ⟨trivial,hx⟩,if_pos (by decide)];rfl
 .have Do:=H3 hk;refine⟨⟨h.boxes,h.fams.set k ⟨xs.take i++x::xs.drop i,4,true⟩⟩,k,ON (s:=ml 4 56) rfl rfl ?_,rfl,true,by simp[Do]⟩;rw[e1];rw[eI];simp only[Ps,hk];rw[if_pos ⟨trivial,hx⟩,if_pos ⟨trivial,trivial,trivial,List.length_pos_iff.2 P0,trivial,trivial,by omega,by omega,by simp only[H2];omega,by simp only[maxLen];omega⟩];simp
theorem vk (m:I7) (R:G7) (t:Tm) (hR:X9 R) (B8:R.length<=1048576) (hs:∀x∈R,x.size<=1099511627776) (ht:t.size<=1099511627776) (hn:J8 R t=false) :
  ∃(R':List Tm) (m':Bool×Bool),pc Q AT [sl m 4 (A4 R),B9 t]=some (sl m' 4 (A4 R'))/\X9 R'/\(∀e,e∈R'.map E3↔e=E3 t\/e∈R.map E3)/\(∀x∈R',x=t\/x∈R)/\R'.length=R.length+1:=by
 obtain⟨i,hi,g1,g2,hB⟩:=wZ m R t hR (by omega) hs ht;obtain⟨s1,s2⟩:=qy hR t hi g1 g2 hn;rw[hn]at hB;have hlR:(A4 R).length=R.length:=by rw[D0,A0X]
 suffices h:∃v,pc Q AT [sl m 4 (A4 R),B9 t]=some v/\∃q:Bool×Bool,v=sl q 4 (A4 (XM R i t)) by
  obtain⟨v,h1,q,rfl⟩:=h;refine⟨XM R i t,q,h1,s1,s2,λx hx=>?_,?_⟩
  .rw[XM]at hx;rcases A0j.1 hx with h|h
   .exact .inr (List.mem_of_mem_take h)
   .rcases A0m.1 h with rfl|h
    .exact .inl rfl
    .exact .inr (A0l h)
  .rw[XM,A0V,A0g,A0a,A0h];omega
 obtain⟨w,⟨B,F⟩,hC,hg,hb,hf⟩:=gE m (A4 R) (by omega) ⟨[(B9 t).cells],[]⟩;simp only at hb;subst hb;obtain⟨⟨B',F'⟩,k',hI,hb',b,Dt⟩:=yS (x:=B9 t) hg (by cases t;rfl) i (by omega) (by omega);simp only at hb';subst hb';rw[hlR]at hI;rw[←eJ]at Dt;have hz:Ej ⟨[(B9 t).cells],F'⟩ true (.sl k' (R.length+1) 0 (R.length+1))=some (sl (false,true) 4 (A4 (XM R i t))):=JQ Dt (by
  rw[eJ,A0V,A0g,A0a,A0h,hlR];omega)
 obtain⟨c1,c2,c3⟩:=Ur hg;simp only[I1]at hC hI hz;refine Sp Gr λΨ hΨ fr hl h0 h1=>?_;simp[Gr]at hl h0 h1;simp[Gr,hl,h0,h1,hB,hC,hI,hz,A5];exact hΨ _ ⟨_,rfl⟩
end Go.Abs.Q
namespace Go.Abs.Q
open Go.Proofs
attribute [local simp] E1 E5 fin J7 G4 O2 L3 P2 P1
def uH:List (ByteArray×Int×Int×Int):=[(bs [112,97,105,114],2,2,1),(bs [101,110,99],2,2,1),(bs [97,101,110,99],2,2,1),(bs [112,107],1,1,1),(bs [115,105,103,110],2,2,1),(bs [104,97,115,104],1,1,1),(bs [120,111,114],2,8,1),(bs [122,101,114,111],0,0,1),(bs [101,120,112],2,2,1),(bs [109,117,108],2,8,1),(bs [105,110,118],1,1,1),(bs [111,110,101],0,0,1),(bs [115,107],1,1,2),(bs [115,104,107],2,2,2),(bs [110,101,119],1,8,2),(bs [102,115,116],1,1,3),(bs [115,110,100],1,1,3),(bs [100,101,99],2,2,3),(bs [97,100,101,99],2,2,3),(bs [111,112,101,110],2,2,3),(bs [114,101,97,100],1,1,3)]
def Hm (x:ByteArray×Int×Int×Int):AV:=.agg [.str x.1,.int .i64 x.2.1,.int .i64 x.2.2.1,.int .i64 x.2.2.2]
def zS:ByteArray×Int×Int×Int:=(bs [],0,0,0)
def NL (nm:ByteArray):ByteArray×Int×Int×Int:=(uH.find? λx=>decide (x.1=nm)).getD zS
theorem Dd (kd least most:Int) (nm:J2) (acc:G3) (v:AV) (F:List Fam) (hg:Dr 4 acc v ⟨[[v]],F⟩) (hb:acc.length<=100) :
  ∃(v':AV) (F':List Fam),rc Q T1 [.int .i64 kd,.str nm,.int .i64 least,.int .i64 most,.ptr 0 0] ⟨[[v]],F⟩=some (C5,⟨[[v']],F'⟩)/\Dr 4 (acc++[Hm (nm,least,most,kd)]) v' ⟨[[v']],F'⟩:=by
 obtain⟨v',⟨B',F'⟩,ha,g',hb'⟩:=Af (c:=D6 T1) (bytes:=40) (x:=Hm (nm,least,most,kd)) hg rfl (true,true) (by omega) (by omega);simp only at hb';subst hb'
 suffices hq:∃x h',rc Q T1 [.int .i64 kd,.str nm,.int .i64 least,.int .i64 most,.ptr 0 0] ⟨[[v]],F⟩=some (x,h')/\(x=C5/\h'=⟨[[v']],F'⟩) by
  obtain⟨x,h',h1,rfl,rfl⟩:=hq;exact⟨v',F',h1,Bg g' rfl⟩
 obtain⟨c1,c2,c3⟩:=L5 hg;obtain⟨c4,c5,c6⟩:=L5 g';simp only[Hm]at ha;refine rcQ Rg (by simp[FL]) λfr hl ha=>?_;have h0:=ha 0;have h1:=ha 1;have h2:=ha 2;have h3:=ha 3;have h4:=ha 4;clear ha;simp[FL]at hl h0 h1 h2 h3 h4;simp[FL,hl,h0,h1,h2,h3,h4,c3,c4,c5,ha,A5,D2,E6]
theorem jb:∃m,pc Q Y7 []=some (sl m 4 (uH.map Hm)):=by
 suffices h:∃v,pc Q Y7 []=some v/\∃q:Bool×Bool,v=sl q 4 (uH.map Hm) by
  obtain⟨v,h1,q,rfl⟩:=h;exact⟨q,h1⟩
 have g0:Dr 4 [] (.vs true 0 []) ⟨[[.vs true 0 []]],[]⟩:=Ct _ _;obtain⟨v1,F1,c1,g1⟩:=Dd 1 2 2 (bs [112,97,105,114]) _ _ _ g0 (by simp);obtain⟨v2,F2,c2,g2⟩:=Dd 1 2 2 (bs [101,110,99]) _ _ _ g1 (by simp);obtain⟨v3,F3,c3,g3⟩:=Dd 1 2 2 (bs [97,101,110,99]) _ _ _ g2 (by simp);obtain⟨v4,F4,c4,g4⟩:=Dd 1 1 1 (bs [112,107]) _ _ _ g3 (by simp);obtain⟨v5,F5,c5,g5⟩:=Dd 1 2 2 (bs [115,105,103,110]) _ _ _ g4 (by simp);obtain⟨v6,F6,c6,g6⟩:=Dd 1 1 1 (bs [104,97,115,104]) _ _ _ g5 (by simp);obtain⟨v7,F7,c7,g7⟩:=Dd 1 2 8 (bs [120,111,114]) _ _ _ g6 (by simp);obtain⟨v8,F8,c8,g8⟩:=Dd 1 0 0 (bs [122,101,114,111]) _ _ _ g7 (by simp);obtain⟨v9,F9,c9,g9⟩:=Dd 1 2 2 (bs [101,120,112]) _ _ _ g8 (by simp);obtain⟨v10,F10,c10,g10⟩:=Dd 1 2 8 (bs [109,117,108]) _ _ _ g9 (by simp);obtain⟨v11,F11,c11,g11⟩:=Dd 1 1 1 (bs [105,110,118]) _ _ _ g10 (by simp);obtain⟨v12,F12,c12,g12⟩:=Dd 1 0 0 (bs [111,110,101]) _ _ _ g11 (by simp);obtain⟨v13,F13,c13,g13⟩:=Dd 2 1 1 (bs [115,107]) _ _ _ g12 (by simp);obtain⟨v14,F14,c14,g14⟩:=Dd 2 2 2 (bs [115,104,107]) _ _ _ g13 (by simp);obtain⟨v15,F15,c15,g15⟩:=Dd 2 1 8 (bs [110,101,119]) _ _ _ g14 (by simp);obtain⟨v16,F16,c16,g16⟩:=Dd 3 1 1 (bs [102,115,116]) _ _ _ g15 (by simp);obtain⟨v17,F17,c17,g17⟩:=Dd 3 1 1 (bs [115,110,100]) _ _ _ g16 (by simp);obtain⟨v18,F18,c18,g18⟩:=Dd 3 2 2 (bs [100,101,99]) _ _ _ g17 (by simp);obtain⟨v19,F19,c19,g19⟩:=Dd 3 2 2 (bs [97,100,101,99]) _ _ _ g18 (by simp);obtain⟨v20,F20,c20,g20⟩:=Dd 3 2 2 (bs [111,112,101,110]) _ _ _ g19 (by simp);obtain⟨v21,F21,c21,g21⟩:=Dd 3 1 1 (bs [114,101,97,100]) _ _ _ g20 (by simp);have hg:Dr 4 (uH.map Hm) v21 ⟨[[v21]],F21⟩:=g21;clear g0 g1 g2 g3 g4 g5 g6 g7 g8 g9 g10 g11 g12 g13 g14 g15 g16 g17 g18 g19 g20 g21;obtain⟨m,hz⟩:=KS hg;obtain⟨d1,d2,d3⟩:=L5 hg;refine QE (C:=Q) ((Uq _).trans rfl) ((Qt _).trans Te) (by simp[Hd]) λΨ hΨ fr hl ha=>?_;rw[ZJ];clear ha;simp[Hd]at hl ;simp[Hd,hl,hz,d3,c1,c2,c3,c4,c5,c6,c7,c8,c9,c10,c11,c12,c13,c14,c15,c16,c17,c18,c19,c20,c21];exact hΨ _ ⟨m,rfl⟩
abbrev Sy:=ByteArray×Int×Int×Int
@[simp] theorem yc (x:Sy):(Hm x).cells=[.str x.1,.int .i64 x.2.1,.int .i64 x.2.2.1,.int .i64 x.2.2.2]:=rfl
@[simp] theorem yd (x:Sy):(Hm x).isTup=false:=rfl
theorem ev (m:I7) (l:List Sy) (nm:J2) (B8:l.length<=1048576) (fr:Fr) (h:AH) (hh:h.boxes=[(Hm zS).cells]) (hl:fr.length=18) (h0:A0 fr 0=.str nm) (h2:A0 fr 2=.ptr 0 0) (h5:A0 fr 5=sl m 4 (l.map Hm)) (h6:A0 fr 6=.int .i64 l.length) (h7:A0 fr 7=.int .i64 0) :
  B7 (lp (A2 (K8 Q) (D6 FW) Aq) (fr,h)) λe C4 h'=>Kp Aq.wr fr C4/\(e=.exit 0/\(∃B,h'.boxes=(Hm zS).cells::B)/\l.find? (λx=>decide (x.1=nm))=none\/e=.ret/\∃x B,h'.boxes=(Hm x).cells::B/\l.find? (λx=>decide (x.1=nm))=some x):=by
 refine B4 rfl fr (λn fr h'=>∃(i:Nat),i+n=l.length/\A0 fr 7=.int .i64 (i:Nat)/\((∃B,h'.boxes=(Hm zS).cells::B)/\(l.drop i).find? (λx=>decide (x.1=nm))=l.find? λx=>decide (x.1=nm))) ?_ l.length h ⟨0,by omega,h7,⟨[],hh⟩,rfl⟩;rintro J Φ hJ hΦ n D5 H1 K ⟨i,hi,k7,hr⟩;have A6:=K.1.trans hl;have k0:=A8 K 0 h0;have k2:=A8 K 2 h2;have k5:=A8 K 5 h5;have k6:=A8 K 6 h6;clear K;by_cases A7:i<l.length
 .have L4:=C6 i (by omega);obtain⟨⟨B,hB⟩,hr⟩:=hr;obtain⟨bx,F⟩:=H1;simp only at hB;subst hB;have hx:=G2 (f:=Hm) (A0Z A7);rw[A0Q A7,A0i]at hr;clear hh;generalize l[i]=s at *
  obtain⟨s1,s2,s3,s4⟩:=s;by_cases hc:s1=nm
  .subst hc;simp only[decide_true]at hr;simp only[Hm]at hx;simp[Aq,A6,k0,k2,k5,k6,k7,A7,hx,Hm,zS];exact hΦ _ _ _ (.inr ⟨rfl,(s1,s2,s3,s4),_,rfl,hr.symm⟩)
  .simp only[hc,decide_false]at hr;simp only[Hm]at hx;simp[Aq,A6,k0,k5,k6,k7,A7,L4,hx,Hm,zS,hc];exact E9 hJ ⟨i+1,by omega,by simp[A6],⟨_,rfl⟩,hr⟩
 .obtain⟨⟨B,hB⟩,hr⟩:=hr;rw[A0R (by omega)]at hr;simp[Aq,A6,k6,k7,A7];exact hΦ _ _ _ (.inl ⟨rfl,⟨B,hB⟩,hr.symm⟩)
theorem aM (nm:J2):pc Q FW [.str nm]=some (Hm (NL nm)):=by
 obtain⟨m,hS⟩:=jb;refine H5 MJ λfr hl h0=>?_;simp[MJ]at hl h0;simp[MJ,hl,hS];refine B7.mono (ev m uH nm (by decide) _ _ ?_ ?_ ?_ ?_ ?_ ?_ ?_) ?_<;>first|(simp[hl,h0,Hm,zS];done)|skip
 rintro e D5 ⟨bx,F⟩ ⟨K,⟨rfl,⟨B,hB⟩,hf⟩|⟨rfl,x,B,hB,hf⟩⟩
 .simp only at hB;subst hB;have J0:D5.length=18:=K.1.trans (by simp[hl]);have GK:A0 D5 2=.ptr 0 0:=A8 K 2 (by simp[hl]);clear K;simp[J0,GK,Hm,zS,D2,E6];simp[NL,hf,zS]
 .simp only at hB;subst hB;have J0:D5.length=18:=K.1.trans (by simp[hl]);have GK:A0 D5 2=.ptr 0 0:=A8 K 2 (by simp[hl]);clear K;simp[GK,Hm];simp[NL,hf]
def Du (nm:ByteArray):Int:=(NL nm).2.2.2
def Lo (nm:ByteArray) (n:Int):Bool:=decide ((NL nm).2.1<=n)&&decide (n<=(NL nm).2.2.1)
def EE (t:Tm):Bool:=decide (t.kind=3)||decide (t.sort≠1)
def Yh (nm:ByteArray) (l:List Tm):Int :=
 if nm=bs [115,107]\/nm=bs [115,104,107]then (if l.any EE=true then 10 else 0)
 else if nm=bs [110,101,119]then (match l with | []=>0|a::_=>if a.kind=2 then 0 else 10)else 0
mutual
def Ue:Tm->Int
 | .mk k nm _ _ l=>if k≠3 then 0 else if Du nm=0 then 10 else if Lo nm l.length=false then 6 else if Yh nm l≠0 then Yh nm l else NM l
def NM:List Tm->Int
 | []=>0
 |t::l=>if Ue t≠0 then Ue t else NM l
end
theorem VV (t:Tm) (l:G7):NM (t::l)=if Ue t≠0 then Ue t else NM l:=rfl
theorem vM (m:I7) (l:G7) (B8:l.length<=1099511627776) (fr:Fr) (h:AH) (hl:fr.length=74) (h38:A0 fr 38=sl m 4 (A4 l)) (h39:A0 fr 39=.int .i64 l.length) (h40:A0 fr 40=.int .i64 0) :
  B7 (lp (A2 (K8 Q) (D6 AW) AC) (fr,h)) λe C4 h'=>Kp AC.wr fr C4/\(e=.exit 1/\(∃B,h'.boxes=h.boxes++B)/\l.any EE=false\/e=.ret/\A0 C4 2=.int .i64 10/\l.any EE=true):=by
 refine B4 rfl fr (λn fr h'=>∃(i:Nat),i+n=l.length/\A0 fr 40=.int .i64 (i:Nat)/\((∃B,h'.boxes=h.boxes++B)/\(l.drop i).any EE=l.any EE)) ?_ l.length h ⟨0,by omega,h40,⟨[],by simp⟩,rfl⟩;rintro J Φ hJ hΦ n D5 H1 K ⟨i,hi,k40,hr⟩;have A6:=K.1.trans hl;have k38:=A8 K 38 h38;have k39:=A8 K 39 h39;clear K;by_cases A7:i<l.length
 .have L4:=C6 i (by omega);obtain⟨⟨B,hB⟩,hr⟩:=hr;obtain⟨bx,F⟩:=H1;simp only at hB;have hx:=H9 A7;rw[A0Q A7,A0x]at hr;generalize l[i]=s at *
  by_cases hc:EE s=true
  .rw[hc,A0y]at hr;by_cases hk:s.kind=3
   .simp[AC,A6,k38,k39,k40,A7,hx,hk];exact hΦ _ _ _ (.inr ⟨rfl,by simp[A6],hr.symm⟩)
   .have hs:s.sort≠1:=by simpa[EE,hk]using hc
    simp[AC,A6,k38,k39,k40,A7,hx,hk,hs];exact hΦ _ _ _ (.inr ⟨rfl,by simp[A6],hr.symm⟩)
  .simp only[EE,A0t,decide_eq_true_eq,not_or,ne_eq,Decidable.not_not]at hc;have hn:EE s=false:=by simp[EE,hc]
   rw[hn,A0w]at hr;have hk:=hc.1;have hs:=hc.2;clear hc hn;simp[AC,A6,k38,k39,k40,A7,L4,hx,hk,hs];exact E9 hJ ⟨i+1,by omega,by simp[A6],⟨B++[[.int .i64 s.kind,.str s.name,.int .i64 1,sl s.cm 4 (A4 s.kids)]],by simp[hB]⟩,hr⟩
 .obtain⟨⟨B,hB⟩,hr⟩:=hr;rw[A0R (by omega)]at hr;simp[AC,A6,k39,k40,A7];exact hΦ _ _ _ (.inl ⟨rfl,⟨B,hB⟩,hr.symm⟩)
theorem eZ (m:I7) (l:G7) (B8:l.length<=1099511627776) (IH:∀t∈l,pc Q AW [B9 t]=some (.int .i64 (Ue t))) (fr:Fr) (h:AH) (hl:fr.length=74) (h62:A0 fr 62=sl m 4 (A4 l)) (h63:A0 fr 63=.int .i64 l.length) (h64:A0 fr 64=.int .i64 0) :
  B7 (lp (A2 (K8 Q) (D6 AW) Bd) (fr,h)) λe C4 h'=>Kp Bd.wr fr C4/\(e=.exit 3/\NM l=0\/e=.ret/\A0 C4 2=.int .i64 (NM l)):=by
 refine B4 rfl fr (λn fr h'=>∃(i:Nat),i+n=l.length/\A0 fr 64=.int .i64 (i:Nat)/\(NM (l.drop i)=NM l)) ?_ l.length h ⟨0,by omega,h64,rfl⟩;rintro J Φ hJ hΦ n D5 H1 K ⟨i,hi,k64,hr⟩;have A6:=K.1.trans hl;have k62:=A8 K 62 h62;have k63:=A8 K 63 h63;clear K;by_cases A7:i<l.length
 .have L4:=C6 i (by omega);have hx:=H9 A7;have hI:=IH l[i] (A0S A7);rw[A0Q A7,VV]at hr;obtain⟨bx,F⟩:=H1;generalize l[i]=s at *
  by_cases hc:Ue s=0
  .rw[if_neg (by simp[hc])]at hr;rw[hc]at hI;simp[Bd,A6,k62,k63,k64,A7,L4,hx,hI];exact E9 hJ ⟨i+1,by omega,by simp[A6],hr⟩
  .rw[if_pos hc]at hr;simp[Bd,A6,k62,k63,k64,A7,hx,hI,hc];exact hΦ _ _ _ (.inr ⟨rfl,by simp[A6,hr]⟩)
 .rw[A0R (by omega)]at hr;simp[Bd,A6,k63,k64,A7];exact hΦ _ _ _ (.inl ⟨rfl,hr.symm⟩)
theorem fD {n:Nat} (h:Lo (bs [110,101,119]) n=true):1<=n:=by
 have e:(NL (bs [110,101,119])).2.1=1:=by decide
 simp only[Lo,e,A0o,decide_eq_true_eq]at h;omega
theorem ti (t:Tm) (h:t.kind≠3):Ue t=0:=by
 obtain⟨k,nm,s,m,l⟩:=t;have h:k≠3:=h;rw[Ue,if_pos h]
theorem lm {k:Int} {nm:J2} {s:Int} {m:I7} {l:G7} (h:k=3):Ue (.mk k nm s m l)=if Du nm=0 then 10 else if Lo nm l.length=false then 6 else if Yh nm l≠0 then Yh nm l else NM l:=by
 rw[Ue,if_neg (by simp[h])]
theorem oc:∀(n:Nat) (t:Tm),t.size<=n->t.size<=1099511627776->pc Q AW [B9 t]=some (.int .i64 (Ue t)):=by
 intro n
 induction n with
 |zero=>intro t h;have:=t.size_pos;omega
 |succ n ih =>
  intro t hn hb;obtain⟨k,nm,s,m,kids⟩:=t;have J4:Tm.size (.mk k nm s m kids)=1+Tm.sizes kids:=rfl;have B8:=Tm.length_le kids;have hS:=aM nm;have hlp0:=eZ m kids (by omega) (λt ht=>ih t (by have:=Tm.size_le ht;omega) (by have:=Tm.size_le ht;omega));have hlp1:=vM m kids (by omega);clear ih;by_cases hk:k=3
  .subst hk;rw[lm rfl];by_cases hkd:Du nm=0
   .rw[if_pos hkd];simp only[Du]at hkd;generalize NL nm=q at *
    obtain⟨q1,q2,q3,q4⟩:=q;simp only[Hm]at hS hkd;refine H5 H0 λfr hl h0=>?_;simp[H0,B9]at hl h0;simp[H0,hl,h0,hS,hkd]
   .rw[if_neg hkd];by_cases hf:Lo nm kids.length=false
    .rw[if_pos hf];simp only[Du]at hkd;simp only[Lo]at hf;generalize NL nm=q at *
     obtain⟨q1,q2,q3,q4⟩:=q;simp only[Hm]at hS hkd hf;refine H5 H0 λfr hl h0=>?_;simp[H0,B9]at hl h0;by_cases h2:(kids.length:Int)<q2
     .simp[H0,hl,h0,hS,hkd,h2]
     .have h3:q3<(kids.length:Int):=by
       rw[Bool.and_eq_false_iff]at hf;rcases hf with hf|hf
       .simp only[decide_eq_false_iff_not]at hf;omega
       .simp only[decide_eq_false_iff_not]at hf;omega
      simp[H0,hl,h0,hS,hkd,h2,h3]
    .have hf':Lo nm kids.length=true:=by simpa using hf
     rw[if_neg hf];have hnf:=@fD kids.length;have Dn:¬((kids.length:Int)<(NL nm).2.1)/\¬((NL nm).2.2.1<(kids.length:Int)):=by
      simp only[Lo,A0o,decide_eq_true_eq]at hf';omega
     obtain⟨hf1,hf2⟩:=Dn;have Cy:nm=bs [110,101,119]->1<=kids.length:=λe=>hnf (by rw[←e];exact hf');clear hf hf' hnf;simp only[Du]at hkd;generalize NL nm=q at *
     obtain⟨q1,q2,q3,q4⟩:=q;simp only[Hm]at hS hkd hf1 hf2;by_cases hsk:nm=bs [115,107]\/nm=bs [115,104,107]
     .have hag:Yh nm kids=if kids.any EE=true then 10 else 0:=by unfold Yh;rw[if_pos hsk]
      rw[hag];clear Cy hag;generalize kids.any EE=b at hlp1 ⊢;have hmain:∀(nm':ByteArray),nm'=nm->(nm'=bs [115,107]\/nm'≠bs [115,107]/\nm'=bs [115,104,107])->pc Q AW [B9 (.mk 3 nm s m kids)]=some (.int .i64 (if (if b=true then (10:Int)else 0)≠0 then if b=true then 10 else 0 else NM kids)):=by
       intro nm' e hn2;subst e;refine H5 H0 λfr hl h0=>?_;simp[H0,B9]at hl h0;rcases hn2 with hn2|⟨hn1,hn2⟩
       .subst hn2;simp[H0,hl,h0,hS,hkd,hf1,hf2];refine B7.mono (hlp1 _ _ ?_ ?_ ?_ ?_) ?_<;>first|(simp[hl];done)|skip
        rintro e R1 ⟨bx,F⟩ ⟨K,⟨rfl,⟨B,hB⟩,ha⟩|⟨rfl,k2,ha⟩⟩
        .simp only at hB;subst hB;have CK:R1.length=74:=K.1.trans (by simp[hl]);have k1:A0 R1 1=.ptr 0 0:=A8 K 1 (by simp[hl]);clear K;simp[CK,k1,ha];refine B7.mono (hlp0 _ _ ?_ ?_ ?_ ?_) ?_<;>first|(simp[CK];done)|skip
         rintro e fr3 h3 ⟨K,⟨rfl,he⟩|⟨rfl,h2⟩⟩
         .have hl3:fr3.length=74:=K.1.trans (by simp[CK]);simp[hl3,he]
         .simp[h2]
        .simp[k2,ha]
       .subst hn2;simp[H0,hl,h0,hS,hkd,hf1,hf2,hn1];refine B7.mono (hlp1 _ _ ?_ ?_ ?_ ?_) ?_<;>first|(simp[hl];done)|skip
        rintro e R1 ⟨bx,F⟩ ⟨K,⟨rfl,⟨B,hB⟩,ha⟩|⟨rfl,k2,ha⟩⟩
        .simp only at hB;subst hB;have CK:R1.length=74:=K.1.trans (by simp[hl]);have k1:A0 R1 1=.ptr 0 0:=A8 K 1 (by simp[hl]);clear K;simp[CK,k1,ha];refine B7.mono (hlp0 _ _ ?_ ?_ ?_ ?_) ?_<;>first|(simp[CK];done)|skip
         rintro e fr3 h3 ⟨K,⟨rfl,he⟩|⟨rfl,h2⟩⟩
         .have hl3:fr3.length=74:=K.1.trans (by simp[CK]);simp[hl3,he]
         .simp[h2]
        .simp[k2,ha]
      refine hmain nm rfl ?_;by_cases h1:nm=bs [115,107]
      .exact .inl h1
      .exact .inr ⟨h1,hsk.resolve_left h1⟩
     .have hsk1:nm≠bs [115,107]:=λe=>hsk (.inl e);have hsk2:nm≠bs [115,104,107]:=λe=>hsk (.inr e);by_cases hn1:nm=bs [110,101,119]
      .have Do:=Cy hn1;subst hn1;cases kids with
       |nil=>simp at Do
       |cons a kids =>
        have hag:Yh (bs [110,101,119]) (a::kids)=if a.kind=2 then 0 else 10:=by unfold Yh;rw[if_neg hsk,if_pos rfl]
        rw[hag];have hx:KN (A4 (a::kids)) 0=some (B9 a):=H9 (l:=a::kids) (i:=0) (by simp);generalize a::kids=kids' at *
        by_cases ha:a.kind=2
        .refine H5 H0 λfr hl h0=>?_;simp[H0,B9]at hl h0;simp[H0,hl,h0,hS,hkd,hf1,hf2,hsk1,hsk2,hx,ha];refine B7.mono (hlp0 _ _ ?_ ?_ ?_ ?_) ?_<;>first|(simp[hl];done)|skip
         rintro e fr3 h3 ⟨K,⟨rfl,he⟩|⟨rfl,h2⟩⟩
         .have hl3:fr3.length=74:=K.1.trans (by simp[hl]);simp[hl3,he]
         .simp[h2]
        .refine H5 H0 λfr hl h0=>?_;simp[H0,B9]at hl h0;simp[H0,hl,h0,hS,hkd,hf1,hf2,hsk1,hsk2,hx,ha]
      .have hag:Yh nm kids=0:=by unfold Yh;rw[if_neg hsk,if_neg hn1]
       rw[hag];refine H5 H0 λfr hl h0=>?_;simp[H0,B9]at hl h0;simp[H0,hl,h0,hS,hkd,hf1,hf2,hsk1,hsk2,hn1];refine B7.mono (hlp0 _ _ ?_ ?_ ?_ ?_) ?_<;>first|(simp[hl];done)|skip
       rintro e fr3 h3 ⟨K,⟨rfl,he⟩|⟨rfl,h2⟩⟩
       .have hl3:fr3.length=74:=K.1.trans (by simp[hl]);simp[hl3,he]
       .simp[h2]
  .rw[ti (.mk k nm s m kids) hk];refine H5 H0 λfr hl h0=>?_;simp[H0,B9]at hl h0;simp[H0,hl,h0,hk]
def vE (t:Tm):Int:=if R4 t≠0 then R4 t else Ue t
theorem NF (t:Tm) (hb:t.size<=1099511627776):pc Q Gj [B9 t]=some (.int .i64 (vE t)):=by
 have h1:=HS t hb;have h2:=oc _ t (A0T _) hb;unfold vE;by_cases hv:R4 t=0
 .rw[if_neg (by simp[hv])];rw[hv]at h1;refine H5 Ee λfr hl h0=>?_;simp[Ee]at hl h0;simp[Ee,hl,h0,h1,h2]
 .rw[if_pos hv];refine H5 Ee λfr hl h0=>?_;simp[Ee]at hl h0;simp[Ee,hl,h0,h1,hv]
theorem TC:pc Q FT []=some (sl (true,true) 4 (uH.map Hm)):=by
 refine aA UY rfl (by simp[If]) λfr hl ha=>?_;clear ha;simp[If]at hl ;simp[If,hl,D2,E6,A5];rfl
theorem mw (m:I7) (l:List Sy) (nm:J2) (B8:l.length<=1048576) (fr:Fr) (h:AH) (hl:fr.length=24) (h0:A0 fr 0=.str nm) (h3:A0 fr 3=sl m 4 (l.map Hm)) (h4:A0 fr 4=.int .i64 0) :
  B7 (lp (A2 (K8 Q) (D6 HM) EK) (fr,h)) λe C4 h'=>Kp EK.wr fr C4/\(e=.exit 0/\l.find? (λx=>decide (x.1=nm))=none\/e=.ret/\∃x:Sy,A0 C4 2=.int .i64 x.2.2.2/\l.find? (λx=>decide (x.1=nm))=some x):=by
 refine B4 rfl fr (λn fr h'=>∃(i:Nat),i+n=l.length/\A0 fr 4=.int .i64 (i:Nat)/\(l.drop i).find? (λx=>decide (x.1=nm))=l.find? λx=>decide (x.1=nm)) ?_ l.length h ⟨0,by omega,h4,rfl⟩;rintro J Φ hJ hΦ n D5 H1 K ⟨i,hi,k4,hr⟩;have A6:=K.1.trans hl;have k0:=A8 K 0 h0;have k3:=A8 K 3 h3;clear K;by_cases A7:i<l.length
 .have L4:=C6 i (by omega);have hx:=G2 (f:=Hm) (A0Z A7);rw[A0Q A7,A0i]at hr;generalize l[i]=s at *
  obtain⟨s1,s2,s3,s4⟩:=s;simp only[Hm]at hx;by_cases hc:s1=nm
  .subst hc;simp only[decide_true]at hr;simp[EK,A6,k0,k3,k4,A7,hx];exact hΦ _ _ _ (.inr ⟨rfl,(s1,s2,s3,s4),by simp[A6],hr.symm⟩)
  .simp only[hc,decide_false]at hr;simp[EK,A6,k0,k3,k4,A7,L4,hx,hc];exact E9 hJ ⟨i+1,by omega,by simp[A6],hr⟩
 .rw[A0R (by omega)]at hr;simp[EK,A6,k3,k4,A7];exact hΦ _ _ _ (.inl ⟨rfl,hr.symm⟩)
theorem cE (nm:J2):pc Q HM [.str nm]=some (.int .i64 (Du nm)):=by
 have hS:=TC;refine H5 QT λfr hl h0=>?_;simp[QT]at hl h0;simp[QT,hl,hS];refine B7.mono (mw (true,true) uH nm (by decide) _ _ ?_ ?_ ?_ ?_) ?_<;>first|(simp[hl,h0];done)|skip
 rintro e D5 h1 ⟨K,⟨rfl,hf⟩|⟨rfl,x,k2,hf⟩⟩
 .have A6:D5.length=24:=K.1.trans (by simp[hl]);simp[A6,Du,NL,hf,zS]
 .simp[k2,Du,NL,hf]
theorem nO (m m':I7) (l:List Sy) (nm:J2) (x0 x2:AV) (kids:G7) (B8:l.length<=1048576) (fr:Fr) (h:AH) (hh:h=⟨[[x0,.str nm,x2,sl m' 4 (A4 kids)]],[]⟩) (hl:fr.length=40) (h1:A0 fr 1=.ptr 0 0) (h3:A0 fr 3=sl m 4 (l.map Hm)) (h4:A0 fr 4=.int .i64 0) :
  B7 (lp (A2 (K8 Q) (D6 MU) Bz) (fr,h)) λe C4 h'=>Kp Bz.wr fr C4/\(e=.exit 0/\l.find? (λx=>decide (x.1=nm))=none\/e=.ret/\∃x:Sy,A0 C4 2=.bool (decide (x.2.1<=(kids.length:Int))&&decide ((kids.length:Int)<=x.2.2.1))/\l.find? (λx=>decide (x.1=nm))=some x):=by
 refine B4 rfl fr (λn fr h'=>∃(i:Nat),i+n=l.length/\A0 fr 4=.int .i64 (i:Nat)/\(h'=⟨[[x0,.str nm,x2,sl m' 4 (A4 kids)]],[]⟩/\(l.drop i).find? (λx=>decide (x.1=nm))=l.find? λx=>decide (x.1=nm))) ?_ l.length h ⟨0,by omega,h4,hh,rfl⟩;rintro J Φ hJ hΦ n D5 H1 K ⟨i,hi,k4,hr⟩;have A6:=K.1.trans hl;have k1:=A8 K 1 h1;have k3:=A8 K 3 h3;clear K;by_cases A7:i<l.length
 .have L4:=C6 i (by omega);obtain⟨rfl,hr⟩:=hr;have hx:=G2 (f:=Hm) (A0Z A7);rw[A0Q A7,A0i]at hr;clear hh;generalize l[i]=s at *
  obtain⟨s1,s2,s3,s4⟩:=s;simp only[Hm]at hx;by_cases hc:s1=nm
  .subst hc;simp only[decide_true]at hr;by_cases hd:s2<=(kids.length:Int)
   .simp[Bz,A6,k1,k3,k4,A7,hx,hd];exact hΦ _ _ _ (.inr ⟨rfl,(s1,s2,s3,s4),by simp[A6,hd],hr.symm⟩)
   .simp[Bz,A6,k1,k3,k4,A7,hx,hd];exact hΦ _ _ _ (.inr ⟨rfl,(s1,s2,s3,s4),by simp[A6,hd],hr.symm⟩)
  .simp only[hc,decide_false]at hr;simp[Bz,A6,k1,k3,k4,A7,L4,hx,hc];exact E9 hJ ⟨i+1,by omega,by simp[A6],rfl,hr⟩
 .obtain⟨rfl,hr⟩:=hr;rw[A0R (by omega)]at hr;simp[Bz,A6,k3,k4,A7];exact hΦ _ _ _ (.inl ⟨rfl,hr.symm⟩)
theorem ve (t:Tm) (hk:Du t.name≠0):pc Q MU [B9 t]=some (.bool (Lo t.name t.kids.length)):=by
 have hS:=TC;refine H5 QU λfr hl h0=>?_;simp[QU]at hl h0;simp[QU,hl,h0,hS];refine B7.mono (nO (true,true) t.cm uH t.name (.int .i64 t.kind) (.int .i64 t.sort) t.kids (by decide) _ _ ?_ ?_ ?_ ?_ ?_) ?_<;>first|(simp[hl];done)|skip
 rintro e D5 h1 ⟨K,⟨rfl,hf⟩|⟨rfl,x,k2,hf⟩⟩
 .exact absurd (by simp[Du,NL,hf,zS]) hk
 .simp[k2,Lo,NL,hf]
theorem eY (m:I7) (l:G7) (x0 x1 x2:AV) (B8:l.length<=1099511627776) (fr:Fr) (h:AH) (hh:h=⟨[[x0,x1,x2,sl m 4 (A4 l)]],[]⟩) (hl:fr.length=36) (h1:A0 fr 1=.ptr 0 0) (h3:A0 fr 3=.int .i64 0) :
  B7 (lp (A2 (K8 Q) (D6 JZ) x8) (fr,h)) λe C4 h'=>Kp x8.wr fr C4/\(e=.exit 0/\l.any EE=false\/e=.ret/\A0 C4 2=.bool false/\l.any EE=true):=by
 refine B4 rfl fr (λn fr h'=>∃(i:Nat),i+n=l.length/\A0 fr 3=.int .i64 (i:Nat)/\(h'=⟨[[x0,x1,x2,sl m 4 (A4 l)]],[]⟩/\(l.drop i).any EE=l.any EE)) ?_ l.length h ⟨0,by omega,h3,hh,rfl⟩;rintro J Φ hJ hΦ n D5 H1 K ⟨i,hi,k3,hr⟩;have A6:=K.1.trans hl;have k1:=A8 K 1 h1;clear K;by_cases A7:i<l.length
 .have L4:=C6 i (by omega);obtain⟨rfl,hr⟩:=hr;have hx:=H9 A7;rw[A0Q A7,A0x]at hr;clear hh;generalize l[i]=s at *
  by_cases hc:EE s=true
  .rw[hc,A0y]at hr;by_cases hk:s.kind=3
   .simp[x8,A6,k1,k3,A7,hx,hk];exact hΦ _ _ _ (.inr ⟨rfl,by simp[A6],hr.symm⟩)
   .have hs:s.sort≠1:=by simpa[EE,hk]using hc
    simp[x8,A6,k1,k3,A7,hx,hk,hs];exact hΦ _ _ _ (.inr ⟨rfl,by simp[A6],hr.symm⟩)
  .simp only[EE,A0t,decide_eq_true_eq,not_or,ne_eq,Decidable.not_not]at hc;have hn:EE s=false:=by simp[EE,hc]
   rw[hn,A0w]at hr;have hk:=hc.1;have hs:=hc.2;clear hc hn;simp[x8,A6,k1,k3,A7,L4,hx,hk,hs];exact E9 hJ ⟨i+1,by omega,by simp[A6],rfl,hr⟩
 .obtain⟨rfl,hr⟩:=hr;rw[A0R (by omega)]at hr;simp[x8,A6,k1,k3,A7];exact hΦ _ _ _ (.inl ⟨rfl,hr.symm⟩)
def uS (nm:ByteArray) (l:List Tm):Bool:=if nm=bs [110,101,119]then (match l with | []=>true|a::_=>decide (a.kind=2))else !(l.any EE)
theorem oa (t:Tm) (hb:t.size<=1099511627776) (hn:t.name=bs [110,101,119]->1<=t.kids.length):pc Q JZ [B9 t]=some (.bool (uS t.name t.kids)):=by
 have J4:=t.kids_size;have B8:=Tm.length_le t.kids;by_cases Cy:t.name=bs [110,101,119]
 .have hk:=hn Cy;have hx:KN (A4 t.kids) 0=some (B9 t.kids[0]):=H9 (l:=t.kids) (i:=0) (by omega);have e:uS t.name t.kids=decide (t.kids[0].kind=2):=by
   unfold uS;rw[if_pos Cy];clear hx J4 B8 hb hn;obtain⟨k,nm,s,m,l⟩:=t;cases l with
   |nil=>simp[Tm.kids]at hk
   |cons a l=>rfl
  rw[e];refine H5 EL λfr hl h0=>?_;simp[EL]at hl h0;simp[EL,hl,h0,Cy,hx]
 .have e:uS t.name t.kids=!(t.kids.any EE):=by unfold uS;rw[if_neg Cy]
  rw[e];have GW:=eY t.cm t.kids (.int .i64 t.kind) (.str t.name) (.int .i64 t.sort) (by omega);generalize t.kids.any EE=b at GW ⊢;refine H5 EL λfr hl h0=>?_;simp[EL]at hl h0;simp[EL,hl,h0,Cy];refine B7.mono (GW _ _ ?_ ?_ ?_ ?_) ?_<;>first|(simp[hl];done)|skip
  rintro e D5 h1 ⟨K,⟨rfl,ha⟩|⟨rfl,k2,ha⟩⟩
  .have A6:D5.length=36:=K.1.trans (by simp[hl]);simp[A6,ha]
  .simp[k2,ha]
theorem XP (nm:J2):Du nm=2↔nm=bs [115,107]\/nm=bs [115,104,107]\/nm=bs [110,101,119]:=by
 constructor
 .intro h;have hm:∀x∈uH,x.2.2.2=2->x.1=bs [115,107]\/x.1=bs [115,104,107]\/x.1=bs [110,101,119]:=by decide
  unfold Du NL at h;cases hf:uH.find? (λx=>decide (x.1=nm))with
  |none=>rw[hf]at h;exact absurd h (by decide)
  |some x =>
   rw[hf]at h;have h1:=List.find?_some hf;simp only[decide_eq_true_eq]at h1;rw[←h1];exact hm x (List.mem_of_find?_eq_some hf) h
 .rintro(rfl|rfl|rfl)<;>decide
theorem xE (nm:J2) (l:G7):Yh nm l=if Du nm=2/\uS nm l=false then 10 else 0:=by
 have hd1:(bs [115,107])≠bs [110,101,119]:=by decide
 have hd2:(bs [115,104,107])≠bs [110,101,119]:=by decide
 unfold Yh uS;by_cases h1:nm=bs [115,107]\/nm=bs [115,104,107]
 .have hk:Du nm=2:=(XP nm).2 (by rcases h1 with h|h;exact .inl h;exact .inr (.inl h))
  have hn:nm≠bs [110,101,119]:=by
   rcases h1 with rfl|rfl
   .exact hd1
   .exact hd2
  rw[if_pos h1,if_neg hn];cases l.any EE<;>simp[hk]
 .rw[if_neg h1];by_cases hn:nm=bs [110,101,119]
  .have hk:Du nm=2:=(XP nm).2 (.inr (.inr hn));rw[if_pos hn,if_pos hn];cases l with
   |nil=>simp
   |cons a l=>by_cases ha:a.kind=2<;>simp[hk,ha]
  .rw[if_neg hn,if_neg];rintro⟨h,-⟩;rcases (XP nm).1 h with h|h|h
   .exact h1 (.inl h)
   .exact h1 (.inr h)
   .exact hn h
theorem br (m:I7) (l:G7) (x0 x1 x2:AV) (B8:l.length<=1099511627776) (IH:∀t∈l,pc Q Fp [B9 t]=some (.int .i64 (Ue t))) (fr:Fr) (h:AH) (hh:h=⟨[[x0,x1,x2,sl m 4 (A4 l)]],[]⟩) (hl:fr.length=40) (h1:A0 fr 1=.ptr 0 0) (h4:A0 fr 4=.int .i64 0) :
  B7 (lp (A2 (K8 Q) (D6 Fp) Ca) (fr,h)) λe C4 h'=>Kp Ca.wr fr C4/\(e=.exit 0/\NM l=0\/e=.ret/\A0 C4 2=.int .i64 (NM l)):=by
 refine B4 rfl fr (λn fr h'=>∃(i:Nat),i+n=l.length/\A0 fr 4=.int .i64 (i:Nat)/\(h'=⟨[[x0,x1,x2,sl m 4 (A4 l)]],[]⟩/\NM (l.drop i)=NM l)) ?_ l.length h ⟨0,by omega,h4,hh,rfl⟩;rintro J Φ hJ hΦ n D5 H1 K ⟨i,hi,k4,hr⟩;have A6:=K.1.trans hl;have k1:=A8 K 1 h1;clear K;by_cases A7:i<l.length
 .have L4:=C6 i (by omega);obtain⟨rfl,hr⟩:=hr;have hx:=H9 A7;have hI:=IH l[i] (A0S A7);rw[A0Q A7,VV]at hr;clear hh;generalize l[i]=s at *
  by_cases hc:Ue s=0
  .rw[if_neg (by simp[hc])]at hr;rw[hc]at hI;simp[Ca,A6,k1,k4,A7,L4,hx,hI];exact E9 hJ ⟨i+1,by omega,by simp[A6],by simp,hr⟩
  .rw[if_pos hc]at hr;simp[Ca,A6,k1,k4,A7,hx,hI,hc];exact hΦ _ _ _ (.inr ⟨rfl,by simp[A6,hr]⟩)
 .obtain⟨rfl,hr⟩:=hr;rw[A0R (by omega)]at hr;simp[Ca,A6,k1,k4,A7];exact hΦ _ _ _ (.inl ⟨rfl,hr.symm⟩)
theorem jq:∀(n:Nat) (t:Tm),t.size<=n->t.size<=1099511627776->pc Q Fp [B9 t]=some (.int .i64 (Ue t)):=by
 intro n
 induction n with
 |zero=>intro t h;have:=t.size_pos;omega
 |succ n ih =>
  intro t hn hb;have J4:=t.kids_size;have B8:=Tm.length_le t.kids;have GW:=br t.cm t.kids (.int .i64 t.kind) (.str t.name) (.int .i64 t.sort) (by omega) (λt' ht=>by have:=Tm.size_le ht;exact ih t' (by omega) (by omega));clear ih;have hK:=cE t.name;have hF:=ve t;have hA:=oa t hb;have hfn:t.name=bs [110,101,119]->Lo t.name t.kids.length=true->1<=t.kids.length:=λe h=>fD (by rw[←e];exact h);have e:Ue t=if t.kind≠3 then 0 else if Du t.name=0 then 10 else if Lo t.name t.kids.length=false then 6 else if Yh t.name t.kids≠0 then Yh t.name t.kids else NM t.kids:=by
   obtain⟨k,nm,s,m,l⟩:=t;rw[Ue];rfl
  rw[e,xE];clear e;by_cases hk:t.kind=3
  .rw[if_neg (by simp[hk])];have hag:AV.agg [.int .i64 3,.str t.name,.int .i64 t.sort,sl t.cm 4 (A4 t.kids)]=B9 t:=by rw[←hk];exact Yb t
   by_cases hkd:Du t.name=0
   .rw[if_pos hkd];rw[hkd]at hK;refine H5 K5 λfr hl h0=>?_;simp[K5]at hl h0;simp[K5,hl,h0,hk,hK]
   .rw[if_neg hkd];have hF:=hF hkd;by_cases hf:Lo t.name t.kids.length=false
    .rw[if_pos hf];rw[hf]at hF;refine H5 K5 λfr hl h0=>?_;simp[K5]at hl h0;simp[K5,hl,h0,hk,hag,hK,hkd,hF]
    .rw[if_neg hf];have hf':Lo t.name t.kids.length=true:=by simpa using hf
     rw[hf']at hF;have hA:=hA (λe=>hfn e hf');by_cases hp:Du t.name=2
     .by_cases ha:uS t.name t.kids=false
      .rw[if_pos (by simp[hp,ha]),if_pos ⟨hp,ha⟩];rw[ha]at hA;rw[hp]at hK;refine H5 K5 λfr hl h0=>?_;simp[K5]at hl h0;simp[K5,hl,h0,hk,hag,hK,hF,hA]
      .rw[if_neg (by simp[ha])];have ha':uS t.name t.kids=true:=by simpa using ha
       rw[ha']at hA;rw[hp]at hK;refine H5 K5 λfr hl h0=>?_;simp[K5]at hl h0;simp[K5,hl,h0,hk,hag,hK,hF,hA];refine B7.mono (GW _ _ ?_ ?_ ?_ ?_) ?_<;>first|(simp[hl,hk];done)|skip
       rintro e D5 h1 ⟨K,⟨rfl,he⟩|⟨rfl,k2⟩⟩
       .have A6:D5.length=40:=K.1.trans (by simp[hl]);simp[A6,he]
       .simp[k2]
     .rw[if_neg (by simp[hp])];refine H5 K5 λfr hl h0=>?_;simp[K5]at hl h0;simp[K5,hl,h0,hk,hag,hK,hkd,hp,hF];refine B7.mono (GW _ _ ?_ ?_ ?_ ?_) ?_<;>first|(simp[hl,hk];done)|skip
      rintro e D5 h1 ⟨K,⟨rfl,he⟩|⟨rfl,k2⟩⟩
      .have A6:D5.length=40:=K.1.trans (by simp[hl]);simp[A6,he]
      .simp[k2]
  .rw[if_pos hk];refine H5 K5 λfr hl h0=>?_;simp[K5]at hl h0;simp[K5,hl,h0,hk]
theorem Rd (t:Tm) (hb:t.size<=1099511627776):pc Q IC [B9 t]=some (.int .i64 (vE t)):=by
 have h1:=Lv t hb;have h2:=jq _ t (A0T _) hb;unfold vE;by_cases hv:R4 t=0
 .rw[if_neg (by simp[hv])];rw[hv]at h1;refine H5 Fz λfr hl h0=>?_;simp[Fz]at hl h0;simp[Fz,hl,h0,h1,h2]
 .rw[if_pos hv];refine H5 Fz λfr hl h0=>?_;simp[Fz]at hl h0;simp[Fz,hl,h0,h1,hv]
def AQ:List ByteArray:=[bs [112,97,105,114],bs [101,110,99],bs [97,101,110,99],bs [112,107],bs [115,105,103,110],bs [104,97,115,104],bs [115,107],bs [115,104,107]]
def kN (t:Tm):Prop:=∀x∈Cu t,x.kind=3->x.name∈AQ
theorem kN.kid {t x:Tm} (h:kN t) (hx:x∈t.kids):kN x:=λy hy=>h y (by
 rw[AD,G0];exact List.mem_cons_of_mem _ (A0r.2 ⟨x,hx,hy⟩))
theorem kN.name {t:Tm} (h:kN t) (hk:t.kind=3):t.name∈AQ:=h t (by rw[AD];exact List.mem_cons_self) hk
theorem LY {nm:J2} (h:nm∈AQ):nm≠bs [102,115,116]/\nm≠bs [115,110,100]/\nm≠bs [100,101,99]/\nm≠bs [97,100,101,99]/\nm≠bs [111,112,101,110]/\nm≠bs [114,101,97,100]/\nm≠bs [120,111,114]/\nm≠bs [109,117,108]/\nm≠bs [105,110,118]/\nm≠bs [111,110,101]/\nm≠bs [101,120,112]/\nm≠bs [122,101,114,111]/\nm≠bs [110,101,119]/\Du nm≠3/\Du nm≠0:=by
 have:∀nm∈AQ,nm≠bs [102,115,116]/\nm≠bs [115,110,100]/\nm≠bs [100,101,99]/\nm≠bs [97,100,101,99]/\nm≠bs [111,112,101,110]/\nm≠bs [114,101,97,100]/\nm≠bs [120,111,114]/\nm≠bs [109,117,108]/\nm≠bs [105,110,118]/\nm≠bs [111,110,101]/\nm≠bs [101,120,112]/\nm≠bs [122,101,114,111]/\nm≠bs [110,101,119]/\Du nm≠3/\Du nm≠0:=by decide
 exact this nm h
theorem ef (m:I7) (l:G7) (nm:J2) (C0 C1:G3) (B8:l.length<=1048576) (IH:∀t∈l,∃t',pc Q r6 [B9 t]=some (.tup [B9 t',.int .i64 0])/\E3 t'=E3 t) (fr:Fr) (h:AH) (hh:h.boxes=[C0,C1,[.int .i64 3,.str nm,.int .i64 0,.vs true 0 []]]) (hl:fr.length=90) (h2:A0 fr 2=.ptr 1 0) (h4:A0 fr 4=.ptr 2 0) (h19:A0 fr 19=sl m 4 (A4 l)) (h20:A0 fr 20=.int .i64 l.length) (h21:A0 fr 21=.int .i64 0) :
  B7 (lp (A2 (K8 Q) (D6 r6) DW) (fr,h)) λe C4 h'=>Kp DW.wr fr C4/\e=.exit 0/\∃(B:List (List AV)) (v:AV) (done:List Tm),h'.boxes=C0::C1::[.int .i64 3,.str nm,.int .i64 0,v]::B/\Dr 4 (A4 done) v h'/\H4 done=H4 l:=by
 refine B4 rfl fr (λn fr h'=>∃(i:Nat),i+n=l.length/\A0 fr 21=.int .i64 (i:Nat)/\(∃(B:List (List AV)) (v:AV) (done:List Tm),h'.boxes=C0::C1::[.int .i64 3,.str nm,.int .i64 0,v]::B/\Dr 4 (A4 done) v h'/\H4 done=H4 (l.take i)/\done.length=i)) ?_ l.length h ⟨0,by omega,h21,[],_,[],hh,Ct _ _,by simp[H4],rfl⟩;rintro J Φ hJ hΦ n D5 H1 K ⟨i,hi,k21,hr⟩;have A6:=K.1.trans hl;have k2:=A8 K 2 h2;have k4:=A8 K 4 h4;have k19:=A8 K 19 h19;have k20:=A8 K 20 h20;clear K;by_cases A7:i<l.length
 .have L4:=C6 i (by omega);obtain⟨B,v,done,hB,hg,hd,Di⟩:=hr;obtain⟨bx,F⟩:=H1;simp only at hB;subst hB;have hx:=H9 A7;obtain⟨t',hI,ht⟩:=IH l[i] (A0S A7);have hda:(A4 done).length=done.length:=by rw[D0,A0X]
  obtain⟨v',⟨bx',F'⟩,ha,Z6,Qo⟩:=Af (c:=D6 r6) (bytes:=56) (x:=B9 t') (h:=⟨C0::C1::[.int .i64 3,.str nm,.int .i64 0,v]::(B++[(B9 l[i]).cells]++[(B9 t').cells]),F⟩) (Bg hg rfl) rfl (true,true) (by omega) (by omega);have e2:H4 (done++[t'])=H4 (l.take (i+1)):=by
   rw[A0W A7,E4,A0Y,←E4,hd,E4,E4,A0Y,A0f,A0z,A0f,A0z,ht]
  have hg2:Dr 4 (A4 (done++[t'])) v' ⟨bx',F'⟩:=by rw[P8];exact Z6
  clear ht hd hh;generalize l[i]=s at *
  simp only at Qo;subst Qo;simp only[I1,List.append_assoc,List.singleton_append]at ha;obtain⟨c1,c2,-⟩:=L5 Z6;simp[DW,A6,k4,k19,k20,k21,A7,L4,hx,hI,A5,ha,c1,c2];exact E9 hJ ⟨i+1,by omega,by simp[A6],_,v',done++[t'],rfl,Bg hg2 rfl,e2,by simp[Di]⟩
 .obtain⟨B,v,done,hB,hg,hd,Di⟩:=hr;obtain⟨bx,F⟩:=H1;simp only at hB;subst hB;rw[A0U (by omega)]at hd;simp[DW,A6,k20,k21,A7];exact hΦ _ _ _ ⟨rfl,B,v,done,rfl,hg,hd⟩
theorem fF {k:Int} {nm:J2} {s:Int} {n:Nat} (h:r8 k s nm n=0) (hk:k=3):s=0:=by
 subst hk;unfold r8 at h;by_cases hs:s=0
 .exact hs
 .rw[if_pos (.inr (.inl ⟨rfl,hs⟩))]at h;exact absurd h (by decide)
theorem oh:∀(n:Nat) (t:Tm),t.size<=n->t.size<=1048576->kN t->I8 t=0->∃t',pc Q r6 [B9 t]=some (.tup [B9 t',.int .i64 0])/\E3 t'=E3 t:=by
 intro n
 induction n with
 |zero=>intro t h;have:=t.size_pos;omega
 |succ n ih =>
  intro t hn hb hf Ym
  suffices h:∃v,pc Q r6 [B9 t]=some v/\∃t',v=.tup [B9 t',.int .i64 0]/\E3 t'=E3 t by
   obtain⟨v,h1,t',rfl,h2⟩:=h;exact⟨t',h1,h2⟩
  obtain⟨k,nm,s,m,kids⟩:=t;have J4:Tm.size (.mk k nm s m kids)=1+Tm.sizes kids:=rfl;have B8:=Tm.length_le kids;obtain⟨hno1,hno2⟩:=Q1 Ym;have GW:=ef m kids nm [.int .i64 k,.str nm,.int .i64 s,sl m 4 (A4 kids)] [.int .i64 0,.str (bs []),.int .i64 0,.vs true 0 []] (by omega) (λt ht=>ih t (by have:=Tm.size_le ht;omega) (by have:=Tm.size_le ht;omega) (hf.kid ht) (K0 hno2 t ht));clear ih;by_cases hk:k=3
  .obtain⟨n1,n2,n3,n4,n5,n6,n7,n8,n9,n10,n11,-⟩:=LY (hf.name hk);simp only[Tm.name]at n1 n2 n3 n4 n5 n6 n7 n8 n9 n10 n11;have hs0:=fF hno1 hk;subst hk hs0;refine GU Cs λΨ hΨ fr hl h0=>?_;simp[Cs,B9]at hl h0;simp[Cs,hl,h0,D2,E6];refine B7.mono (GW _ _ ?_ ?_ ?_ ?_ ?_ ?_ ?_) ?_<;>first|(simp[hl];done)|skip
   rintro e D5 ⟨bx,F⟩ ⟨K,rfl,B,v,done,hB,hg,hd⟩;simp only at hB;subst hB;have J0:D5.length=90:=K.1.trans (by simp[hl]);have FS:A0 D5 1=.ptr 0 0:=A8 K 1 (by simp[hl]);have GK:A0 D5 2=.ptr 1 0:=A8 K 2 (by simp[hl]);have Mt:A0 D5 4=.ptr 2 0:=A8 K 4 (by simp[hl]);clear K;obtain⟨mm,hz⟩:=PB hg;obtain⟨c1,c2,c3⟩:=L5 hg;simp[J0,FS,GK,Mt,hz,n1,n2,n3,n4,n5,n6,n7,n8,n9,n10,n11];exact hΨ _ ⟨.mk 3 nm 0 mm done,rfl,by simp[E3,hd]⟩
  .refine GU Cs λΨ hΨ fr hl h0=>?_;simp[Cs,B9]at hl h0;simp[Cs,hl,h0,hk];exact hΨ _ ⟨.mk k nm s m kids,rfl,rfl⟩
end Go.Abs.Q
