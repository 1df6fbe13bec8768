/- A part of the proof. -/
import Derived.Test.YtohjdamplbhdpaaGreatDoorSO13
set_option linter.all false
open List renaming getElem?_append_left->A0Q,mem_cons_self->A0R,getElem?_eq_getElem->A0T,mem_cons_of_mem->A0U,length_append->A0V,pairwise_cons->A0W,mem_cons->A0X,map_cons->A0Y,take_succ_eq_append_getElem->A0Z,mem_map->A0a,getElem_mem->A0b,getD_eq_getElem?_getD->A0c,length_cons->A0d,length_map->A0f,append_assoc->A0g,mem_of_getElem?->A0h,mem_map_of_mem->A0j,map_append->A0k,pairwise_iff_getElem->A0l,take_of_length_le->A0m,length_filter_le->A0n,append_nil->A0o,getElem?_set_ne->A0p,eq_nil_of_length_eq_zero->A0q,flatMap_append->A0r,replicate->A0s,getElem?_map->A0t,drop_eq_getElem_cons->A0u,take_length->A0w,drop_eq_nil_of_le->A0x,length->A0y,singleton_append->A0z,take_append_drop->A00,map_eq_nil_iff->A02,filter_append->A04,map_nil->A05,flatMap_cons->A06,mem_flatMap->A07,not_mem_nil->A08,take_left'->A1A,map_take->A1B,set_set->A1D
open Nat renaming le_refl->A0S
open Int renaming lt_or_eq_of_le->A0e,lt_or_le->A0v,lt_or_gt_of_ne->A03,le_total->A1C,not_lt->A1E
open Option renaming bind_some->A0i
open Array renaming getElem_toList->A01
open Bool renaming eq_iff_iff->A09
namespace Go.Abs.Q
open Go.Proofs
def T3 (x y z:Int):Prop:=(x<=0->y<=0->z<=0/\(z=0->x=0/\y=0))/\(0<=x->0<=y->0<=z/\(z=0->x=0/\y=0))
theorem ZO {x y z x' y' z':Int} (h:T3 x y z) (h':x=0->y=0->T3 x' y' z'):T3 (nz x x') (nz y y') (nz z z'):=by
 unfold T3 nz at *
 by_cases hx:x=0
 .by_cases hy:y=0
  .have hz:z=0:=by
    have h1:=(h.1 (by omega) (by omega)).1;have h2:=(h.2 (by omega) (by omega)).1;omega
   rw[if_pos hx,if_pos hy,if_pos hz];exact h' hx hy
  .rw[if_pos hx,if_neg hy];have hz:z≠0:=by
    intro hz;rcases A03 hy with hl|hl
    .exact hy ((h.1 (by omega) (by omega)).2 hz).2
    .exact hy ((h.2 (by omega) (by omega)).2 hz).2
   rw[if_neg hz];refine⟨λ_ hy'=>⟨(h.1 (by omega) hy').1,λe=>absurd e hz⟩,λ_ hy'=>⟨(h.2 (by omega) hy').1,λe=>absurd e hz⟩⟩
 .rw[if_neg hx];by_cases hy:y=0
  .rw[if_pos hy];have hz:z≠0:=by
    intro hz;rcases A03 hx with hl|hl
    .exact hx ((h.1 (by omega) (by omega)).2 hz).1
    .exact hx ((h.2 (by omega) (by omega)).2 hz).1
   rw[if_neg hz];refine⟨λhx' _=>⟨(h.1 hx' (by omega)).1,λe=>absurd e hz⟩,λhx' _=>⟨(h.2 hx' (by omega)).1,λe=>absurd e hz⟩⟩
  .rw[if_neg hy];refine⟨λa b=>?_,λa b=>?_⟩
   .have hz:z≠0:=λhz=>hx ((h.1 a b).2 hz).1;rw[if_neg hz];exact h.1 a b
   .have hz:z≠0:=λhz=>hx ((h.2 a b).2 hz).1;rw[if_neg hz];exact h.2 a b
theorem aw (a b c:Int):T3 (Hw a b) (Hw b c) (Hw a c):=by
 unfold T3 Hw;by_cases h1:a<b<;>by_cases h2:b<c<;>by_cases h3:a<c<;>by_cases h4:b<a<;>by_cases h5:c<b<;>by_cases h6:c<a<;>simp[h1,h2,h3,h4,h5,h6]<;>omega
theorem Pv:∀{a b c:List UInt8},Op.bytesLess a b=true->Op.bytesLess b c=true->Op.bytesLess a c=true
 | [],_,[],h,k=>by cases ‹List UInt8›<;>simp[Op.bytesLess]at h k
 | [],_,_::_,_,_=>rfl
 |x::a,[],c,h,_=>by simp[Op.bytesLess]at h
 |x::a,y::b,[],_,k=>by simp[Op.bytesLess]at k
 |x::a,y::b,z::c,h,k=>by
  have ih:=@Pv a b c;simp only[Op.bytesLess,Bool.or_eq_true,decide_eq_true_eq,Bool.and_eq_true,beq_iff_eq]at h k ⊢;rcases h with h|⟨rfl,h⟩
  .rcases k with k|⟨rfl,k⟩
   .exact .inl (UInt8.lt_trans h k)
   .exact .inl h
  .rcases k with k|⟨rfl,k⟩
   .exact .inl k
   .exact .inr ⟨rfl,ih h k⟩
theorem Pu:∀{a b:List UInt8},a≠b->Op.bytesLess a b=true\/Op.bytesLess b a=true
 | [],[],h=>absurd rfl h
 | [],_::_,_=>.inl rfl
 |_::_,[],_=>.inr rfl
 |x::a,y::b,h=>by
  simp only[Op.bytesLess];by_cases h1:x<y
  .simp[h1]
  .by_cases h2:y<x
   .simp[h2]
   .have:x=y:=UInt8.le_antisymm (UInt8.not_lt.1 h2) (UInt8.not_lt.1 h1);subst this;have ih:=@Pu a b (λe=>h (by rw[e]));simp[h1];exact ih
theorem qQ (a b c:J2):T3 (U9 a b) (U9 b c) (U9 a c):=by
 have key:∀a b c:List UInt8,T3 (if Op.bytesLess a b then -1 else if a=b then 0 else 1) (if Op.bytesLess b c then -1 else if b=c then 0 else 1) (if Op.bytesLess a c then -1 else if a=c then 0 else 1):=by
  intro a b c;have irr:=XR;unfold T3;by_cases h1:Op.bytesLess a b=true
  .by_cases h2:Op.bytesLess b c=true
   .have h3:=Pv h1 h2;simp[h1,h2,h3]
   .by_cases e:b=c
    .subst e;simp[h1,irr]
    .have h3:=(Pu e).resolve_left h2;simp[h1,h2,e]
  .by_cases e:a=b
   .subst e;rw[if_neg h1,if_pos rfl];generalize (if Op.bytesLess a c then (-1:Int)else if a=c then 0 else 1)=q
    exact⟨λ_ h=>⟨h,λe=>⟨rfl,e⟩⟩,λ_ h=>⟨h,λe=>⟨rfl,e⟩⟩⟩
   .have h3:=(Pu e).resolve_left h1;by_cases h2:Op.bytesLess b c=true
    .simp[h1,e,h2]
    .by_cases e2:b=c
     .subst e2;simp[h1,e,h2]
     .have h4:=(Pu e2).resolve_left h2;have h5:=Pv h4 h3;have h6:Op.bytesLess a c=false:=by
       cases h:Op.bytesLess a c with
       |false=>rfl
       |true=>have:=Pv h h5;rw[irr]at this;cases this
      have h7:a≠c:=λh=>by subst h;rw[irr]at h5;cases h5
      simp[h1,e,h2,e2,h6,h7]
 unfold U9;exact key _ _ _
theorem zo:∀(n:Nat) (a b c:Tm),a.size<=n->T3 (H6 a b) (H6 b c) (H6 a c):=by
 intro n
 induction n with
 |zero=>intro a _ _ h;have:=a.size_pos;omega
 |succ n ih =>
  intro a b c hn;obtain⟨k,nm,s,m,l⟩:=a;obtain⟨k',nm',s',m',l'⟩:=b;obtain⟨k2,nm2,s2,m2,l2⟩:=c;have J4:Tm.size (.mk k nm s m l)=1+Tm.sizes l:=rfl;simp only[H6];refine ZO (aw _ _ _) λ_ _=>ZO (aw _ _ _) λ_ _=>ZO (qQ _ _ _) λ_ _=>ZO (aw _ _ _) λ_ _=>ZO (aw _ _ _) λh1 h2=>?_;have e1:=Tz h1;have e2:=Tz h2;have:∀l l' l2:List Tm,Tm.sizes l<=n->l.length=l'.length->l'.length=l2.length->T3 (Iw l l') (Iw l' l2) (Iw l l2):=by
   intro l
   induction l with
   |nil =>
    intro l' l2 _ h1 h2;have:l'=[]:=A0q h1.symm;subst this;simp only[SL];unfold T3;omega
   |cons a l ihl =>
    intro l' l2 hs h1 h2;cases l' with
    |nil=>simp at h1
    |cons b l' =>
     cases l2 with
     |nil=>simp at h2
     |cons c l2 =>
      simp only[Tm.sizes]at hs;simp only[Iw];exact ZO (ih a b c (by omega)) λ_ _=>ihl l' l2 (by omega) (by simpa using h1) (by simpa using h2)
  exact this l l' l2 (by omega) e1 e2
theorem mG (a b c:Tm):T3 (H6 a b) (H6 b c) (H6 a c):=zo _ a b c (A0S _)
theorem PG (a:Tm):H6 a a=0:=kZ _ a a (A0S _) rfl
theorem KV {a b:Tm}:(H6 a b<0↔0<H6 b a)/\(H6 a b=0↔H6 b a=0):=by
 have h:=mG a b a;rw[PG]at h;unfold T3 at h;have h1:H6 a b<=0->H6 b a<=0->H6 a b=0/\H6 b a=0:=λp q=>(h.1 p q).2 rfl;have h2:0<=H6 a b->0<=H6 b a->H6 a b=0/\H6 b a=0:=λp q=>(h.2 p q).2 rfl;constructor<;>constructor<;>intro hh
 .rcases A0v 0 (H6 b a)with q|q
  .exact q
  .have:=h1 (by omega) q;omega
 .rcases A0v (H6 a b) 0 with q|q
  .exact q
  .have:=h2 q (by omega);omega
 .rcases A1C 0 (H6 b a)with q|q
  .exact(h2 (by omega) q).2
  .exact(h1 (by omega) q).2
 .rcases A1C 0 (H6 a b)with q|q
  .exact(h2 q (by omega)).1
  .exact(h1 q (by omega)).1
theorem GZ {a b c:Tm} (h:H6 a b<0) (k:H6 b c<0):H6 a c<0:=by
 have:=(mG a b c).1 (by omega) (by omega);rcases A0e this.1 with q|q
 .exact q
 .have:=this.2 q;omega
theorem lM {a b:Int}:nz a b=0↔a=0/\b=0:=by
 unfold nz;split<;>simp_all
theorem mU {a b:Int}:Hw a b=0↔a=b:=by
 unfold Hw;split
 .constructor<;>intro h<;>omega
 .split<;>constructor<;>intro h<;>omega
theorem mR {a b:J2}:U9 a b=0↔a=b:=by
 unfold U9;split
 .rename_i h;constructor
  .intro e;omega
  .intro e;subst e;rw[XR]at h;cases h
 .split
  .rename_i h;simp[(P2 a b).1 h]
  .rename_i h;constructor
   .intro e;omega
   .intro e;exact absurd (by rw[e]) h
theorem uk:∀(n:Nat) (a b:Tm),a.size<=n->H6 a b=0->E3 a=E3 b:=by
 intro n
 induction n with
 |zero=>intro a _ h;have:=a.size_pos;omega
 |succ n ih =>
  intro a b hn h;obtain⟨k,nm,s,m,l⟩:=a;obtain⟨k',nm',s',m',l'⟩:=b;have J4:Tm.size (.mk k nm s m l)=1+Tm.sizes l:=rfl;simp only[H6,lM,mU,mR]at h;obtain⟨_,rfl,rfl,rfl,h1,h2⟩:=h;have e1:l.length=l'.length:=by omega
  have:∀l l':List Tm,Tm.sizes l<=n->l.length=l'.length->Iw l l'=0->H4 l=H4 l':=by
   intro l
   induction l with
   |nil=>intro l' _ h1 _;rw[A0q h1.symm]
   |cons a l ihl =>
    intro l' hs h1 h2;cases l' with
    |nil=>simp at h1
    |cons b l' =>
     simp only[Tm.sizes]at hs;simp only[Iw,lM]at h2;simp only[H4,ih a b (by omega) h2.1,ihl l' (by omega) (by simpa using h1) h2.2]
  simp only[E3,this l l' (by omega) e1 h2]
theorem V0 {a b:Tm}:H6 a b=0↔E3 a=E3 b:=⟨uk _ a b (A0S _),kZ _ a b (A0S _)⟩
theorem bz {α:Type} {R:α->α->Prop} {l:List α} (h:∀(i j:Nat) (hi:i<l.length) (hj:j<l.length),i<j->R l[i] l[j]):l.Pairwise R:=by
 rw[A0l];exact h
theorem UU (k:Nat) (h:AH) (l:G7) (hk:h.fams[k]?=some ⟨A4 l,4,true⟩) (P0:l≠[]) (J4:∀t∈l,t.size<=1099511627776) (B8:l.length<=1099511627776) :
  ∃l':List Tm,l'.Perm l/\l'.Pairwise (λa b=>H6 a b<=0)/\rc Q D9 [.sl k l.length 0 l.length,.fn C3 []] h=some (C5,⟨h.boxes,h.fams.set k ⟨A4 l',4,true⟩⟩):=by
 have hl:(A4 l).length=l.length:=by simp
 have M2:0<l.length:=List.length_pos_iff.2 P0;have hget:∀i,i<l.length->(A4 l).getD i C5=B9 (l.getD i (.mk 0 (bs []) 0 (true,true) [])):=by
  intro i hi;rw[D0,A0c,A0c,A0t,A0T hi];rfl
 have KI:∀i,i<l.length->l.getD i (.mk 0 (bs []) 0 (true,true) [])∈l:=by
  intro i hi;rw[A0c,A0T hi];exact A0b hi
 have hans:∀i j,i<l.length->j<l.length->(K8 Q).pure C3 ([(A4 l).getD i C5,(A4 l).getD j C5]++[])=some (.int .i64 (H6 (l.getD i (.mk 0 (bs []) 0 (true,true) [])) (l.getD j (.mk 0 (bs []) 0 (true,true) [])))):=by
  intro i j hi hj;rw[hget i hi,hget j hj];exact j7 _ _ _ (A0S _) (J4 _ (KI i hi)) (J4 _ (KI j hj))
 have hcf:∀i j,mO (K8 Q) C3 [] (A4 l) i j=H6 (l.getD (d7 l.length i) (.mk 0 (bs []) 0 (true,true) [])) (l.getD (d7 l.length j) (.mk 0 (bs []) 0 (true,true) [])):=by
  intro i j;unfold mO bG;rw[hl,hans _ _ (JN M2) (JN M2)]
 have Bf:SortOk (K8 Q) C3 [] (A4 l):=by
  refine⟨λi j hi hj=>⟨_,hans i j (by omega) (by omega)⟩,⟨λx=>?_,λx y z=>?_,λx y z=>?_⟩⟩
  .simp[ltOf,hcf,PG]
  .simp only[ltOf,hcf,decide_eq_true_eq];exact GZ
  .simp only[ltOf,hcf,decide_eq_false_iff_not,A1E];intro a b;exact((mG _ _ _).2 a b).1
 obtain⟨p1,p2⟩:=QM Bf;have psz:=Uc Bf;rw[hl]at p1 p2 psz;have lB:rc Q D9 [.sl k l.length 0 l.length,.fn C3 []] h=some (C5,⟨h.boxes,h.fams.set k ⟨(FD (K8 Q) C3 [] (A4 l)).toList.map λi=>(A4 l).getD i C5,4,true⟩⟩):=by
  refine ON (s:=aX 4) rfl rfl ?_;change LO 4 (K8 Q) [.sl k l.length 0 l.length,.fn C3 []] h=_;unfold LO;simp only[hk];rw[if_pos ⟨hl,rfl,rfl,M2,by omega,rfl,rfl,rfl,by
   rw[List.all_eq_true];intro x hx;rw[D0,A0a]at hx;obtain⟨t,_,rfl⟩:=hx;cases t;rfl,Bf⟩]
 generalize hd:FD (K8 Q) C3 [] (A4 l)=d at *
 have A7:∀i∈d.toList,i<l.length:=λi hi=>by simpa using p1.mem_iff.1 hi
 have e1:(d.toList.map λi=>(A4 l).getD i C5)=A4 (d.toList.map λi=>l.getD i (.mk 0 (bs []) 0 (true,true) [])):=by
  rw[D0 (d.toList.map _),List.map_map];exact List.map_congr_left λi hi=>hget i (A7 i hi)
 refine⟨d.toList.map λi=>l.getD i (.mk 0 (bs []) 0 (true,true) []),?_,?_,by rw[lB,e1]⟩
 .have h1:=p1.map λi=>l.getD i (.mk 0 (bs []) 0 (true,true) []);have h2:(List.range l.length).map (λi=>l.getD i (.mk 0 (bs []) 0 (true,true) []))=l:=by
   apply List.ext_getElem
   .simp
   .intro i g1 g2;simp[A0c,g2]
  rw[h2]at h1;exact h1
 .refine bz λi j hi hj hij=>?_;simp only[A0f,Array.length_toList]at hi hj;have h1:=p2 i j (Nat.zero_le _) hij (by omega);have Cw:=A7 (d.toList[i]'(by simpa using hi)) (A0b _);have hj':=A7 (d.toList[j]'(by simpa using hj)) (A0b _);rw[getElem!_pos d i hi,getElem!_pos d j hj]at h1;simp only[A01]at Cw hj';simp only[ltOf,hcf,decide_eq_false_iff_not,A1E]at h1;rw[show d7 l.length d[i]=d[i] from by unfold d7;rw[if_pos Cw],show d7 l.length d[j]=d[j] from by unfold d7;rw[if_pos hj']]at h1;simp only[List.getElem_map,A01];rcases A0v 0 (H6 (l.getD d[i] (.mk 0 (bs []) 0 (true,true) [])) (l.getD d[j] (.mk 0 (bs []) 0 (true,true) [])))with q|q
  .have:=KV.1.2 q;omega
  .exact q
end Go.Abs.Q
namespace Go.Abs.Q
open Go.Proofs
attribute [local simp] E1 E5 fin J7 G4 O2 L3
def keep (p:Tm):List Tm->List Tm
 | []=>[]
 |b::l=>if H6 b p=0 then keep b l else b::keep b l
def S5:List Tm->List Tm
 | []=>[]
 |a::l=>a::keep a l
def VZ (g:FuncId) (l:List Tm):Prop:=C2 g=false/\∀a∈l,∀b∈l,pc Q g [B9 a,B9 b]=some (.bool (decide (H6 a b=0)))
theorem Ya {l:G7} {i:Nat} {t:Tm} (h:l[i]?=some t):(A4 l)[i]?=some (B9 t):=by
 rw[D0,A0t,h];rfl
theorem tj (l:G7) (i:Nat) (t:Tm):(A4 l).set i (B9 t)=A4 (l.set i t):=by
 rw[D0,D0,List.map_set]
theorem Wz {α:Type} {l:List α} {i:Nat} {p:α} {q:List α} (h:l.drop i=p::q):l[i]?=some p/\l.drop (i+1)=q/\i+1+q.length=l.length:=by
 have h1:(l.drop i)[0]?=some p:=by rw[h];rfl
 rw[List.getElem?_drop,Nat.add_zero]at h1;have h2:(l.drop i).drop 1=q:=by rw[h];rfl
 rw[List.drop_drop]at h2;have h3:=congrArg A0y h;rw[List.length_drop,A0d]at h3;obtain⟨h4,-⟩:=List.getElem?_eq_some_iff.1 h1;exact⟨h1,h2,by omega⟩
theorem th {α:Type} {l:List α} {i:Nat} (x:α) (h:i<l.length):(l.set i x).take (i+1)=l.take i++[x]:=by
 rw[A0Z (by simpa using h),List.take_set_of_le (A0S i)];simp
theorem rU (g:FuncId) (l R:G7) (hg:VZ g l) (k N k0:Nat) (hN:l.length=N) (hN2:N<=1099511627776) (h1k:1<=k0) (p0:Tm) (q0:G7) (hd0:l.drop k0=p0::q0) (hR:l.take k0++keep p0 q0=R)
  (fr:Fr) (h:AH) (hfam:h.fams[k]?=some ⟨A4 l,4,true⟩) (hl:fr.length=66) (h0:A0 fr 0=.sl k N 0 N) (h1:A0 fr 1=.fn g []) (h6:A0 fr 6=.sl k N k0 (N-k0))
  (h5:A0 fr 5=.int .i64 (k0:Nat)) (h7:A0 fr 7=.int .i64 1) :
  B7 (lp (A2 (K8 Q) (D6 D4) O0) (fr,h)) λe C4 h'=>Kp O0.wr fr C4/\e=.exit 2 /\
   ∃(Y:List Tm) (k':Nat),A0 C4 5=.int .i64 (k':Nat)/\h'=⟨h.boxes,h.fams.set k ⟨A4 Y,4,true⟩⟩/\Y.length=N/\k' < N/\1<=k'/\Y.take k'=R:=by
 have Do:=H3 hfam;obtain⟨d1,d2,d3⟩:=Wz hd0;refine B4 rfl fr (λn fr h'=>∃(j kk:Nat) (Y:List Tm) (p:Tm) (q:List Tm),j+n=N-k0/\1<=j/\1<=kk/\kk<k0+j/\A0 fr 5=.int .i64 (kk:Nat)/\A0 fr 7=.int .i64 (j:Nat) /\
  h'=⟨h.boxes,h.fams.set k ⟨A4 Y,4,true⟩⟩/\Y.length=N/\(∀x∈Y,x∈l)/\Y.drop (k0+j-1)=p::q/\Y.take kk++keep p q=R) ?_ (N-k0-1) h
  ⟨1,k0,l,p0,q0,by omega,A0S _,h1k,by omega,h5,h7,by rw[DH hfam],hN,λ_ h=>h,by simpa using hd0,hR⟩
 rintro J Φ hJ hΦ n D5 H1 K ⟨j,kk,Y,p,q,hjn,hj,Tp,hkj,k5,k7,rfl,hY,hYl,hYd,hYR⟩;have A6:=K.1.trans hl;have k0':=A8 K 0 h0;have k1':=A8 K 1 h1;have k6':=A8 K 6 h6;clear K;obtain⟨e1,e2,e3⟩:=Wz hYd;by_cases A7:j<N-k0
 .have hlti:(j:Int)<((N-k0:Nat):Int):=by omega
  cases q with
  |nil=>simp at e3;omega
  |cons b q =>
   obtain⟨f1,f2,f3⟩:=Wz e2;have hbY:b∈Y:=A0h f1;have hpY:p∈Y:=A0h e1;have hc:=hg.2 b (hYl _ hbY) p (hYl _ hpY);have hw1:=C6 j (by omega);have hw2:IntKind.i64.wrap ((j:Int)-1)=((j-1:Nat):Int):=by rw[W2 (by omega) (by omega)];omega
   have hw3:=C6 kk (by omega);have hb1:((j-1:Nat):Int)<((N-k0:Nat):Int):=by omega
   have hb2:(kk:Int)<N:=by omega
   have g1:=Ya e1;have g2:=Ya f1;rw[show k0+j-1+1=k0+j from by omega]at g2;rw[show k0+j-1=k0+(j-1) from by omega]at g1;have gl:(A4 Y).length=N:=by simpa using hY
   by_cases hcz:H6 b p=0
   .have hYR':Y.take kk++keep b q=R:=by rw[←hYR,keep,if_pos hcz]
    simp only[hcz,decide_true]at hc;simp[O0,A6,k1',k6',k7,hlti,hw1,hw2,hb1,g1,g2,gl,Do,hc,hg.1];exact E9 hJ ⟨j+1,kk,Y,b,q,by omega,by omega,Tp,by omega,by simp[k5],by simp[A6],rfl,hY,hYl,by rw[show k0+(j+1)-1=k0+j-1+1 from by omega];exact e2,hYR'⟩
   .have hkY:kk<Y.length:=by omega
    have hYR':(Y.set kk b).take (kk+1)++keep b q=R:=by rw[←hYR,keep,if_neg hcz,th _ hkY,A0g,A0z]
    have g3:=tj Y kk b;obtain⟨c,hc1⟩:∃c,Y[kk]?=some c:=⟨_,A0T hkY⟩;have g4:=Ya hc1;simp only[hcz,decide_false]at hc;simp[O0,A6,k0',k1',k6',k5,k7,hlti,hw1,hw2,hw3,hb1,hb2,g1,g2,g3,g4,gl,Do,hc,hg.1];exact⟨n-1,by omega,hJ _ _ _ ⟨j+1,kk+1,Y.set kk b,b,q,by omega,by omega,by omega,by omega,by simp[A6],by simp[A6],rfl,by simpa using hY,λx hx=>by
     rcases List.mem_or_eq_of_mem_set hx with h|rfl
     .exact hYl _ h
     .exact hYl _ hbY,by rw[show k0+(j+1)-1=k0+j-1+1 from by omega,List.drop_set_of_lt (by omega)];exact e2,hYR'⟩⟩
 .have hlti:¬(j:Int)<((N-k0:Nat):Int):=by omega
  cases q with
  |cons b q=>simp at e3;omega
  |nil =>
   simp[O0,A6,k6',k7,hlti];exact hΦ _ _ _ ⟨rfl,Y,kk,by simp[k5],rfl,hY,by omega,Tp,by rw[←hYR,keep,A0o]⟩
def gr:Tm:=.mk 0 (bs []) 0 (true,false) []
theorem uB:AV.agg [.int .i64 0,.str (bs []),.int .i64 0,.vs true 0 []]=B9 gr:=rfl
theorem VW (l:G7) (i:Nat):A4 (l.take i)=(A4 l).take i:=by rw[D0,D0,A1B]
@[simp] theorem clrA_sl (h:AH) (z:AV) (k n off len:Nat):Uz h z (.sl k n off len)=(h.fams[k]?).bind λf=>if f.xs.length=n/\off+len<=n/\f.wr=true/\z.cells.length=f.sz then some (C5,{h with fams:=h.fams.set k {f with xs:=f.xs.take off++A0s len z++f.xs.drop (off+len)}})else none:=by
 simp only[Uz];cases h.fams[k]?<;>rfl
@[simp] theorem zY (h:AH) (sz k n off len:Nat) (lo hi:Option Int):YT h sz (.sl k n off len) (some lo) (some hi) (some none)=(h.fams[k]?).bind λf =>
  if (0<sz/\f.sz=sz/\f.xs.length=n)/\0<=lo.getD 0/\lo.getD 0<=hi.getD len/\hi.getD len<=len then some (.sl k n (off+(lo.getD 0).toNat) (hi.getD len-lo.getD 0).toNat,h)else none:=by
 simp only[YT,Oc];cases h.fams[k]? with
 |none=>rfl
 |some f =>
  simp only[A0i];by_cases h1:0<sz/\f.sz=sz/\f.xs.length=n
  .by_cases h2:0<=lo.getD 0/\lo.getD 0<=hi.getD len/\hi.getD len<=len
   .rw[if_pos h1,if_pos h2,if_pos ⟨h1,h2⟩]
   .rw[if_pos h1,if_neg h2,if_neg λk=>h2 k.2]
  .rw[if_neg h1,if_neg λk=>h1 k.1]
theorem uZ (Y:G7) {N k':Nat} (hY:Y.length=N) (hk:k'<=N):(A4 Y).take k'++(A0s (N-k') (AV.agg [.int .i64 0,.str (bs []),.int .i64 0,.vs true 0 []])++(A4 Y).drop N)=A4 (Y.take k'++A0s (N-k') gr):=by
 rw[uB,List.drop_of_length_le (by simp;omega),A0o,D0,D0,A0k,A1B,List.map_replicate]
theorem NJ (g:FuncId) (l:G7) (hg:VZ g l) (k:Nat) (h:AH) (hk:h.fams[k]?=some ⟨A4 l,4,true⟩) (B8:l.length<=1099511627776) :
  ∃Z:List Tm,Z.length=l.length/\Z.take (S5 l).length=S5 l/\rc Q D4 [.sl k l.length 0 l.length,.fn g []] h=some (.sl k l.length 0 (S5 l).length,⟨h.boxes,h.fams.set k ⟨A4 Z,4,true⟩⟩):=by
 have Do:=H3 hk
 suffices hq:∃v h',rc Q D4 [.sl k l.length 0 l.length,.fn g []] h=some (v,h') /\
   ∃Z:List Tm,Z.length=l.length/\Z.take (S5 l).length=S5 l/\v=.sl k l.length 0 (S5 l).length/\h'=⟨h.boxes,h.fams.set k ⟨A4 Z,4,true⟩⟩ by
  obtain⟨v,h',h1,Z,h2,h3,rfl,rfl⟩:=hq;exact⟨Z,h2,h3,h1⟩
 have hsame:h=⟨h.boxes,h.fams.set k ⟨A4 l,4,true⟩⟩:=by rw[DH hk]
 have hl0:(A4 l).length=l.length:=by simp
 refine Hl I3 λfr hl h0 h1=>?_;simp[I3]at hl h0 h1;by_cases hs:l.length<2
 .have hs':(l.length:Int)<2:=by omega
  have GJ:S5 l=l:=by
   match l,hs with
   | [],_=>rfl
   | [a],_=>rfl
   |_::_::_,h=>exact absurd h (by simp)
  simp[I3,hl,h0,hs'];exact⟨l,rfl,by rw[GJ,A0w],by rw[GJ],hsame⟩
 have hs':¬(l.length:Int)<2:=by omega
 simp[I3,hl,h0,hs'];obtain⟨a,q1,hd1⟩:∃a q1,l=a::q1:=by
  cases l with
  |nil=>simp at hs
  |cons a q=>exact⟨a,q,rfl⟩
 refine(B4 (Ψ:=λe C4 h'=>e=.exit 0/\S5 l=l/\h'=h\/e=.ret/\∃Z:List Tm,Z.length=l.length/\Z.take (S5 l).length=S5 l/\A0 C4 4=.sl k l.length 0 (S5 l).length/\h'=⟨h.boxes,h.fams.set k ⟨A4 Z,4,true⟩⟩) rfl _ (λn C4 h'=>h'=h/\∃(j:Nat) (p:Tm) (q:List Tm),j+n=l.length/\1<=j/\A0 C4 5=.int .i64 (j:Nat)/\l.drop (j-1)=p::q/\l.take j++keep p q=S5 l) ?_ (l.length-1) h ⟨rfl,1,a,q1,by omega,A0S _,by simp[hl],by simpa using hd1,by rw[hd1];rfl⟩).mono ?_
 .rintro J Φ hJ hΦ n D5 H1 K ⟨rfl,j,p,q,hjn,hj,k5,hYd,hR⟩;have A6:D5.length=66:=K.1.trans (by simp[hl]);have k0:=A8 K 0 (by simp[h0]:_=AV.sl k l.length 0 l.length);have k1:=A8 K 1 (by simp[h1]:_=AV.fn g []);clear K h0 h1;obtain⟨e1,e2,e3⟩:=Wz hYd;by_cases A7:j<l.length
  .have hlti:(j:Int)<l.length:=by omega
   cases q with
   |nil=>simp at e3;omega
   |cons b q =>
    obtain⟨f1,f2,f3⟩:=Wz e2;have hc:=hg.2 b (A0h f1) p (A0h e1);have hw1:=C6 j (by omega);have hw2:IntKind.i64.wrap ((j:Int)-1)=((j-1:Nat):Int):=by rw[W2 (by omega) (by omega)];omega
    have hb1:((j-1:Nat):Int)<(l.length:Int):=by omega
    have g1:=Ya e1;have g2:=Ya f1;rw[show j-1+1=j from by omega]at g2 f1;by_cases hcz:H6 b p=0
    .have hR':l.take j++keep b q=S5 l:=by rw[←hR,keep,if_pos hcz]
     have hd':l.drop j=b::q:=by rw[←e2,show j-1+1=j from by omega]
     have PL:j<=l.length:=by omega
     simp only[hcz,decide_true]at hc;simp[Z5,A6,k0,k1,k5,hlti,hw2,hb1,g1,g2,hk,hc,hg.1,PL];refine B7.mono (rU g l (S5 l) hg k l.length j rfl B8 hj b q hd' hR' _ _ hk ?_ ?_ ?_ ?_ ?_ ?_) ?_<;>first|(simp[A6,k0,k1,k5];done)|skip
     rintro e R1 h2 ⟨K,rfl,Y,k',m5,rfl,hYl,Dt,hk1,hYR⟩;have CK:R1.length=66:=K.1.trans (by simp[A6]);have m0:=A8 K 0 (by simp[k0]:_=AV.sl k l.length 0 l.length);clear K;have GJ:(S5 l).length=k':=by rw[←hYR,List.length_take];omega
     have hle':k'<=l.length:=by omega
     have hcr:=uZ Y hYl hle';have hYl':(A4 Y).length=l.length:=by simpa using hYl
     have hmin:min k' Y.length+(l.length-k')=l.length:=by omega
     simp[CK,m0,m5,Do,hle',hYl',hcr,hmin];refine hΦ _ _ _ (.inr ⟨rfl,Y.take k'++A0s (l.length-k') gr,?_,?_,?_,rfl⟩)
     .simp;omega
     .rw[GJ,A1A (by simp;omega)];exact hYR
     .simp[CK,GJ]
    .have hR':l.take (j+1)++keep b q=S5 l:=by
      have t6:l[j]?=some b:=f1;rw[←hR,keep,if_neg hcz,A0Z A7,A0g];have:l[j]=b:=by rw[A0T A7]at t6;exact Option.some.inj t6
      rw[this,A0z]
     simp only[hcz,decide_false]at hc;simp[Z5,A6,k0,k1,k5,hlti,hw1,hw2,hb1,g1,g2,hk,hc,hg.1];exact E9 hJ ⟨rfl,j+1,b,q,by omega,by omega,by simp[A6],by rw[←e2];congr 1;omega,hR'⟩
  .have hlti:¬(j:Int)<l.length:=by omega
   cases q with
   |cons b q=>simp at e3;omega
   |nil =>
    simp[Z5,A6,k0,k5,hlti];exact hΦ _ _ _ (.inl ⟨rfl,by rw[←hR,keep,A0o,A0m (by omega)],rfl⟩)
 .rintro e R1 h2 ⟨K,⟨rfl,GJ,rfl⟩|⟨rfl,Z,hZ,hZ2,k4,rfl⟩⟩
  .have CK:R1.length=66:=K.1.trans (by simp[hl]);have m0:=A8 K 0 (by simp[h0]:_=AV.sl k l.length 0 l.length);clear K;simp[CK,m0];exact⟨l,rfl,by rw[GJ,A0w],by rw[GJ],hsame⟩
  .simp[k4];exact⟨Z,hZ,hZ2,rfl⟩
theorem wX {a b c:Tm} (h:H6 a b<=0) (k:H6 b c<0):H6 a c<0:=by
 have h1:=(mG a b c).1 h (by omega);rcases A0e h1.1 with q|q
 .exact q
 .have:=h1.2 q;omega
theorem ru {a b c:Tm} (h:H6 a b<0) (k:H6 b c<=0):H6 a c<0:=by
 have h1:=(mG a b c).1 (by omega) k;rcases A0e h1.1 with q|q
 .exact q
 .have:=h1.2 q;omega
theorem eC {a b:Tm} (h:E3 a=E3 b):H6 a b<=0:=by rw[V0.2 h];omega
def K7 (R l:List Tm):Prop:=R.Pairwise (λa b=>H6 a b<0)/\∀e,e∈R.map E3↔e∈l.map E3
theorem Zo:∀(q:G7) (p:Tm),(p::q).Pairwise (λa b=>H6 a b<=0)->(∀x∈keep p q,H6 p x<0/\x∈q)/\(keep p q).Pairwise (λa b=>H6 a b<0)/\(keep p q).length<=q.length/\∀x∈q,E3 x=E3 p\/E3 x∈(keep p q).map E3
 | [],p,_=>by simp[keep]
 |b::q,p,h=>by
  obtain⟨h1,h2⟩:=A0W.1 h;obtain⟨i1,i2,i3,i4⟩:=Zo q b h2;unfold keep;by_cases hc:H6 b p=0
  .rw[if_pos hc];have e:=V0.1 hc;refine⟨λx hx=>⟨wX (eC e.symm) (i1 x hx).1,A0U _ (i1 x hx).2⟩,i2,by simp only[A0d];omega,λx hx=>?_⟩;rcases A0X.1 hx with rfl|hx
   .exact .inl e
   .rcases i4 x hx with h|h
    .exact .inl (h.trans e)
    .exact .inr h
  .rw[if_neg hc];have hpb:H6 p b<0:=by
    have h3:=h1 b (A0R);rcases A0e h3 with q|q
    .exact q
    .exact absurd (KV.2.1 q) hc
   refine⟨λx hx=>?_,A0W.2 ⟨λx hx=>(i1 x hx).1,i2⟩,by simp only[A0d];omega,λx hx=>?_⟩
   .rcases A0X.1 hx with rfl|hx
    .exact⟨hpb,A0R⟩
    .exact⟨GZ hpb (i1 x hx).1,A0U _ (i1 x hx).2⟩
   .refine .inr ?_;rw[A0Y];rcases A0X.1 hx with rfl|hx
    .exact A0R
    .rcases i4 x hx with h|h
     .rw[h];exact A0R
     .exact A0U _ h
theorem Pm (l:G7) (h:l.Pairwise (λa b=>H6 a b<=0)):K7 (S5 l) l/\(∀x∈S5 l,x∈l)/\(S5 l).length<=l.length:=by
 cases l with
 |nil=>exact⟨⟨List.Pairwise.nil,λ_=>Iff.rfl⟩,λ_ h=>h,A0S _⟩
 |cons a q =>
  obtain⟨i1,i2,i3,i4⟩:=Zo q a h;have hs:∀x∈S5 (a::q),x∈a::q:=λx hx=>by
   rcases A0X.1 hx with rfl|hx
   .exact A0R
   .exact A0U _ (i1 x hx).2
  refine⟨⟨A0W.2 ⟨λx hx=>(i1 x hx).1,i2⟩,λe=>⟨λhe=>?_,λhe=>?_⟩⟩,hs,by simp only[S5,A0d];omega⟩
  .obtain⟨x,hx,rfl⟩:=A0a.1 he;exact A0j (hs x hx)
  .obtain⟨x,hx,rfl⟩:=A0a.1 he;rw[S5,A0Y];rcases A0X.1 hx with rfl|hx
   .exact A0R
   .rcases i4 x hx with h|h
    .rw[h];exact A0R
    .exact A0U _ h
theorem gO:∀{R R':G7},R.Pairwise (λa b=>H6 a b<0)->R'.Pairwise (λa b=>H6 a b<0)->(∀e,e∈R.map E3↔e∈R'.map E3)->R.map E3=R'.map E3
 | [],[],_,_,_=>rfl
 | [],b::r',_,_,h=>absurd ((h (E3 b)).2 A0R) A08
 |a::r,[],_,_,h=>absurd ((h (E3 a)).1 A0R) A08
 |a::r,b::r',hp,hp',h=>by
  obtain⟨p1,p2⟩:=A0W.1 hp;obtain⟨q1,q2⟩:=A0W.1 hp';have key:∀{a b:Tm} {r r':List Tm},(∀x∈r',H6 b x<0)->E3 a∈(b::r').map E3->H6 b a<=0:=by
   intro a b r r' hq hm;rw[A0Y]at hm;rcases A0X.1 hm with e|hm
   .exact eC e.symm
   .obtain⟨y,hy,e⟩:=A0a.1 hm;have:=ru (hq y hy) (eC e);omega
  have k1:H6 b a<=0:=key (r:=r) q1 ((h _).1 A0R);have k2:H6 a b<=0:=key (r:=r') p1 ((h _).2 A0R);have k3:E3 a=E3 b:=by
   apply V0.1;have:=(mG a b a).1 k2 k1;rw[PG]at this;exact(this.2 rfl).1
  have tl:∀{a b:Tm} {r r':List Tm},E3 a=E3 b->(∀x∈r,H6 a x<0)->(∀e,e∈(a::r).map E3->e∈(b::r').map E3)->∀e,e∈r.map E3->e∈r'.map E3:=by
   intro a b r r' e0 hq hm e he;obtain⟨x,hx,rfl⟩:=A0a.1 he;have:=hm _ (A0j (A0U a hx));rw[A0Y]at this;rcases A0X.1 this with h1|h1
   .have h2:=V0.2 (h1.trans e0.symm);have h3:=hq x hx;have h4:=KV.2.1 h2;omega
   .exact h1
  rw[A0Y,A0Y,k3,gO p2 q2 λe=>⟨tl k3 p1 (λe=>(h e).1) e,tl k3.symm q1 (λe=>(h e).2) e⟩]
theorem dW {R R' l l':G7} (h:K7 R l) (h':K7 R' l') (e:∀e,e∈l.map E3↔e∈l'.map E3):H4 R=H4 R':=by
 rw[E4,E4];exact gO h.1 h'.1 λx=>(h.2 x).trans ((e x).trans (h'.2 x).symm)
theorem Vb {R R' l:G7} (h:K7 R l) (e:H4 R'=H4 R):K7 R' l:=by
 rw[E4,E4]at e;refine⟨?_,λx=>by rw[e];exact h.2 x⟩;have hl:R'.length=R.length:=by simpa using congrArg A0y e
 rw[A0l];intro i j hi hj hij;have h1:=(A0l.1 h.1) i j (by omega) (by omega) hij;have g:∀i (hi:i<R'.length),E3 R'[i]=E3 (R[i]'(by omega)):=by
  intro i hi;have:=congrArg (·[i]?) e;simp only[A0t,A0T hi,A0T (show i<R.length by omega),Option.map_some]at this;exact Option.some.inj this
 exact ru (wX (eC (g i hi)) h1) (eC (g j hj).symm)
@[simp] theorem kpB_s (h:AH) (v:AV):XQ true h (some (v,h))=some (v,h):=rK h v h.fams
theorem rk (R Z:G7) (N k:Nat) (hZ:Z.length=N) (hZR:Z.take R.length=R) (B8:N<=1099511627776) (hRl:R.length<=N) (J4:∀t∈R,t.size<=1099511627776) (fr:Fr) (h:AH) (hfam:h.fams[k]?=some ⟨A4 Z,4,true⟩) (hl:fr.length=23) (h0:A0 fr 0=.sl k N 0 R.length) (h9:A0 fr 9=.int .i64 R.length) (h10:A0 fr 10=.int .i64 0) :
  B7 (lp (A2 (K8 Q) (D6 j0) Z2) (fr,h)) λe C4 h'=>Kp Z2.wr fr C4/\e=.exit 0/\∃(done:List Tm) (X:List AV),X=(done++Z.drop R.length).map B9/\h'=⟨h.boxes,h.fams.set k ⟨X,4,true⟩⟩/\H4 done=H4 R/\done.length=R.length:=by
 refine B4 rfl fr (λn fr h'=>∃(i:Nat),i+n=R.length/\A0 fr 10=.int .i64 (i:Nat)/\(∃(done:List Tm) (X:List AV),X=(done++Z.drop i).map B9/\h'=⟨h.boxes,h.fams.set k ⟨X,4,true⟩⟩/\H4 done=H4 (R.take i)/\done.length=i)) ?_ R.length h ⟨0,by omega,h10,⟨[],A4 Z,by simp[D0],by rw[DH hfam],by simp[H4],rfl⟩⟩;rintro J Φ hJ hΦ n D5 H1 K ⟨i,hi,k10,hr⟩;have A6:=K.1.trans hl;have k0:=A8 K 0 h0;have k9:=A8 K 9 h9;clear K;by_cases A7:i<R.length
 .have L4:=C6 i (by omega);obtain⟨done,X,hX,rfl,hd,Di⟩:=hr;have hltZ:i<Z.length:=by omega
  obtain⟨t',hI,ht⟩:=Xr _ R[i] (A0S _) (J4 _ (A0b A7));obtain⟨q1,q2,q3⟩:=SW B9 done Z hltZ Di;have q4:=SX B9 done Z hltZ Di t';have hzr:Z[i]=R[i]:=by
   have:=congrArg (·[i]?) hZR;simp only[List.getElem?_take_of_lt A7,A0T hltZ,A0T A7]at this;exact Option.some.inj this
  rw[hzr]at q2;rw[hZ]at q3;have e2:H4 (done++[t'])=H4 (R.take (i+1)):=by
   rw[A0Z A7,E4,A0k,←E4,hd,E4,E4,A0k,A0Y,A05,A0Y,A05,ht]
  have Do:=H3 hfam;rw[←hX]at q1 q3 q4;have hq2:X[i]?=some (B9 R[i]):=by subst hX;rw[A0T q1,q2]
  clear hd ht hzr q2 hX;generalize hY:(done++[t']++Z.drop (i+1)).map B9=Y at *
  generalize R[i]=s at *
  simp[Z2,A6,k0,k9,k10,A7,L4,hI,hq2,q3,q4,Do];exact E9 hJ ⟨i+1,by omega,by simp[A6],_,Y,hY.symm,rfl,e2,by simp[Di]⟩
 .obtain⟨done,X,hX,rfl,hd,Di⟩:=hr;have e:i=R.length:=by omega
  subst e;rw[A0w]at hd;simp[Z2,A6,k9,k10];exact hΦ _ _ _ ⟨rfl,done,X,hX,rfl,hd,Di⟩
theorem nS (fr:Fr) (h:AH) (hl:fr.length=23) (h9:A0 fr 9=.int .i64 0) (h10:A0 fr 10=.int .i64 0) :
  B7 (lp (A2 (K8 Q) (D6 j0) Z2) (fr,h)) λe C4 h'=>Kp Z2.wr fr C4/\e=.exit 0/\h'=h:=by
 refine B4 rfl fr (λn C4 h'=>C4=fr/\h'=h) ?_ 0 h ⟨rfl,rfl⟩;rintro J Φ hJ hΦ n D5 H1 K ⟨rfl,rfl⟩;simp[Z2,hl,h9,h10];exact hΦ _ _ _ ⟨rfl,rfl⟩
theorem fZ (a b:Tm) (h:a.size<=1099511627776) (h':b.size<=1099511627776):pc Q BX [B9 a,B9 b]=some (.bool (decide (H6 a b=0))):=by
 have hC:=j7 _ a b (A0S _) h h';refine O9 Ky λfr hl h0 h1=>?_;simp[Ky]at hl h0 h1;simp[Ky,hl,h0,h1,hC]
theorem pG (a b:Tm) (h:a.size<=1099511627776) (h':b.size<=1099511627776):pc Q p8 [B9 a,B9 b]=some (.bool (decide (H6 a b=0))):=by
 have hC:=j7 _ a b (A0S _) h h';refine O9 Ho λfr hl h0 h1=>?_;simp[Ho]at hl h0 h1;simp[Ho,hl,h0,h1,hC]
theorem gH (h:AH) (b:Bool):rc Q D9 [sl (true,b) 4 [],.fn C3 []] h=some (C5,h):=by
 refine ON (s:=aX 4) rfl rfl ?_;rfl
theorem Vy (g:FuncId) (h:AH) (b:Bool):rc Q D4 [sl (true,b) 4 [],.fn g []] h=some (sl (true,b) 4 [],h):=by
 suffices hq:∃v h',rc Q D4 [sl (true,b) 4 [],.fn g []] h=some (v,h')/\(v=sl (true,b) 4 []/\h'=h) by
  obtain⟨v,h',h1,rfl,rfl⟩:=hq;exact h1
 refine Hl I3 λfr hl h0 h1=>?_;simp[I3]at hl h0 h1;simp[I3,hl,h0]
def zj (sz:Nat) (xs:List AV) (v:AV) (h:AH):Prop:=v.isTup=false/\v.cells=[v]/\∃m,DX h v=some (sl m sz xs)
theorem YI (k:Nat) (l:G7) (v:AV) (h:AH) (hg:mC k 4 (A4 l) v h) (J4:∀t∈l,t.size<=1099511627776) (B8:l.length<=1099511627776) :
  ∃(v':AV) (h':AH) (R:List Tm),rc Q j0 [v] h=some (v',h')/\h'.boxes=h.boxes/\K7 R l/\R.length<=l.length/\zj 4 (A4 R) v' h':=by
 suffices hq:∃v' h',rc Q j0 [v] h=some (v',h')/\∃(R:List Tm),h'.boxes=h.boxes/\K7 R l/\R.length<=l.length/\zj 4 (A4 R) v' h' by
  obtain⟨v',h',h1,R,h2⟩:=hq;exact⟨v',h',R,h1,h2⟩
 rcases hg with ⟨hl0,b,rfl⟩|⟨P0,rfl,hk⟩
 .have:l=[]:=by rw[D0]at hl0;exact A02.1 hl0
  subst this;have hS:=gH h b;have hC:=Vy BX h b;refine gC Ed λfr hl h0=>?_;simp[Ed]at hl h0;simp[Ed,hl,h0,hS,hC];refine B7.mono (nS _ _ ?_ ?_ ?_) ?_<;>first|(simp[hl];done)|skip
  rintro e D5 h1 ⟨K,rfl,rfl⟩;have J0:D5.length=23:=K.1.trans (by simp[hl]);have Ms:A0 D5 0=sl (true,b) 4 []:=A8 K 0 (by simp[hl]);clear K;simp[J0,Ms];exact⟨[],⟨List.Pairwise.nil,λ_=>Iff.rfl⟩,rfl,rfl,rfl,_,rfl⟩
 .have hne':l≠[]:=by rintro rfl;exact P0 rfl
  have Do:=H3 hk;obtain⟨l',hp,hsort,hS⟩:=UU k h l hk hne' J4 B8;have hl':l'.length=l.length:=hp.length_eq;have hcm:VZ BX l':=⟨rfl,λa ha b hb=>fZ a b (J4 a (hp.mem_iff.1 ha)) (J4 b (hp.mem_iff.1 hb))⟩;obtain⟨Z,hZ,hZR,hC⟩:=NJ BX l' hcm k ⟨h.boxes,h.fams.set k ⟨A4 l',4,true⟩⟩ (by simp[Do]) (by omega);obtain⟨s1,s2,s3⟩:=Pm l' hsort;rw[hl']at hC hZ;generalize S5 l'=R at *
  simp only[A1D]at hC;refine gC Ed λfr hl h0=>?_;simp[Ed]at hl h0;simp[Ed,hl,h0,hS,hC];refine B7.mono (rk R Z l.length k hZ hZR B8 (by omega) (λt ht=>J4 t (hp.mem_iff.1 (s2 t ht))) _ _ ?_ ?_ ?_ ?_ ?_) ?_<;>first|(simp[hl,Do];done)|skip
  rintro e D5 h1 ⟨K,rfl,done,X,hX,rfl,hd,Di⟩;have J0:D5.length=23:=K.1.trans (by simp[hl]);have Ms:A0 D5 0=.sl k l.length 0 R.length:=A8 K 0 (by simp[hl]);clear K;simp[J0,Ms];refine⟨done,Vb ⟨s1.1,λe=>(s1.2 e).trans ?_⟩ hd,by omega,rfl,rfl,(false,true),?_⟩
  .simp only[A0a,hp.mem_iff]
  .have e1:X.length=l.length:=by rw[hX];simp;omega
   have e2:X.take R.length=A4 done:=by rw[hX,A0k,←Di,A1A (by simp),D0]
   have e3:R.length<=l.length:=by omega
   rw[Ld,CS];simp[Do,e1,e2,e3]
theorem YD (m:I7) (l:G7) (J4:∀t∈l,t.size<=1099511627776) (B8:l.length<=1048576) :
  ∃(R:List Tm) (m':Bool×Bool),pc Q Ai [sl m 4 (A4 l)]=some (sl m' 4 (A4 R))/\K7 R l/\(∀x∈R,x∈l)/\R.length<=l.length:=by
 have hlv:(A4 l).length=l.length:=by rw[D0,A0f]
 obtain⟨w,⟨B,F⟩,hC,hg,hb,hf⟩:=QH m (A4 l) (by omega) AH.empty;simp only[AH.empty,List.length_nil]at hC hg hb;subst hb
 suffices h:∃v,pc Q Ai [sl m 4 (A4 l)]=some v/\∃q:List Tm×(Bool×Bool),v=sl q.2 4 (A4 q.1)/\K7 q.1 l/\(∀x∈q.1,x∈l)/\q.1.length<=l.length by
  obtain⟨v,h1,q,rfl,h2⟩:=h;exact⟨q.1,q.2,h1,h2⟩
 rcases hg with ⟨hl0,b,rfl⟩|⟨P0,rfl,hk⟩
 .have:l=[]:=by rw[D0]at hl0;exact A02.1 hl0
  subst this;have hS:=gH ⟨[],F⟩ b;have hK:=Vy p8 ⟨[],F⟩ b;refine GU Am λΨ hΨ fr hl h0=>?_;simp[Am]at hl h0;simp[Am,hl,h0,hC,hS,hK];exact hΨ _ ⟨([],(true,b)),rfl,⟨List.Pairwise.nil,λ_=>Iff.rfl⟩,λ_ h=>h,A0S _⟩
 .have hne':l≠[]:=by rintro rfl;exact P0 rfl
  have Do:=H3 hk;obtain⟨l',hp,hsort,hS⟩:=UU 0 ⟨[],F⟩ l hk hne' J4 (by omega);have hl':l'.length=l.length:=hp.length_eq;have hcm:VZ p8 l':=⟨rfl,λa ha b hb=>pG a b (J4 a (hp.mem_iff.1 ha)) (J4 b (hp.mem_iff.1 hb))⟩;obtain⟨Z,hZ,hZR,hK⟩:=NJ p8 l' hcm 0 ⟨[],F.set 0 ⟨A4 l',4,true⟩⟩ (by simp only at Do;simp[Do]) (by omega);obtain⟨s1,s2,s3⟩:=Pm l' hsort;rw[hl']at hK hZ;generalize S5 l'=R at *
  simp only[A1D]at hK hS Do;rw[hlv]at hC;have e1:(A4 Z).length=l.length:=by rw[D0,A0f,hZ]
  have e2:(A4 Z).take R.length=A4 R:=by rw[←VW,hZR]
  have e3:R.length<=l.length:=by omega
  refine GU Am λΨ hΨ fr hl h0=>?_;simp[Am]at hl h0;simp[Am,hl,h0,hC,hS,hK,Do,e1,e2,e3];exact hΨ _ ⟨(R,(false,true)),rfl,⟨s1.1,λe=>(s1.2 e).trans (by simp only[A0a,hp.mem_iff])⟩,λx hx=>hp.mem_iff.1 (s2 x hx),e3⟩
mutual
def Cu:Tm->List Tm
 | .mk k nm s m l=>.mk k nm s m l::alls l
def alls:List Tm->List Tm
 | []=>[]
 |t::l=>Cu t++alls l
end
theorem AD (t:Tm):Cu t=t::alls t.kids:=by cases t;rfl
theorem G0 (l:G7):alls l=l.flatMap Cu:=by
 induction l with
 |nil=>rfl
 |cons t l ih=>rw[alls,ih,A06]
theorem PE {l:G7} {i:Nat} (h:i<l.length):alls (l.take (i+1))=alls (l.take i)++Cu l[i]:=by
 rw[A0Z h,G0,G0,A0r,A06,List.flatMap_nil,A0o]
mutual
theorem Mn:∀t:Tm,(Cu t).length=t.size
 | .mk _ _ _ _ l=>by
  have:=Q5 l;simp only[Cu,Tm.size,A0d];omega
theorem Q5:∀l:List Tm,(alls l).length=Tm.sizes l
 | []=>rfl
 |t::l=>by
  have:=Mn t;have:=Q5 l;simp only[alls,Tm.sizes,A0V];omega
end
theorem SK:∀(n:Nat) (t:Tm),t.size<=n->∀x∈Cu t,x.size<=t.size:=by
 intro n
 induction n with
 |zero=>intro t h;have:=t.size_pos;omega
 |succ n ih =>
  intro t hn x hx;rw[AD]at hx;rcases A0X.1 hx with rfl|hx
  .exact A0S _
  .have J4:=t.kids_size;rw[G0]at hx;obtain⟨y,hy,hx⟩:=A07.1 hx;have h1:=Tm.size_le hy;have:=ih y (by omega) x hx;omega
def LU (L:Nat) (h h':AH):Prop:=h.boxes.length<=h'.boxes.length/\∀j,L<=j->j<h.boxes.length->h'.boxes[j]?=h.boxes[j]?
theorem LU.trans {L:Nat} {a b c:AH} (h:LU L a b) (k:LU L b c):LU L a c :=
 ⟨Nat.le_trans h.1 k.1,λj h1 h2=>(k.2 j h1 (Nat.lt_of_lt_of_le h2 h.1)).trans (h.2 j h1 h2)⟩
theorem LU.refl (L:Nat) (a:AH):LU L a a:=⟨A0S _,λ_ _ _=>rfl⟩
theorem LU.push (L:Nat) (a:AH) (c:G3):LU L a ⟨a.boxes++[c],a.fams⟩ :=
 ⟨by simp,λj _ h=>by simp[A0Q h]⟩
structure Vis (g:FuncId) (caps:List AV) (p:Tm->Bool) (L:Nat) (I:List Tm->AH->Prop):Prop where
 raw:C2 g=true
 rawv:Lj q9=true
 noB:Dp g=false
 keep:∀acc h c,L<=h.boxes.length->I acc h->I acc ⟨h.boxes++[c],h.fams⟩
 call:∀(x:Tm) (acc:List Tm) (h:AH),acc.length<1099511627776->L<=h.boxes.length->I acc h ->
  ∃v h',rc Q g (B9 x::caps) h=some (v,h')/\I (acc++[x].filter p) h'/\LU L h h'
theorem nd {g:FuncId} {caps:G3} {p:Tm->Bool} {L:Nat} {I:List Tm->AH->Prop} (V:Vis g caps p L I) (m:I7) (l:G7) (acc:G7) (B8:acc.length+Tm.sizes l<=1099511627776)
  (IH:∀t∈l,∀(acc:List Tm) (h:AH),acc.length+t.size<=1099511627776->L<=h.boxes.length->I acc h->∃v h',rc Q q9 [B9 t,.fn g caps] h=some (v,h')/\I (acc++(Cu t).filter p) h'/\LU L h h')
  (fr:Fr) (h:AH) (hL:L<=h.boxes.length) (hI:I acc h) (hl:fr.length=20) (h1:A0 fr 1=.fn g caps) (h10:A0 fr 10=sl m 4 (A4 l)) (h11:A0 fr 11=.int .i64 l.length) (h12:A0 fr 12=.int .i64 0) :
  B7 (lp (A2 (K8 Q) (D6 q9) IU) (fr,h)) λe C4 h'=>Kp IU.wr fr C4/\e=.exit 0/\I (acc++(alls l).filter p) h'/\LU L h h':=by
 have hll:=Tm.length_le l;refine B4 rfl fr (λn fr h'=>∃i:Nat,i+n=l.length/\A0 fr 12=.int .i64 (i:Nat)/\I (acc++(alls (l.take i)).filter p) h'/\LU L h h') ?_ l.length h ⟨0,by omega,h12,by simpa[alls]using hI,LU.refl _ _⟩;rintro J Φ hJ hΦ n D5 H1 K ⟨i,hi,k12,hI',hK⟩;have A6:=K.1.trans hl;have k1:=A8 K 1 h1;have k10:=A8 K 10 h10;have k11:=A8 K 11 h11;clear K;by_cases A7:i<l.length
 .have L4:=C6 i (by omega);have hx:=H9 A7;have hat:=PE A7;have hb:(acc++(alls (l.take i)).filter p).length+l[i].size<=1099511627776:=by
   have a1:=A0n p (alls (l.take i));have a2:=Q5 (l.take (i+1));rw[hat,A0V,Mn]at a2;have a3:Tm.sizes (l.take (i+1))<=Tm.sizes l:=by
    have e:=congrArg A0y (congrArg alls (A00 (i+1) l));rw[G0,G0,A0r,A0V,←G0,←G0,←G0,Q5,Q5,Q5]at e;omega
   simp only[A0V];omega
  obtain⟨v,⟨B',F'⟩,hc,hI2,hK2⟩:=IH l[i] (A0b A7) _ ⟨H1.boxes++[(B9 l[i]).cells],H1.fams⟩ hb (by simp only[A0V];have:=hK.1;omega) (V.keep _ _ _ (by have:=hK.1;omega) hI');rw[A0g,←A04,←hat]at hI2;have hK3:=(hK.trans (LU.push L H1 (B9 l[i]).cells)).trans hK2;clear hat hb hI' IH;generalize l[i]=s at *
  obtain⟨B,F⟩:=H1;simp only[I1]at hc;simp[IU,A6,k1,k10,k11,k12,A7,hx,hc,L4];exact E9 hJ ⟨i+1,by omega,by simp[A6],hI2,hK3⟩
 .rw[A0m (by omega)]at hI';simp[IU,A6,k11,k12,A7];exact hΦ _ _ _ ⟨rfl,hI',hK⟩
theorem lc {g:FuncId} {caps:G3} {p:Tm->Bool} {L:Nat} {I:List Tm->AH->Prop} (V:Vis g caps p L I) :
  ∀(n:Nat) (t:Tm),t.size<=n->∀(acc:List Tm) (h:AH),acc.length+t.size<=1099511627776->L<=h.boxes.length->I acc h ->
   ∃v h',rc Q q9 [B9 t,.fn g caps] h=some (v,h')/\I (acc++(Cu t).filter p) h'/\LU L h h':=by
 intro n
 induction n with
 |zero=>intro t h;have:=t.size_pos;omega
 |succ n ih =>
  intro t hn acc h hb hL hI;have J4:=t.kids_size;obtain⟨B,F⟩:=h;simp only at hL;obtain⟨v1,⟨B1,F1⟩,hc1,hI1,hk1⟩:=V.call t acc ⟨B++[(B9 t).cells],F⟩ (by omega) (by simp only[A0V];omega) (V.keep _ ⟨B,F⟩ _ hL hI);have hk2:=(LU.push L ⟨B,F⟩ (B9 t).cells).trans hk1;have hown:B1[B.length]?=some (B9 t).cells:=by
   rw[hk1.2 B.length hL (by simp)];simp
  have hl0:(acc++[t].filter p).length+Tm.sizes t.kids<=1099511627776:=by
   have:=A0n p [t];simp only[A0V,List.length_singleton]at this ⊢;omega
  have GW:=nd V t.cm t.kids _ hl0 (λt' ht'=>ih t' (by have:=Tm.size_le ht';omega));clear ih hb hn hl0;have hraw:=V.raw;have hrv:=V.rawv;have hnb:=V.noB;simp only[I1]at hc1 hown;rw[show (Cu t).filter p=[t].filter p++(alls t.kids).filter p from by rw[AD,←A04];rfl,←A0g];refine Hl Ry λfr hl h0 h1=>?_;simp[Ry]at hl h0 h1;simp[Ry,hl,h0,h1,hc1,hraw,hrv,hnb,hown];refine B7.mono (GW _ _ ?_ hI1 ?_ ?_ ?_ ?_ ?_) ?_<;>first|(simp[hl,h1];done)|skip
  .have:=hk2.1;simp only at this ⊢;omega
  rintro e D5 Cv ⟨K,rfl,hI2,hk3⟩;simp;exact⟨by rw[←A0g];exact hI2,hk2.trans hk3⟩
def dL (sz:Nat) (acc:List AV) (v:AV) (h:AH):Prop:=(acc=[]/\v=.vs true 0 [])\/(acc≠[]/\∃k,v=.sl k acc.length 0 acc.length/\h.fams[k]?=some ⟨acc,sz,true⟩)
theorem dO {sz:Nat} {acc:G3} {v:AV} {h:AH} (hg:dL sz acc v h):∃k,mC k sz acc v h:=by
 rcases hg with ⟨rfl,rfl⟩|⟨P0,k,rfl,hk⟩
 .exact⟨0,.inl ⟨rfl,false,Il sz⟩⟩
 .exact⟨k,.inr ⟨P0,rfl,hk⟩⟩
theorem PA {sz:Nat} {acc:G3} {v:AV} {h h':AH} (hg:dL sz acc v h) (e:h'.fams=h.fams):dL sz acc v h':=by
 rcases hg with hg|⟨h1,k,h2,h3⟩
 .exact .inl hg
 .exact .inr ⟨h1,k,h2,by rw[e];exact h3⟩
theorem Pf {sz:Nat} {acc:G3} {v:AV} {h:AH} (hg:dL sz acc v h):v.isTup=false/\v.cells=[v]/\Es [v]=false:=by
 rcases hg with ⟨_,rfl⟩|⟨_,k,rfl,_⟩<;>exact⟨rfl,rfl,rfl⟩
theorem dM {sz:Nat} {acc:G3} {v:AV} {h:AH} (hg:dL sz acc v h) (h':AH):bZ h' v=some (.int .i64 acc.length,h'):=by
 rcases hg with ⟨rfl,rfl⟩|⟨P0,k,rfl,hk⟩<;>rfl
theorem dN {c:Ctx} {sz bytes:Nat} {acc:G3} {v z:AV} {h:AH} (hg:dL sz acc v h) (hm:c.mutApp=true) (m:I7)
  (hb:(acc.length+1)*bytes<=140737488355328) (hb':acc.length<=1099511627776):∃k F,K1 c h sz bytes v (sl m sz [z])=some (.sl k (acc.length+1) 0 (acc.length+1),⟨h.boxes,F⟩)/\F[k]?=some ⟨acc++[z],sz,true⟩/\k<F.length /\
   (∀x,(acc++[z]).set acc.length x=acc++[x])/\∀x B,dL sz (acc++[x]) (.sl k (acc.length+1) 0 (acc.length+1)) ⟨B,F.set k ⟨acc++[x],sz,true⟩⟩:=by
 have hr:(acc.length+1)*bytes<=H2/\acc.length+1<=maxLen:=by simp only[H2,maxLen];omega
 rcases hg with ⟨rfl,rfl⟩|⟨P0,k,rfl,hk⟩
 .rw[Pj,M9,A0i,if_neg (by simp),if_pos (by simpa using hr),hm];exact⟨h.fams.length,_,rfl,by simp,by simp,by simp,λx B=>.inr ⟨by simp,_,rfl,by simp⟩⟩
 .have Dt:=H3 hk;rw[LV,M9,A0i,hk,A0i,if_pos ⟨rfl,rfl,by omega,by simpa using hr⟩];exact⟨k,_,rfl,by simp[Dt],by simpa using Dt,by simp,λx B=>.inr ⟨by simp,k,by simp,by simp[Dt]⟩⟩
def kP (b:Nat) (acc:List Tm) (h:AH):Prop:=∃v,h.boxes[b]?=some [v]/\dL 4 (A4 acc) v h
@[simp] theorem xG (cs ds:G3):(AV.agg cs).reform ds=some (.agg ds):=rfl
@[simp] theorem steA_ep (h:AH) (n k m i q sz:Nat) (v:AV):YX h n (.ep k m i q sz) v=if OD v then ((h.fams[k]?).bind λf =>
  if f.xs.length=m/\f.sz=sz/\f.wr=true then
   (f.xs[i]?).bind λx=>(KH h false v).bind λu=>if u.cells.length=n/\q+n<=x.cells.length then
    (x.reform (M5 x.cells q u.cells)).map λy=>{h with fams:=h.fams.set k {f with xs:=f.xs.set i y}} else none
  else none).map (λh'=>(C5,h'))else none:=by
 have e:Im h n v k m i q sz=((h.fams[k]?).bind λf =>
  if f.xs.length=m/\f.sz=sz/\f.wr=true then
   (f.xs[i]?).bind λx=>(KH h false v).bind λu=>if u.cells.length=n/\q+n<=x.cells.length then
    (x.reform (M5 x.cells q u.cells)).map λy=>{h with fams:=h.fams.set k {f with xs:=f.xs.set i y}} else none
  else none):=by
  simp only[Im];cases h.fams[k]? with
  |none=>rfl
  |some f =>
   simp only[A0i];split
   .cases f.xs[i]? with
    |none=>rfl
    |some x=>cases KH h false v<;>rfl
   .rfl
 rw[←e];simp only[YX];split
 .cases Im h n v k m i q sz<;>rfl
 .rfl
@[simp] theorem stbA_ptr (h:AH) (n:Nat) (v:AV) (b off:Nat):YW h n (.ptr b off) v=(h.boxes[b]?).bind λcs=>if Es cs=false/\v.isTup=false/\v.cells.length=n/\off+n<=cs.length then some (C5,{h with boxes:=h.boxes.set b (M5 cs off v.cells)})else none:=by
 simp only[YW];cases h.boxes[b]?<;>rfl
theorem lu:B9 gr=AV.agg [.int .i64 0,.str (bs []),.int .i64 0,sl (true,false) 1 []]:=rfl
theorem lA:OD (AV.agg [.int .i64 0,.str (bs []),.int .i64 0,.vs true 0 []])=true:=rfl
theorem dE (b:Nat):Vis i8 [.ptr b 0] (λ_=>true) (b+1) (kP b) where
 raw:=rfl
 rawv:=rfl
 noB:=rfl
 keep:=by
  rintro acc h c hL ⟨v,h1,h2⟩;exact⟨v,by rw[A0Q (by omega)];exact h1,PA h2 rfl⟩
 call:=by
  rintro x acc ⟨B,F⟩ hb hL ⟨v,hv,hg⟩;simp only at hv hL;have hbl:=H3 hv;have hal:(A4 acc).length=acc.length:=by rw[D0,A0f]
  obtain⟨k,F',ha,hk,Do,Z8,hG⟩:=dN (c:=D6 i8) (bytes:=56) (z:=B9 gr) (PA (h':=⟨B++[(B9 x).cells],F⟩) hg rfl) rfl (true,true) (by omega) (by omega);obtain⟨c1,c2,c3⟩:=Pf hg;have B8:=dM hg;have hG2:=hG (B9 x);have hs2:=Z8 (B9 x);rw[hal]at ha hG2 hs2 B8;simp only[I1,lu]at ha hk hs2;have hq:(B++[[AV.int .i64 x.kind,.str x.name,.int .i64 x.sort,sl x.cm 4 (A4 x.kids)]])[b]?=some [v]:=by rw[A0Q hbl];exact hv
  refine Hl KC λfr hl h0 h1=>?_;simp[KC]at hl h0 h1;have hlt1:(acc.length:Int)<(acc.length:Int)+1:=by omega
  simp[KC,hl,h0,h1,hq,B8,ha,hk,c3,lA,A5,hbl,hal,hlt1];refine⟨⟨_,?_,by rw[P8];exact hG2 _⟩,?_,λj hj hj2=>?_⟩
  .simp[A0Q,hbl]
  .simp
  .simp only at hj2 ⊢;rw[A0Q (by simpa using hj2),A0p (by omega)]
def ww (a b:Nat) (kd:Int) (acc:List Tm) (h:AH):Prop:=h.boxes[a]?=some [.int .i64 kd]/\kP b acc h
theorem kI (a b:Nat) (HH:a<b) (kd:Int):Vis Aw [.ptr a 0,.ptr b 0] (λx=>decide (x.kind=kd)) (b+1) (ww a b kd) where
 raw:=rfl
 rawv:=rfl
 noB:=rfl
 keep:=by
  rintro acc h c hL ⟨h0,v,h1,h2⟩;exact⟨by rw[A0Q (by omega)];exact h0,v,by rw[A0Q (by omega)];exact h1,PA h2 rfl⟩
 call:=by
  rintro x acc ⟨B,F⟩ hb hL ⟨hkd,v,hv,hg⟩;simp only at hv hL hkd;have hbl:=H3 hv;have hal:(A4 acc).length=acc.length:=by rw[D0,A0f]
  have hq:(B++[[AV.int .i64 x.kind,.str x.name,.int .i64 x.sort,sl x.cm 4 (A4 x.kids)]])[b]?=some [v]:=by rw[A0Q hbl];exact hv
  have hq2:(B++[[AV.int .i64 x.kind,.str x.name,.int .i64 x.sort,sl x.cm 4 (A4 x.kids)]])[a]?=some [.int .i64 kd]:=by rw[A0Q (by omega)];exact hkd
  by_cases hc:x.kind=kd
  .subst hc;obtain⟨k,F',ha,hk,Do,Z8,hG⟩:=dN (c:=D6 Aw) (bytes:=56) (z:=B9 gr) (PA (h':=⟨B++[(B9 x).cells],F⟩) hg rfl) rfl (true,true) (by omega) (by omega);obtain⟨c1,c2,c3⟩:=Pf hg;have B8:=dM hg;have hG2:=hG (B9 x);have hs2:=Z8 (B9 x);rw[hal]at ha hG2 hs2 B8;simp only[I1,lu]at ha hk hs2;have hlt1:(acc.length:Int)<(acc.length:Int)+1:=by omega
   refine ch Cr λfr hl h0 h1 h2=>?_;simp[Cr]at hl h0 h1 h2;simp[Cr,hl,h0,h1,h2,hq,hq2,B8,ha,hk,c3,lA,A5,hbl,hal,hlt1];refine⟨⟨?_,_,?_,by rw[P8];exact hG2 _⟩,?_,λj hj hj2=>?_⟩
   .simp only;rw[A0Q (by simp;omega),A0p (by omega)];exact hkd
   .simp[A0Q,hbl]
   .simp
   .simp only at hj2 ⊢;rw[A0Q (by simpa using hj2),A0p (by omega)]
  .refine ch Cr λfr hl h0 h1 h2=>?_;simp[Cr]at hl h0 h1 h2;simp[Cr,hl,h0,h1,hq2,hc];exact⟨⟨hq2,v,hq,PA hg rfl⟩,LU.push _ ⟨B,F⟩ _⟩
theorem Yp (m:I7) (l:G7) (B8:Tm.sizes l<=1099511627776) (fr:Fr) (h:AH) (hh:h.boxes=[[.vs true 0 []]]) (hl:fr.length=18)
  (h3:A0 fr 3=.ptr 0 0) (h6:A0 fr 6=sl m 4 (A4 l)) (h7:A0 fr 7=.int .i64 l.length) (h8:A0 fr 8=.int .i64 0) :
  B7 (lp (A2 (K8 Q) (D6 Av) DV) (fr,h)) λe C4 h'=>Kp DV.wr fr C4/\e=.exit 0/\kP 0 (alls l) h':=by
 have hll:=Tm.length_le l;refine B4 rfl fr (λn fr h'=>∃i:Nat,i+n=l.length/\A0 fr 8=.int .i64 (i:Nat)/\kP 0 (alls (l.take i)) h'/\1<=h'.boxes.length) ?_ l.length h ⟨0,by omega,h8,⟨_,by rw[hh];rfl,.inl ⟨rfl,rfl⟩⟩,by rw[hh];simp⟩;rintro J Φ hJ hΦ n D5 H1 K ⟨i,hi,k8,hI,hB⟩;have A6:=K.1.trans hl;have k3:=A8 K 3 h3;have k6:=A8 K 6 h6;have k7:=A8 K 7 h7;clear K;by_cases A7:i<l.length
 .have L4:=C6 i (by omega);have hx:=H9 A7;have hat:=PE A7;have hV:=dE 0;have hb:(alls (l.take i)).length+l[i].size<=1099511627776:=by
   have a2:=Q5 (l.take (i+1));rw[hat,A0V,Mn]at a2;have a3:Tm.sizes (l.take (i+1))<=Tm.sizes l:=by
    have e:=congrArg A0y (congrArg alls (A00 (i+1) l));rw[G0,G0,A0r,A0V,←G0,←G0,←G0,Q5,Q5,Q5]at e;omega
   omega
  obtain⟨v,⟨B',F'⟩,hc,hI2,hK2⟩:=lc hV _ l[i] (A0S _) _ ⟨H1.boxes++[(B9 l[i]).cells],H1.fams⟩ hb (by simp) (hV.keep _ _ _ hB hI);rw[List.filter_eq_self.2 (λ_ _=>rfl),←hat]at hI2;have hB2:1<=B'.length:=by have:=hK2.1;simp at this;omega
  clear hat hb hI hV hK2;generalize l[i]=s at *
  obtain⟨B,F⟩:=H1;simp only[I1]at hc;simp[DV,A6,k3,k6,k7,k8,A7,hx,hc,L4];exact E9 hJ ⟨i+1,by omega,by simp[A6],hI2,hB2⟩
 .rw[A0m (by omega)]at hI;simp[DV,A6,k7,k8,A7];exact hΦ _ _ _ ⟨rfl,hI⟩
theorem Vs (m:I7) (l:G7) (B8:Tm.sizes l<=1099511627776) :
  ∃(R:List Tm) (m':Bool×Bool),pc Q Av [sl m 4 (A4 l)]=some (sl m' 4 (A4 R))/\K7 R (alls l)/\R.length<=Tm.sizes l:=by
 suffices h:∃v,pc Q Av [sl m 4 (A4 l)]=some v/\∃q:List Tm×(Bool×Bool),v=sl q.2 4 (A4 q.1)/\K7 q.1 (alls l)/\q.1.length<=Tm.sizes l by
  obtain⟨v,h1,q,rfl,h2⟩:=h;exact⟨q.1,q.2,h1,h2⟩
 refine GU MG λΨ hΨ fr hl h0=>?_;simp[MG]at hl h0;simp[MG,hl,h0];refine B7.mono (Yp m l B8 _ _ ?_ ?_ ?_ ?_ ?_ ?_) ?_<;>first|(simp[hl];done)|skip
 rintro e D5 ⟨B,F⟩ ⟨K,rfl,v,hv,hg⟩;simp only at hv;obtain⟨c1,c2,c3⟩:=Pf hg;obtain⟨k,hrow⟩:=dO hg;have hal:=Q5 l;obtain⟨v',⟨B',F'⟩,R,ho,hb,Z8,hRl,f1,f2,mm,f3⟩:=YI k (alls l) v ⟨B,F⟩ hrow (λt ht=>by
  rw[G0]at ht;obtain⟨y,hy,ht⟩:=A07.1 ht;have:=SK _ y (A0S _) t ht;have:=Tm.size_le hy;omega) (by omega)
 simp only at hb;subst hb;have J0:D5.length=18:=K.1.trans (by simp[hl]);have OE:A0 D5 3=.ptr 0 0:=A8 K 3 (by simp[hl]);clear K;simp[J0,OE,hv,c3,ho,f3];exact hΨ _ ⟨(R,mm),rfl,Z8,by simpa[hal]using hRl⟩
theorem vV (t:Tm) (B8:t.size<=1099511627776) :
  ∃(R:List Tm) (m':Bool×Bool),pc Q RX [B9 t]=some (sl m' 4 (A4 R))/\K7 R ((Cu t).filter λx=>decide (x.kind=1)):=by
 have hofk:∃(R:List Tm) (m':Bool×Bool),pc Q IG [B9 t,.int .i64 1]=some (sl m' 4 (A4 R))/\K7 R ((Cu t).filter λx=>decide (x.kind=1)):=by
  suffices h:∃v,pc Q IG [B9 t,.int .i64 1]=some v/\∃q:List Tm×(Bool×Bool),v=sl q.2 4 (A4 q.1)/\K7 q.1 ((Cu t).filter λx=>decide (x.kind=1)) by
   obtain⟨v,h1,q,rfl,h2⟩:=h;exact⟨q.1,q.2,h1,h2⟩
  have hV:=kI 1 2 (by omega) 1;obtain⟨w,⟨B,F⟩,hc,⟨_,v,hv,hg⟩,hK2⟩:=lc hV _ t (A0S _) [] ⟨[(B9 t).cells,[.int .i64 1],[.vs true 0 []]],[]⟩ (by simpa using B8) (by simp) ⟨rfl,_,rfl,.inl ⟨rfl,rfl⟩⟩;rw[List.nil_append]at hg;simp only at hv;obtain⟨c1,c2,c3⟩:=Pf hg;obtain⟨k,hrow⟩:=dO hg;have hal:=Mn t;have hfl:=A0n (λx:Tm=>decide (x.kind=1)) (Cu t);obtain⟨v',⟨B',F'⟩,R,ho,hb,Z8,hRl,f1,f2,mm,f3⟩:=YI k _ v ⟨B,F⟩ hrow (λx hx=>by
   have:=SK _ t (A0S _) x (List.mem_filter.1 hx).1;omega) (by omega)
  simp only at hb;subst hb;simp only[I1]at hc;refine Sp Ox λΨ hΨ fr hl h0 h1=>?_;simp[Ox]at hl h0 h1;simp[Ox,hl,h0,h1,hc,hv,c3,ho,f3];exact hΨ _ ⟨(R,mm),rfl,Z8⟩
 obtain⟨R,m',h1,h2⟩:=hofk;refine⟨R,m',?_,h2⟩;refine H5 Rv λfr hl h0=>?_;simp[Rv]at hl h0;simp[Rv,hl,h0,h1]
def J8 (l:List Tm) (t:Tm):Bool:=l.any λx=>JK x t
theorem V1 {l:G7} {t:Tm}:J8 l t=true↔E3 t∈l.map E3:=by
 simp only[J8,List.any_eq_true,JK,decide_eq_true_eq,A0a,V0]
theorem VB (x:Tm) (l:G7) (t:Tm):J8 (x::l) t=(JK x t||J8 l t):=rfl
theorem mF {R l:G7} (h:K7 R l) (t:Tm):J8 R t=J8 l t:=by
 rw[A09,V1,V1];exact h.2 _
theorem WW {l:G7} {t t':Tm} (h:E3 t=E3 t'):J8 l t=J8 l t':=by
 rw[A09,V1,V1,h]
theorem rS (m:I7) (l:G7) (t:Tm) (B8:l.length<=1099511627776) (hs:∀x∈l,x.size<=1099511627776) (ht:t.size<=1099511627776) (fr:Fr) (h:AH) (hh:h=⟨[(B9 t).cells],[]⟩) (hl:fr.length=18) (h0:A0 fr 0=sl m 4 (A4 l)) (h3:A0 fr 3=.ptr 0 0) (h5:A0 fr 5=.int .i64 0) :
  B7 (lp (A2 (K8 Q) (D6 Lf) Fx) (fr,h)) λe C4 h'=>Kp Fx.wr fr C4/\(e=.exit 0/\J8 l t=false\/e=.ret/\A0 C4 4=.bool true/\J8 l t=true):=by
 refine B4 rfl fr (λn fr h'=>∃(i:Nat),i+n=l.length/\A0 fr 5=.int .i64 (i:Nat)/\(h'=⟨[(B9 t).cells],[]⟩/\J8 (l.drop i) t=J8 l t)) ?_ l.length h ⟨0,by omega,h5,hh,rfl⟩;rintro J Φ hJ hΦ n D5 H1 K ⟨i,hi,k5,hr⟩;have A6:=K.1.trans hl;have k0:=A8 K 0 h0;have k3:=A8 K 3 h3;clear K;by_cases A7:i<l.length
 .have L4:=C6 i (by omega);obtain⟨rfl,hr⟩:=hr;have hx:=H9 A7;have hS:=cG l[i] t (hs _ (A0b A7)) ht;rw[A0u A7,VB]at hr;clear hh;generalize l[i]=s at *
  by_cases hc:JK s t=true
  .rw[hc]at hS hr;rw[Bool.true_or]at hr;simp[Fx,A6,k0,k3,k5,A7,hx,hS];exact hΦ _ _ _ (.inr ⟨rfl,by simp[A6],hr.symm⟩)
  .simp only[Bool.not_eq_true]at hc;rw[hc]at hS hr;simp[Fx,A6,k0,k3,k5,A7,L4,hx,hS];exact E9 hJ ⟨i+1,by omega,by simp[A6],by simp,by simpa using hr⟩
 .obtain⟨rfl,hr⟩:=hr;rw[A0x (by omega)]at hr;simp[Fx,A6,k0,k5,A7];exact hΦ _ _ _ (.inl ⟨rfl,hr.symm⟩)
theorem sI (m:I7) (l:G7) (t:Tm) (B8:l.length<=1099511627776) (hs:∀x∈l,x.size<=1099511627776) (ht:t.size<=1099511627776) :
  pc Q Lf [sl m 4 (A4 l),B9 t]=some (.bool (J8 l t)):=by
 refine O9 Rs λfr hl h0 h1=>?_;simp[Rs]at hl h0 h1;simp[Rs,h1];refine B7.mono (rS m l t B8 hs ht _ _ ?_ ?_ ?_ ?_ ?_) ?_<;>first|(simp[hl,h0];done)|skip
 rintro e D5 Cv ⟨K,⟨rfl,hh⟩|⟨rfl,h4,hh⟩⟩
 .have A6:D5.length=18:=K.1.trans (by simp[hl]);simp[A6,hh]
 .simp[h4,hh]
def Ln (t:Tm):Bool->List Tm->List Tm
 |d,[]=>if d then []else [t]
 |d,x::l=>if d=false/\H6 t x<=0 then (if H6 t x<0 then t::x::Ln t true l else x::Ln t true l)else x::Ln t d l
theorem mI (t:Tm) (d:Bool) (x:Tm) (l:G7):Ln t d (x::l)=if d=false/\H6 t x<=0 then (if H6 t x<0 then t::x::Ln t true l else x::Ln t true l)else x::Ln t d l:=rfl
theorem ZP (t:Tm) (l:G7):Ln t true l=l:=by
 induction l with
 |nil=>rfl
 |cons x l ih=>simp[Ln,ih]
theorem Uu:∀(t:Tm) (l:G7),l.Pairwise (λa b=>H6 a b<0)->(Ln t false l).Pairwise (λa b=>H6 a b<0)/\(∀x∈Ln t false l,x=t\/x∈l)/\(∀x∈l,x∈Ln t false l)/\E3 t∈(Ln t false l).map E3/\(Ln t false l).length<=l.length+1
 |t,[],_=>by simp[Ln]
 |t,x::l,h=>by
  obtain⟨h1,h2⟩:=A0W.1 h;obtain⟨i1,i2,i3,i4,i5⟩:=Uu t l h2;unfold Ln;by_cases hc:H6 t x<=0
  .rw[if_pos ⟨rfl,hc⟩,ZP];by_cases hc2:H6 t x<0
   .rw[if_pos hc2];refine⟨A0W.2 ⟨λy hy=>?_,h⟩,λy hy=>by simpa using hy,λy hy=>A0U _ hy,by simp,by simp⟩;rcases A0X.1 hy with rfl|hy
    .exact hc2
    .exact GZ hc2 (h1 y hy)
   .rw[if_neg hc2];have:E3 t=E3 x:=V0.1 (by omega);exact⟨h,λy hy=>.inr hy,λy hy=>hy,by simp[this],by simp⟩
  .rw[if_neg (λk=>hc k.2)];have hxt:H6 x t<0:=by
    rcases A0v (H6 x t) 0 with q|q
    .exact q
    .rcases A0e q with q|q
     .have:=KV.1.2 q;omega
     .have:=KV.2.1 q.symm;omega
   refine⟨A0W.2 ⟨λy hy=>?_,i1⟩,λy hy=>?_,λy hy=>?_,?_,by simp only[A0d];omega⟩
   .rcases i2 y hy with rfl|hy
    .exact hxt
    .exact h1 y hy
   .rcases A0X.1 hy with rfl|hy
    .exact .inr A0R
    .rcases i2 y hy with rfl|hy
     .exact .inl rfl
     .exact .inr (A0U _ hy)
   .rcases A0X.1 hy with rfl|hy
    .exact A0R
    .exact A0U _ (i3 y hy)
   .rw[A0Y];exact A0U _ i4
theorem iD {t:Tm} {R l:G7} (h:K7 R l):K7 (Ln t false R) (l++[t]):=by
 obtain⟨i1,i2,i3,i4,-⟩:=Uu t R h.1;refine⟨i1,λe=>?_⟩;rw[A0k,List.mem_append,A0Y,A05,List.mem_singleton,←h.2 e];constructor
 .intro he;obtain⟨x,hx,rfl⟩:=A0a.1 he;rcases i2 x hx with rfl|hx
  .exact .inr rfl
  .exact .inl (A0j hx)
 .rintro(he|rfl)
  .obtain⟨x,hx,rfl⟩:=A0a.1 he;exact A0j (i3 x hx)
  .exact i4
theorem rP (m:I7) (l:G7) (t:Tm) (B8:l.length<=1048576) (hs:∀x∈l,x.size<=1099511627776) (ht:t.size<=1099511627776) (fr:Fr) (h:AH) (hh:h=⟨[(B9 t).cells],[]⟩) (h5:A0 fr 5=.vs true 0 []) (h6:A0 fr 6=.bool false) (hl:fr.length=47) (h0:A0 fr 0=sl m 4 (A4 l)) (h3:A0 fr 3=.ptr 0 0) (h7:A0 fr 7=.int .i64 0) :
  B7 (lp (A2 (K8 Q) (D6 q8) AL) (fr,h)) λe C4 h'=>Kp AL.wr fr C4/\e=.exit 0/\∃(acc:List Tm) (d:Bool) (v:AV),h'.boxes=[(B9 t).cells]/\A0 C4 5=v/\A0 C4 6=.bool d/\Dr 4 (A4 acc) v h'/\acc.length<=2*l.length/\acc++Ln t d []=Ln t false l:=by
 refine B4 rfl fr (λn fr h'=>∃(i:Nat),i+n=l.length/\A0 fr 7=.int .i64 (i:Nat)/\(∃(acc:List Tm) (d:Bool) (v:AV),h'.boxes=[(B9 t).cells]/\A0 fr 5=v/\A0 fr 6=.bool d/\Dr 4 (A4 acc) v h'/\acc.length<=2*i/\acc++Ln t d (l.drop i)=Ln t false l)) ?_ l.length h ⟨0,by omega,h7,[],false,_,by rw[hh],h5,h6,Ct _ _,by simp,rfl⟩;rintro J Φ hJ hΦ n D5 H1 K ⟨i,hi,k7,hr⟩;have A6:=K.1.trans hl;have k0:=A8 K 0 h0;have k3:=A8 K 3 h3;clear K;by_cases A7:i<l.length
 .have L4:=C6 i (by omega);obtain⟨acc,d,v,hB,k5,k6,hg,hal,hr⟩:=hr;obtain⟨B,F⟩:=H1;simp only at hB;subst hB;have hx:=H9 A7;have hC:=TB _ t l[i] (A0S _) ht (hs _ (A0b A7));rw[A0u A7]at hr;clear hh;generalize l[i]=s at *
  have hlA:(A4 acc).length=acc.length:=by rw[D0,A0f]
  rw[mI]at hr;by_cases hc:d=false/\H6 t s<=0
  .obtain⟨rfl,hc⟩:=hc;rw[if_pos ⟨rfl,hc⟩]at hr;by_cases hc2:H6 t s<0
   .rw[if_pos hc2]at hr;obtain⟨v1,⟨B1,F1⟩,a1,g1,b1⟩:=Af (c:=D6 q8) (bytes:=56) (x:=B9 t) hg rfl (true,true) (by omega) (by omega);obtain⟨v2,⟨B2,F2⟩,a2,g2,b2⟩:=Af (c:=D6 q8) (bytes:=56) (x:=B9 s) g1 rfl (true,true) (by simp;omega) (by simp;omega);simp only at b1 b2;subst b1 b2;rw[←P8]at g2 g1;rw[←P8]at g2;obtain⟨c1,c2,-⟩:=L5 g1;obtain⟨c3,c4,-⟩:=L5 g2;simp only[I1]at a1 a2;simp[AL,A6,k0,k3,k7,A7,L4,k5,k6,hx,hC,hc,hc2,A5,a1,a2];exact E9 hJ ⟨i+1,by omega,by simp[A6],acc++[t]++[s],true,_,by simp,by simp[A6],by simp[A6],g2,by simp;omega,by rw[←hr];simp⟩
   .rw[if_neg hc2]at hr;obtain⟨v1,⟨B1,F1⟩,a1,g1,b1⟩:=Af (c:=D6 q8) (bytes:=56) (x:=B9 s) hg rfl (true,true) (by omega) (by omega);simp only at b1;subst b1;rw[←P8]at g1;obtain⟨c1,c2,-⟩:=L5 g1;simp only[I1]at a1;simp[AL,A6,k0,k3,k7,A7,L4,k5,k6,hx,hC,hc,hc2,A5,a1];exact E9 hJ ⟨i+1,by omega,by simp[A6],acc++[s],true,_,by simp,by simp[A6],by simp[A6],g1,by simp;omega,by rw[←hr];simp⟩
  .rw[if_neg hc]at hr;obtain⟨v1,⟨B1,F1⟩,a1,g1,b1⟩:=Af (c:=D6 q8) (bytes:=56) (x:=B9 s) hg rfl (true,true) (by omega) (by omega);simp only at b1;subst b1;rw[←P8]at g1;obtain⟨c1,c2,-⟩:=L5 g1;simp only[I1]at a1;have hc':d=true\/¬H6 t s<=0:=by cases d<;>simp_all
   rcases hc' with rfl|hc'
   .simp[AL,A6,k0,k3,k7,A7,L4,k5,k6,hx,hC,A5,a1];exact E9 hJ ⟨i+1,by omega,by simp[A6],acc++[s],true,_,by simp,by simp[A6],by simp[k6],g1,by simp;omega,by rw[←hr];simp⟩
   .cases d with
    |false =>
     simp[AL,A6,k0,k3,k7,A7,L4,k5,k6,hx,hC,hc',A5,a1];exact E9 hJ ⟨i+1,by omega,by simp[A6],acc++[s],false,_,by simp,by simp[A6],by simp[k6],g1,by simp;omega,by rw[←hr];simp⟩
    |true =>
     simp[AL,A6,k0,k3,k7,A7,L4,k5,k6,hx,hC,A5,a1];exact E9 hJ ⟨i+1,by omega,by simp[A6],acc++[s],true,_,by simp,by simp[A6],by simp[k6],g1,by simp;omega,by rw[←hr];simp⟩
 .obtain⟨acc,d,v,hB,k5,k6,hg,hal,hr⟩:=hr;rw[A0x (by omega)]at hr;simp[AL,A6,k0,k7,A7];exact hΦ _ _ _ ⟨rfl,acc,d,v,hB,by simp[k5],by simp[k6],hg,by omega,hr⟩
end Go.Abs.Q
