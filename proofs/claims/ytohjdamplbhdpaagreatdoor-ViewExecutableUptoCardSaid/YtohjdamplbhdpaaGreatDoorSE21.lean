/- A part of the proof. -/
import Derived.Test.YtohjdamplbhdpaaGreatDoorSE20
import Derived.KernelRfl
set_option linter.all false
open List renaming getElem?_eq_getElem->A0Z,mem_cons_self->A0a,length_append->A0b,eq_nil_of_length_eq_zero->A0c,length_map->A0d,cons_append->A0e,length_cons->A0h,mem_cons_of_mem->A0i,getD_eq_getElem?_getD->A0j,mem_map->A0k,all_eq_true->A0n,getElem_mem->A0o,not_mem_nil->A0p,length_replicate->A0q,map_append->A0r,mem_of_getElem?->A0s,nil_append->A0t,mem_range->A0u,mem_cons->A0v,append_assoc->A0w,drop_eq_getElem_cons->A0x,getElem?_eq_some_iff->A0y,any_eq_true->A0z,mem_append->A00,append_eq_nil_iff->A01,drop_eq_nil_of_le->A02,length_singleton->A03,mem_append_left->A04,range->A05,mem_map_of_mem->A07,mem_singleton->A08,all_eq_false->A09,getElem?_map->A1A,length->A1B,mem_flatMap->A1D,nodup_cons->A1E,replicate->A1H
open Nat renaming le_refl->A0f,zero_le->A1C,le_trans->A1I
open Int renaming toNat_natCast->A0g,eq_ofNat_of_zero_le->A0l
open Bool renaming and_eq_true->A0m,true_and->A06,false_and->A1G
open Option renaming map_some->A1F
namespace Go.Abs
def Yt (L:Nat) (wr:Bool) (sz:Nat) (xs:List AV) (v:AV) (h:AH):Prop:=(xs.length<=1/\∃b,v=sl (true,b) sz xs)\/(xs≠[]/\∃k,L<=k/\v=.sl k xs.length 0 xs.length/\h.fams[k]?=some ⟨xs,sz,wr⟩)
theorem Yt.a {L:Nat} {wr:Bool} {sz:Nat} {xs:G6} {v:AV} {h:AH} (hg:Yt L wr sz xs v h):KM wr sz xs v h:=by
 rcases hg with hg|⟨h1,k,_,h2,h3⟩
 .exact .inl hg.2
 .exact .inr ⟨h1,k,h2,h3⟩
theorem JV {L:Nat} {wr:Bool} {sz:Nat} {xs:G6} {v:AV} {h h':AH} (hg:Yt L wr sz xs v h) (e:h'.fams=h.fams):Yt L wr sz xs v h':=by
 rcases hg with hg|⟨h1,k,h0,h2,h3⟩
 .exact .inl hg
 .exact .inr ⟨h1,k,h0,h2,by rw[e];exact h3⟩
theorem Yt.mono {L L':Nat} {wr:Bool} {sz:Nat} {xs:G6} {v:AV} {h:AH} (hg:Yt L wr sz xs v h) (hL:L'<=L):Yt L' wr sz xs v h:=by
 rcases hg with hg|⟨h1,k,h0,h2,h3⟩
 .exact .inl hg
 .exact .inr ⟨h1,k,by omega,h2,h3⟩
theorem qX {L:Nat} {wr:Bool} {sz:Nat} {xs:G6} {v:AV} {h h':AH} (hg:Yt L wr sz xs v h) (e:∀j,j<h.fams.length->h'.fams[j]?=h.fams[j]?):Yt L wr sz xs v h':=by
 rcases hg with hg|⟨h1,k,h0,h2,h3⟩
 .exact .inl hg
 .exact .inr ⟨h1,k,h0,h2,by rw[e _ (A0y.1 h3).1];exact h3⟩
theorem kZ {c:Ctx} {L sz bytes:Nat} {xs ys:G6} {v x:AV} {h:AH} (hL:L<=h.fams.length) (hg:Yt L c.mutApp sz xs v h) (hx:AY h sz x=some ys) (hb:(xs.length+ys.length)*bytes<=H3/\xs.length+ys.length<=maxLen) :
  ∃v' F',K6 c h sz bytes v x=some (v',⟨h.boxes,F'⟩)/\Yt L c.mutApp sz (xs++ys) v' ⟨h.boxes,F'⟩/\L<=F'.length/\∀j,j<L->F'[j]?=h.fams[j]?:=by
 rcases hg with ⟨hx1,b,rfl⟩|⟨P4,k,hk0,rfl,hk⟩
 .simp only[sl,K6,hx];by_cases hy:ys.length=0
  .rw[if_pos hy];have:ys=[]:=A0c hy;subst this;exact⟨_,h.fams,rfl,.inl ⟨by simpa using hx1,b,by simp[sl]⟩,hL,λ_ _=>rfl⟩
  .rw[if_neg hy];have hc:((if (xs.isEmpty&&!b)=true then 0 else sz)=sz\/xs.length=0)/\(xs.length+ys.length)*bytes<=H3/\xs.length+ys.length<=maxLen:=by
    refine⟨?_,hb⟩;cases xs with
    |nil=>exact .inr rfl
    |cons a l=>exact .inl rfl
   rw[if_pos hc];refine⟨_,_,rfl,.inr ⟨by intro e;rw[A01]at e;rw[e.2]at hy;exact hy rfl,h.fams.length,hL,by rw[A0b],by simp⟩,by simp;omega,λj hj=>List.getElem?_append_left (by omega)⟩
 .simp only[K6,hx,hk];rw[if_pos ⟨trivial,trivial,by omega,hb.1,hb.2⟩];have Bs:=(A0y.1 hk).1;refine⟨_,_,rfl,.inr ⟨by intro e;rw[A01]at e;exact P4 e.1,k,hk0,by rw[A0b],by simp[Bs]⟩,by simpa using hL,λj hj=>?_⟩;exact List.getElem?_set_ne (by omega)
end Go.Abs
namespace Go.Abs.Q
open Go.Proofs
attribute [local simp] E6 E8 fin K1 H2 P7 M6 R4 R3
noncomputable def HT (k:List Tm):Nat->Tm->List Tm
 |0,_=>[]
 |n+1,t =>
  if q8 t (bs [112,97,105,114])=true then HT k n (J0 t 0)++HT k n (J0 t 1)
  else if q8 t (bs [115,105,103,110])=true then HT k n (J0 t 0)
  else if q8 t (bs [101,110,99])=true then (if (S7 k (J0 t 1)).2=true then HT k n (J0 t 0)else [t])
  else if q8 t (bs [97,101,110,99])=true then (if (S7 k (J0 (J0 t 1) 0)).2=true then HT k n (J0 t 0)else if (S7 k (J0 t 0)).2=true then []else [t])
  else if q8 t (bs [104,97,115,104])=true then (if (S7 k (J0 t 0)).2=true then []else [t])else []
def XB (t:Tm):Prop:=∀x∈DC t,q8 x (bs [97,101,110,99])=true->q8 (J0 x 1) (bs [112,107])=true
theorem XB.kid {t x:Tm} (h:XB t) (hx:x∈t.kids):XB x:=λy hy=>h y (by
 rw[AL,G3];exact A0i _ (A1D.2 ⟨x,hx,hy⟩))
theorem XB.root {t:Tm} (h:XB t):q8 t (bs [97,101,110,99])=true->q8 (J0 t 1) (bs [112,107])=true:=h t (by rw[AL];exact A0a)
theorem cf (m:I6) (k:G7) (t:Tm) (hk:∀x∈k,GoodT x) (ht:GoodT t) (Bs:k.length<=1048576):pc Q Kk [sl m 4 (A4 k),B9 t]=some (.bool (S7 k t).2):=by
 have hD:=cP m k t hk ht Bs;have hT:(S7 k t).2=true->(S7 k t).1=0:=λh=>(mn h).1;generalize S7 k t=d at *
 obtain⟨e,b⟩:=d;simp only at hD hT;cases b with
 |false =>
  refine N3 LJ λfr hl h0 h1=>?_;simp[LJ]at hl h0 h1;simp[LJ,hl,h0,h1,hD]
 |true =>
  have hT0:=hT rfl;subst hT0;refine N3 LJ λfr hl h0 h1=>?_;simp[LJ]at hl h0 h1;simp[LJ,hl,h0,h1,hD]
theorem dz:bs [112,97,105,114]≠bs [115,105,103,110]/\bs [112,97,105,114]≠bs [101,110,99]/\bs [112,97,105,114]≠bs [97,101,110,99]/\bs [112,97,105,114]≠bs [104,97,115,104]/\bs [115,105,103,110]≠bs [112,97,105,114]/\bs [115,105,103,110]≠bs [101,110,99]/\bs [115,105,103,110]≠bs [97,101,110,99]/\bs [115,105,103,110]≠bs [104,97,115,104]/\bs [101,110,99]≠bs [112,97,105,114]/\bs [101,110,99]≠bs [115,105,103,110]/\bs [101,110,99]≠bs [97,101,110,99]/\bs [101,110,99]≠bs [104,97,115,104]/\bs [97,101,110,99]≠bs [112,97,105,114]/\bs [97,101,110,99]≠bs [115,105,103,110]/\bs [97,101,110,99]≠bs [101,110,99]/\bs [97,101,110,99]≠bs [104,97,115,104]/\bs [104,97,115,104]≠bs [112,97,105,114]/\bs [104,97,115,104]≠bs [115,105,103,110]/\bs [104,97,115,104]≠bs [101,110,99]/\bs [104,97,115,104]≠bs [97,101,110,99]:=by decide
theorem pt (m:I6) (k:G7) (hk:∀x∈k,GoodT x) (Bs:k.length<=1048576):∀(N:Nat) (t:Tm),t.size<=N->Hv t->XB t->t.size<=40->∀h:AH,
  ∃v h',rc Q S2 [sl m 4 (A4 k),B9 t] h=some (v,h')/\Yt h.fams.length true 4 (A4 (HT k N t)) v h'/\(HT k N t).length<=t.size/\(∃B,h'.boxes=h.boxes++B)/\h.fams.length<=h'.fams.length/\∀j,j<h.fams.length->h'.fams[j]?=h.fams[j]?:=by
 intro N
 induction N with
 |zero=>intro t hs;have:=t.size_pos;omega
 |succ N ih0 =>
  intro t hs hA hE h40 h;have ih:∀(t:Tm),t.size<=N->Hv t->XB t->t.size<=40->∀h:AH,∃v F',WW true h (rc Q S2 [sl m 4 (A4 k),B9 t] h)=some (v,⟨h.boxes,F'⟩)/\Yt h.fams.length true 4 (A4 (HT k N t)) v ⟨h.boxes,F'⟩/\(HT k N t).length<=t.size/\h.fams.length<=F'.length/\∀j,j<h.fams.length->F'[j]?=h.fams[j]?:=by
   intro t a b c d h;obtain⟨v,h',e1,e2,e3,e4,e5,e6⟩:=ih0 t a b c d h;exact⟨v,h'.fams,NE e1 (Mn e2.a).2.2.2 e4,e2,e3,e5,e6⟩
  clear ih0;have BJ:=(hA.good h40).ok;have hnil:∀X:AH,Yt h.fams.length true 4 (A4 []) (.vs true 0 []) X:=λX=>.inl ⟨by simp,false,rfl⟩;have hone:∀X:AH,Yt h.fams.length true 4 (A4 [t]) (sl (true,true) 4 [B9 t]) X:=λX=>.inl ⟨by simp,true,rfl⟩;have hks:=t.kids_size;have hsp:=t.size_pos;by_cases hK:t.kind=3
  .have hname:∀nm,t.name=nm->q8 t nm=true:=λnm h=>Io.2 ⟨hK,h⟩;have hname':∀nm,t.name≠nm->q8 t nm=false:=λnm h=>by
    cases hq:q8 t nm with
    |false=>rfl
    |true=>exact absurd (Io.1 hq).2 h
   by_cases c1:t.name=bs [112,97,105,114]
   .obtain⟨a,b,BI⟩:=S0 BJ (hname _ c1) (.inl rfl);rw[BI]at hks;simp only[Tm.sizes]at hks;have hx0:IZ (A4 t.kids) 0=some (B9 a):=by rw[BI];rfl
    have hx1:IZ (A4 t.kids) 1=some (B9 b):=by rw[BI];rfl
    have hB:HT k (N+1) t=HT k N a++HT k N b:=by rw[HT,if_pos (hname _ c1),J0,J0,BI];rfl
    rw[hB];have am:a∈t.kids:=by rw[BI];simp
    have bm:b∈t.kids:=by rw[BI];simp
    obtain⟨bx,F⟩:=h;obtain⟨va,Fa,a1,a2,a3,a4,a5⟩:=ih a (by omega) (hA.kid am) (hE.kid am) (by omega) ⟨bx++[(B9 t).cells],F⟩;obtain⟨vb,Fb,b1,b2,b3,b4,b5⟩:=ih b (by omega) (hA.kid bm) (hE.kid bm) (by omega) ⟨bx++[(B9 t).cells],Fa⟩;simp only at a4 a5 b4 b5;have a2':Yt F.length true 4 (A4 (HT k N a)) va ⟨bx++[(B9 t).cells],Fb⟩:=qX a2 b5;obtain⟨vc,Fc,p1,p2,p3,p4⟩:=kZ (c:=D6 S2) (bytes:=56) (h:=⟨bx++[(B9 t).cells],Fb⟩) (show F.length<=_ by simp only;omega) a2' (ZV (b2.mono a4).a _) (by simp only[H3,maxLen,C9,A0d];omega);rw[show A4 (HT k N a)++A4 (HT k N b)=A4 (HT k N a++HT k N b) from by simp[C9]]at p2;simp only at p1;simp only[I3,hK,c1]at a1 b1 p1;refine Dm E9 λfr hl h0 h1=>?_;simp[E9]at hl h0 h1;simp[E9,hl,h0,h1,hK,c1,hx0,hx1,a1,b1,p1];exact⟨JV p2 rfl,by omega,p3,λj hj=>(p4 j hj).trans ((b5 j (by omega)).trans (a5 j hj))⟩
   by_cases c2:t.name=bs [115,105,103,110]
   .obtain⟨a,b,BI⟩:=S0 BJ (hname _ c2) (.inr (.inr (.inr (.inl rfl))));rw[BI]at hks;simp only[Tm.sizes]at hks;have hx0:IZ (A4 t.kids) 0=some (B9 a):=by rw[BI];rfl
    have hB:HT k (N+1) t=HT k N a:=by rw[HT,hname' _ c1,hname _ c2,J0,BI];rfl
    rw[hB];have am:a∈t.kids:=by rw[BI];simp
    obtain⟨bx,F⟩:=h;obtain⟨va,Fa,a1,a2,a3,a4,a5⟩:=ih a (by omega) (hA.kid am) (hE.kid am) (by omega) ⟨bx++[(B9 t).cells],F⟩;simp only at a4 a5;simp only[I3,hK,c2]at a1;refine Dm E9 λfr hl h0 h1=>?_;simp[E9]at hl h0 h1;simp[E9,hl,h0,h1,dz,hK,c2,hx0,a1];exact⟨JV a2 rfl,by omega,a4,a5⟩
   by_cases c3:t.name=bs [101,110,99]
   .have hag:AV.agg [.int .i64 3,.str (bs [101,110,99]),.int .i64 t.sort,sl t.cm 4 (A4 t.kids)]=B9 t:=by rw[←hK,←c3];cases t;rfl
    obtain⟨a,b,BI⟩:=S0 BJ (hname _ c3) (.inr (.inl rfl));rw[BI]at hks;simp only[Tm.sizes]at hks;have hx0:IZ (A4 t.kids) 0=some (B9 a):=by rw[BI];rfl
    have hx1:IZ (A4 t.kids) 1=some (B9 b):=by rw[BI];rfl
    have hB:HT k (N+1) t=if (S7 k b).2=true then HT k N a else [t]:=by rw[HT,hname' _ c1,hname' _ c2,hname _ c3,J0,J0,BI];rfl
    rw[hB];have am:a∈t.kids:=by rw[BI];simp
    have bm:b∈t.kids:=by rw[BI];simp
    have hC:=cf m k b hk ((hA.kid bm).good (by omega)) Bs;obtain⟨bx,F⟩:=h;obtain⟨va,Fa,a1,a2,a3,a4,a5⟩:=ih a (by omega) (hA.kid am) (hE.kid am) (by omega) ⟨bx++[(B9 t).cells],F⟩;simp only at a4 a5;simp only[I3,hK,c3]at a1;cases hd:(S7 k b).2 with
    |true =>
     rw[hd]at hC;rw[if_pos rfl];refine Dm E9 λfr hl h0 h1=>?_;simp[E9]at hl h0 h1;simp[E9,hl,h0,h1,dz,hK,c3,hx0,hx1,hC,a1];exact⟨JV a2 rfl,by omega,a4,a5⟩
    |false =>
     rw[hd]at hC;rw[if_neg (by simp)];refine Dm E9 λfr hl h0 h1=>?_;simp[E9]at hl h0 h1;simp[E9,hl,h0,h1,dz,hK,c3,hx1,hC,hag,A5];exact⟨hone _,by omega⟩
   by_cases c4:t.name=bs [97,101,110,99]
   .have hag:AV.agg [.int .i64 3,.str (bs [97,101,110,99]),.int .i64 t.sort,sl t.cm 4 (A4 t.kids)]=B9 t:=by rw[←hK,←c4];cases t;rfl
    obtain⟨a,b,BI⟩:=S0 BJ (hname _ c4) (.inr (.inr (.inl rfl)));rw[BI]at hks;simp only[Tm.sizes]at hks;have am:a∈t.kids:=by rw[BI];simp
    have bm:b∈t.kids:=by rw[BI];simp
    have hb:=hE.root (hname _ c4);rw[show J0 t 1=b from by rw[J0,BI];rfl]at hb;obtain⟨p1,p2⟩:=Io.1 hb;have hbok:=((hA.kid bm).good (by omega)).ok;obtain⟨c,hc⟩:=hbok.one p1 (by rw[p2];exact .inl rfl);have hsz2:=b.kids_size;rw[hc]at hsz2;simp only[Tm.sizes]at hsz2;have hx0:IZ (A4 t.kids) 0=some (B9 a):=by rw[BI];rfl
    have hx1:IZ (A4 t.kids) 1=some (B9 b):=by rw[BI];rfl
    have hy0:IZ (A4 b.kids) 0=some (B9 c):=by rw[hc];rfl
    have hB:HT k (N+1) t=if (S7 k c).2=true then HT k N a else if (S7 k a).2=true then []else [t]:=by rw[HT,hname' _ c1,hname' _ c2,hname' _ c3,hname _ c4,J0,J0,BI,J0];simp only[List.getD_cons_succ,List.getD_cons_zero,hc];rfl
    rw[hB];have hC:=cf m k c hk (((hA.kid bm).kid (by rw[hc];simp)).good (by omega)) Bs;have hC2:=cf m k a hk ((hA.kid am).good (by omega)) Bs;obtain⟨bx,F⟩:=h;obtain⟨va,Fa,a1,a2,a3,a4,a5⟩:=ih a (by omega) (hA.kid am) (hE.kid am) (by omega) ⟨bx++[(B9 t).cells],F⟩;simp only at a4 a5;simp only[I3,hK,c4]at a1;cases hd:(S7 k c).2 with
    |true =>
     rw[hd]at hC;rw[if_pos rfl];refine Dm E9 λfr hl h0 h1=>?_;simp[E9]at hl h0 h1;simp[E9,hl,h0,h1,dz,hK,c4,hx0,hx1,hy0,hC,a1];exact⟨JV a2 rfl,by omega,a4,a5⟩
    |false =>
     rw[hd]at hC;rw[if_neg (by simp)];cases hd2:(S7 k a).2 with
     |true =>
      rw[hd2]at hC2;rw[if_pos rfl];refine Dm E9 λfr hl h0 h1=>?_;simp[E9]at hl h0 h1;simp[E9,hl,h0,h1,dz,hK,c4,hx0,hx1,hy0,hC,hC2];exact hnil _
     |false =>
      rw[hd2]at hC2;rw[if_neg (by simp)];refine Dm E9 λfr hl h0 h1=>?_;simp[E9]at hl h0 h1;simp[E9,hl,h0,h1,dz,hK,c4,hx0,hx1,hy0,hC,hC2,hag,A5];exact⟨hone _,by omega⟩
   by_cases c5:t.name=bs [104,97,115,104]
   .have hag:AV.agg [.int .i64 3,.str (bs [104,97,115,104]),.int .i64 t.sort,sl t.cm 4 (A4 t.kids)]=B9 t:=by rw[←hK,←c5];cases t;rfl
    obtain⟨a,BI⟩:=BJ.one hK (by rw[c5];exact .inr (.inl rfl));rw[BI]at hks;simp only[Tm.sizes]at hks;have hx0:IZ (A4 t.kids) 0=some (B9 a):=by rw[BI];rfl
    have hB:HT k (N+1) t=if (S7 k a).2=true then []else [t]:=by rw[HT,hname' _ c1,hname' _ c2,hname' _ c3,hname' _ c4,hname _ c5,J0,BI];rfl
    rw[hB];have am:a∈t.kids:=by rw[BI];simp
    have hC:=cf m k a hk ((hA.kid am).good (by omega)) Bs;cases hd:(S7 k a).2 with
    |true =>
     rw[hd]at hC;rw[if_pos rfl];refine Dm E9 λfr hl h0 h1=>?_;simp[E9]at hl h0 h1;simp[E9,hl,h0,h1,dz,hK,c5,hx0,hC];exact hnil _
    |false =>
     rw[hd]at hC;rw[if_neg (by simp)];refine Dm E9 λfr hl h0 h1=>?_;simp[E9]at hl h0 h1;simp[E9,hl,h0,h1,dz,hK,c5,hx0,hC,hag,A5];exact⟨hone _,by omega⟩
   have hB:HT k (N+1) t=[]:=by rw[HT,hname' _ c1,hname' _ c2,hname' _ c3,hname' _ c4,hname' _ c5];rfl
   rw[hB];refine Dm E9 λfr hl h0 h1=>?_;simp[E9]at hl h0 h1;simp[E9,hl,h1,hK,c1,c2,c3,c4,c5];exact hnil _
  .obtain⟨bx,F⟩:=h;have hB:HT k (N+1) t=[]:=by
    have hn:∀nm,q8 t nm=false:=λnm=>by simp[q8,hK]
    rw[HT];simp[hn]
   rw[hB];refine Dm E9 λfr hl h0 h1=>?_;simp[E9]at hl h0 h1;simp[E9,hl,h1,hK];exact hnil _
end Go.Abs.Q
namespace Go.Abs.Q
open Go.Proofs
attribute [local simp] E6 E8 fin K1 H2 P7 M6 R4 R3
theorem tW (h:AH) (b:Bool) (xs:G6) (hx:xs.length<=1):rc Q E1 [sl (true,b) 4 xs,.fn C4 []] h=some (C5,h):=by
 refine OZ (s:=ap 4) rfl rfl ?_;show (if xs.length<=1 then some (C5,h)else none)=_
 rw[if_pos hx]
theorem gS (g:FuncId) (h:AH) (b:Bool) (xs:G6) (hx:xs.length<=1):rc Q D5 [sl (true,b) 4 xs,.fn g []] h=some (sl (true,b) 4 xs,h):=by
 suffices hq:∃v h',rc Q D5 [sl (true,b) 4 xs,.fn g []] h=some (v,h')/\(v=sl (true,b) 4 xs/\h'=h) by
  obtain⟨v,h',h1,rfl,rfl⟩:=hq;exact h1
 have h2:(xs.length:Int)<2:=by omega
 refine Dm I5 λfr hl h0 h1=>?_;simp[I5]at hl h0 h1;simp[I5,hl,h0,h2]
theorem ZZ (l:G7) (h:l.length<=1):L9 l l:=by
 refine⟨?_,λ_=>Iff.rfl⟩
 match l,h with
 | [],_=>exact List.Pairwise.nil
 | [a],_=>exact List.pairwise_singleton _ _
theorem rc_sc (g:FuncId) (L:Nat) (l:G7) (v:AV) (B:List (List AV)) (F:List Fam) (hg:Yt L true 4 (A4 l) v ⟨B,F⟩) (hcm:∀l':List Tm,(∀x∈l',x∈l)->Vn g l') (J4:∀t∈l,t.size<=1099511627776) (B8:l.length<=1048576) :
  ∃F1 v2 F2 R,WW true ⟨B,F⟩ (rc Q E1 [v,.fn C4 []] ⟨B,F⟩)=some (C5,⟨B,F1⟩)/\rc Q D5 [v,.fn g []] ⟨B,F1⟩=some (v2,⟨B,F2⟩)/\L9 R l/\(∀x∈R,x∈l)/\R.length<=l.length/\v2.isTup=false/\v2.cells=[v2]/\∃m,Dg ⟨B,F2⟩ v2=some (sl m 4 (A4 R)):=by
 rcases hg with ⟨hx,b,rfl⟩|⟨P4,k,hk0,rfl,hk⟩
 .have A6:l.length<=1:=by simpa using hx
  exact⟨F,_,F,l,by rw[tW _ _ _ hx];exact kpB_s _ _,gS _ _ _ _ hx,ZZ l A6,λ_ h=>h,A0f _,rfl,rfl,(true,b),rfl⟩
 .have hne':l≠[]:=by rintro rfl;exact P4 rfl
  have Bs:=H4 hk;have hlv:(A4 l).length=l.length:=by simp
  obtain⟨l',hp,hsort,hS⟩:=Uh k ⟨B,F⟩ l hk hne' J4 (by omega);have hl':l'.length=l.length:=hp.length_eq;have hcm:=hcm l' (λx hx=>hp.mem_iff.1 hx);obtain⟨Z,hZ,hZR,hK⟩:=NU g l' hcm k ⟨B,F.set k ⟨A4 l',4,true⟩⟩ (by simp only at Bs;simp[Bs]) (by omega);obtain⟨s1,s2,s3⟩:=Pv l' hsort;rw[hl']at hK hZ;generalize T5 l'=R at *
  simp only[List.set_set]at hK hS Bs;have e1:(A4 Z).length=l.length:=by rw[C9,A0d,hZ]
  have e2:(A4 Z).take R.length=A4 R:=by rw[←Vj,hZR]
  have e3:R.length<=l.length:=by omega
  rw[hlv];refine⟨_,_,_,R,by rw[hS];exact rU _ _ _,hK,⟨s1.1,λe=>(s1.2 e).trans (by simp only[A0k,hp.mem_iff])⟩,λx hx=>hp.mem_iff.1 (s2 x hx),e3,rfl,rfl,(false,true),?_⟩;rw[Ln,CZ];simp[Bs,e1,e2,e3]
theorem ff (a b:Tm) (h:a.size<=1099511627776) (h':b.size<=1099511627776):pc Q BR [B9 a,B9 b]=some (.bool (decide (H7 a b=0))):=by
 have hC:=y7 _ a b (A0f _) h h';refine N3 FW λfr hl h0 h1=>?_;simp[FW]at hl h0 h1;simp[FW,hl,h0,h1,hC]
noncomputable def dy (k:List Tm) (t:Tm):List Tm:=HT k t.size t
theorem xS (k:G7):∀(N:Nat) (t:Tm),∀x∈HT k N t,x.size<=t.size:=by
 intro N
 induction N with
 |zero=>intro t x hx;exact absurd hx A0p
 |succ N ih =>
  intro t x hx;have hkid:∀i,(J0 t i).size<=t.size:=λi=>by
   unfold J0;rw[A0j];cases h:t.kids[i]? with
   |none=>have:=t.size_pos;simp[iF,Tm.size,Tm.sizes];omega
   |some y=>have h1:=Tm.size_le (A0s h);have h2:=t.kids_size;simp only[Option.getD_some];omega
  have h0:∀i,∀x∈HT k N (J0 t i),x.size<=t.size:=λi x hx=>A1I (ih _ x hx) (hkid i);have h1:∀x∈[t],x.size<=t.size:=λx hx=>by rw[A08.1 hx];exact A0f _
  have h2:∀x∈([]:List Tm),x.size<=t.size:=λx hx=>absurd hx A0p;rw[HT]at hx
  repeat' split at hx
  all_goals first|exact h0 _ x hx|exact h1 x hx|exact h2 x hx|skip
  rcases A00.1 hx with hx|hx<;>exact h0 _ x hx
theorem jk (r n:Nar) (F:Fine n) (S:Lens n) (hz:(Y0 n).2=0) (hR:Right n) (he:Py r=CA (J9 (B5 n) (G2 n)) n) (i:Nat) (hi:i<r.steps.length) (hAe:XB r.steps[i].msg) :
  ∃m R,pc Q Z6 [Hk r n,.int .i64 (i:Nat)]=some (sl m 4 (A4 R))/\L9 R (dy (TH (true,true) r n r.steps[i].to (Kr r.roles r.steps[i].to) (i+1)) r.steps[i].msg)/\Tm.sizes R<=10000/\R.length<=40:=by
 have sb:=DQ r n;have hx:=G1 (f:=EP) (A0Z hi);have HW:=A0o hi;obtain⟨hmA,hmS⟩:=UU hR he HW;obtain⟨hsm,-⟩:=Iu hR.nar he;obtain⟨e2,e3,e5⟩:=GY he;have hrl:=hsm.roles;have hstl:=hsm.steps;have hto:r.steps[i].to∈r.roles:=by
  have hm:Mz r.steps[i]∈n.steps.map (CB (J9 (B5 n) (G2 n))):=by rw[←(t7 he).2.2.2.2.1];exact A07 HW
  obtain⟨s',hs',e⟩:=A0k.1 hm;unfold Mz CB at e;injection e with _ e _ _
  rw[←e,e2];exact(Ks (hR.steps s' hs')).2.1
 generalize r.steps[i]=s at *
 obtain⟨x1,x2⟩:=QR hto;have hrole:=gH r n hrl s.to;rw[x2]at hrole;obtain⟨mk,hK⟩:=YI r n F S hz hsm e2 (Kr r.roles s.to) s.to x1 (i+1) (by omega);have Dt:∀x∈TH (true,true) r n s.to (Kr r.roles s.to) (i+1),GoodT x:=λx hx=>by
  obtain⟨h1,h2⟩:=UR hR he (by rw[←e2];exact hto) hx;exact h1.good h2
 have Bs:=Wq (m:=(true,true)) (me:=s.to) (role:=Kr r.roles s.to) (q:=i+1) hsm;generalize TE:TH (true,true) r n s.to (Kr r.roles s.to) (i+1)=kk at *
 obtain⟨v,h',b1,b2,b3,⟨B,b4⟩,-⟩:=pt mk kk Dt (by omega) _ s.msg (A0f _) hmA hAe hmS ⟨[(Hk r n).cells,(EP s).cells],[]⟩;have b5:=NE b1 (Mn b2.a).2.2.2 ⟨B,b4⟩;obtain⟨bx,Fb⟩:=h';have J4:∀t∈HT kk s.msg.size s.msg,t.size<=40:=λt ht=>A1I (xS kk _ _ t ht) hmS;obtain⟨F1,v2,F2,R,c1,c2,c3,c4,c5,c6,c7,m,c8⟩:=rc_sc BR _ _ v [(Hk r n).cells,(EP s).cells] Fb (JV b2 rfl) (λl' hl'=>⟨rfl,λa ha b hb=>ff a b (by have:=J4 a (hl' a ha);omega) (by have:=J4 b (hl' b hb);omega)⟩) (λt ht=>by have:=J4 t ht;omega) (by omega)
 suffices hq:∃w,pc Q Z6 [Hk r n,.int .i64 (i:Nat)]=some w/\w=sl m 4 (A4 R) by
  obtain⟨w,hw,rfl⟩:=hq;exact⟨m,R,hw,c3,by have:=tg λx hx=>J4 x (c4 x hx);have:R.length*40<=40*40:=Nat.mul_le_mul_right 40 (by omega);omega,by omega⟩
 have hw:=C6 i (by omega);rw[show ((i+1:Nat):Int)=(i:Int)+1 from by omega]at hK;have ss:(EP s).cells=[.str s.frm,.str s.to,.int .i64 s.msg.kind,.str s.msg.name,.int .i64 s.msg.sort,sl s.msg.cm 4 (A4 s.msg.kids),.int .i64 s.line]:=by
  show [.str s.frm,.str s.to]++(B9 s.msg).cells++[.int .i64 s.line]=_;rw[I3];rfl
 simp only[sb,ss]at b5 c1 c2 c8;refine Sz HR λΨ hΨ fr hl h0 h1=>?_;simp[HR]at hl h0 h1;simp[HR,hl,h0,h1,sb,hx,hw,hrole,hK,b5,c1,c2,c8];exact hΨ _ rfl
theorem qj {k k':G7} (hk:k.map E3=k'.map E3):∀(N:Nat) {t t':Tm},E3 t=E3 t'->(HT k N t).map E3=(HT k' N t').map E3:=by
 intro N
 induction N with
 |zero=>intro t t' _;rfl
 |succ N ih =>
  intro t t' h;have hd:∀i,(S7 k (J0 t i)).2=(S7 k' (J0 t' i)).2:=λi=>by rw[SW hk (FE h i)]
  have hd2:(S7 k (J0 (J0 t 1) 0)).2=(S7 k' (J0 (J0 t' 1) 0)).2:=by rw[SW hk (FE (FE h 1) 0)]
  have hone:[t].map E3=[t'].map E3:=by simp[h]
  rw[HT,HT,MB h,MB h,MB h,MB h,MB h,hd,hd,hd2];split
  .rw[A0r,A0r,ih (FE h 0),ih (FE h 1)]
  .split
   .exact ih (FE h 0)
   .split
    .split
     .exact ih (FE h 0)
     .exact hone
    .split
     .split
      .exact ih (FE h 0)
      .split
       .rfl
       .exact hone
     .split
      .split
       .rfl
       .exact hone
      .rfl
theorem qk {k k':G7} (hk:k.map E3=k'.map E3) {t t':Tm} (h:E3 t=E3 t'):(dy k t).map E3=(dy k' t').map E3:=by
 have hs:t.size=t'.size:=by rw[←CK _ t (A0f _),←CK _ t' (A0f _),h]
 unfold dy;rw[hs];exact qj hk _ h
theorem mK {R l l':G7} (h:L9 R l) (e:l.map E3=l'.map E3):L9 R l':=⟨h.1,λx=>by rw[←e];exact h.2 x⟩
theorem lP {α:Type}:∀{a b:List α},a.Nodup->(∀x∈a,x∈b)->a.length<=b.length
 | [],_,_,_=>A1C _
 |x::a,b,hn,hs=>by
  obtain⟨s,t,rfl⟩:=List.append_of_mem (hs x A0a);obtain⟨h1,h2⟩:=A1E.1 hn;have:=lP (b:=s++t) h2 λy hy=>by
   have h3:=hs y (A0i _ hy);have P4:y≠x:=λe=>h1 (e ▸ hy);rcases A00.1 h3 with h|h
   .exact A04 _ h
   .rcases A0v.1 h with h|h
    .exact absurd h P4
    .exact List.mem_append_right _ h
  simp only[A0b,A0h]at this ⊢;omega
theorem dq {R l:G7} (h:L9 R l):(R.map E3).Nodup:=by
 have h1:=h.1;clear h
 induction R with
 |nil=>exact List.nodup_nil
 |cons a R ih =>
  obtain⟨p,q⟩:=List.pairwise_cons.1 h1;rw[List.map_cons];refine A1E.2 ⟨λhm=>?_,ih q⟩;obtain⟨x,hx,e⟩:=A0k.1 hm;have:=p x hx;rw[V7.2 e.symm]at this;omega
theorem XF {R l:G7} (h:L9 R l):R.length<=l.length:=by
 have:=lP (dq h) λx hx=>(h.2 x).1 hx;simpa using this
theorem ZX {R l:G7} (h:L9 R l):R=[]↔l=[]:=by
 constructor
 .rintro rfl;cases l with
  |nil=>rfl
  |cons a l=>exact absurd ((h.2 (E3 a)).2 (by simp)) (by simp)
 .rintro rfl;have:=XF h;exact A0c (by simpa using this)
theorem um (k:G7) (t:Tm):eF k t<=(alls (k++[t])).length:=by
 unfold eF;split
 .rename_i h;exact XF h.choose_spec
 .exact A1C _
theorem xE {t t':Tm} (h:XB t') (e:E3 t=E3 t'):XB t:=λx hx hi=>by
 obtain⟨y,hy,e1⟩:=bQ e hx;rw[MB (FE e1.symm 1)];exact h y hy (by rw[←MB e1.symm];exact hi)
theorem iG {t:Tm} (h:q8 t (bs [97,101,110,99])=true->q8 (J0 t 1) (bs [112,107])=true) (hk:∀x∈t.kids,XB x):XB t:=λy hy=>by
 rw[AL,G3]at hy;rcases A0v.1 hy with rfl|hy
 .exact h
 .obtain⟨x,hx,hy⟩:=A1D.1 hy;exact hk x hx y hy
theorem UB (a:J1) (s:Int) (m:I6):XB (.mk 2 a s m []):=iG (λh=>absurd (Io.1 h).1 (by simp[Tm.kind])) λx hx=>nomatch hx
theorem Pm {nm:J1} {m:I6} {l:G7} (h:nm≠bs [97,101,110,99]) (hl:∀x∈l,XB x):XB (.mk 3 nm 0 m l):=iG (λq=>absurd (Io.1 q).2 h) hl
theorem qR (a:J1):XB (qJ a):=Pm (l:=[E3 (IK a)]) (by decide) (uc (UB _ _ _))
theorem qQ (a:J1):XB (iE a):=Pm (l:=[qJ a]) (by decide) (uc (qR a))
theorem xF (a b:J1):XB (qI a b):=Pm (l:=[E3 (IK a),E3 (IK b)]) (by decide) (bP (UB _ _ _) (UB _ _ _))
theorem Wt.aeN {ro:ByteArray->Prop} {ok:ByteArray->Int->Prop} {t:Tm} (h:Wt ro ok t):XB t:=by
 induction h with
 |atom a s h=>exact UB _ _ _
 |pair x y _ _ ix iy=>exact Pm (by decide) (bP ix iy)
 |enc x y _ _ ix iy=>exact Pm (by decide) (bP ix iy)
 |hash x _ ix=>exact Pm (by decide) (uc ix)
 |aenc x r _ h ix=>exact iG (λ_=>rfl) (bP ix (qQ r))
 |sign x r _ h ix=>exact Pm (by decide) (bP ix (qR r))
 |pk r h=>exact qQ r
 |shk a b h h' _=>exact xF a b
theorem sJ {r n:Nar} (hR:Right n) (he:Py r=CA (J9 (B5 n) (G2 n)) n) {s:Ste} (hs:s∈r.steps):XB s.msg:=by
 have hm:Mz s∈n.steps.map (CB (J9 (B5 n) (G2 n))):=by rw[←(t7 he).2.2.2.2.1];exact A07 hs
 obtain⟨s',hs',e⟩:=A0k.1 hm;unfold Mz CB at e;injection e with _ _ e _
 exact xE (hR.msg hs').1.aeN (by rw[e,Zi])
noncomputable def KP (n:Nar) (i:Nat):List Tm :=
 match (n.steps.map (CB (J9 (B5 n) (G2 n))))[i]? with
 |some s=>dy (Sv (J9 (B5 n) (G2 n)) n s.to (Kr n.roles s.to) (i+1)) s.msg
 |none=>[]
theorem sf (r n:Nar) (F:Fine n) (S:Lens n) (hz:(Y0 n).2=0) (hR:Right n) (he:Py r=CA (J9 (B5 n) (G2 n)) n) (i:Nat) (hi:i<r.steps.length) :
  ∃m R,pc Q Z6 [Hk r n,.int .i64 (i:Nat)]=some (sl m 4 (A4 R))/\L9 R (KP n i)/\Tm.sizes R<=10000/\R.length<=40:=by
 have HW:=A0o hi;obtain⟨m,R,h1,h2,h3,h4⟩:=jk r n F S hz hR he i hi (sJ hR he HW);refine⟨m,R,h1,mK h2 ?_,h3,h4⟩;obtain⟨e2,e3,e5⟩:=GY he;have hq:(n.steps.map (CB (J9 (B5 n) (G2 n))))[i]?=some (Mz r.steps[i]):=by
  rw[←(t7 he).2.2.2.2.1,A1A,A0Z hi];rfl
 have hto:r.steps[i].to∈n.roles:=by
  obtain⟨s',hs',e⟩:=A0k.1 (A0s hq);unfold Mz CB at e;injection e with _ e _ _
  rw[←e];exact(Ks (hR.steps s' hs')).2.1
 unfold KP;rw[hq];simp only[Mz];refine qk ?_ (Zi _).symm;rw[e2,VQ hR.dec he (QR hto).1];exact RV hR.dec he (QR hto).1 _
noncomputable def Tv (n:Nar):Bool:=decide ((Y0 n).2=0)&&(A05 n.steps.length).all λi=>(KP n i).isEmpty
theorem vX (r na:Nar) (F:Fine na) (S:Lens na) (hz:(Y0 na).2=0) (hR:Right na) (he:Py r=CA (J9 (B5 na) (G2 na)) na) (C0:G6) (hstl:r.steps.length<=1000) (fr:Fr) (h:AH) (B0:List (List AV)) (hB0:h.boxes=C0::(Hk r na).cells::B0) (hl:fr.length=26) (h3:A0 fr 3=.ptr 1 0) (h16:A0 fr 16=.int .i64 r.steps.length) (h17:A0 fr 17=.int .i64 0) :
  B6 (lp (A2 (K8 Q) (D6 Hc) Et) (fr,h)) λe C3 h'=>Kp Et.wr fr C3/\((e=.exit 0/\(∀j,j<r.steps.length->KP na j=[]))\/(e=.ret/\A0 C3 2=.bool false/\∃j,j<r.steps.length/\KP na j≠[])):=by
 refine A9 rfl fr (λn fr h'=>∃(i:Nat),i+n=r.steps.length/\A0 fr 17=.int .i64 (i:Nat)/\(∃B,h'.boxes=C0::(Hk r na).cells::B)/\(∀j,j<i->KP na j=[])) ?_ r.steps.length h ⟨0,by omega,h17,⟨_,hB0⟩,λj h=>absurd h (Nat.not_lt_zero j)⟩;rintro J Φ hJ hΦ n D4 H1 K ⟨i,hi,k17,hr⟩;have A6:=K.1.trans hl;have k3:=A8 K 3 h3;have k16:=A8 K 16 h16;clear K;by_cases A7:i<r.steps.length
 .have L3:=C6 i (by omega);obtain⟨⟨B,hB⟩,hr⟩:=hr;obtain⟨bx,fams⟩:=H1;simp only at hB;subst hB;have sb:=DQ r na;obtain⟨m,R,hb1,hb2,-,hb4⟩:=sf r na F S hz hR he i A7;have hnil:=ZX hb2;cases R with
  |nil =>
   simp[Et,A6,k3,k16,k17,A7,L3,sb,hb1];exact⟨n-1,by omega,hJ _ _ _ ⟨i+1,by omega,by simp[A6],⟨B,by rw[sb]⟩,λj hj=>by
    rcases Nat.lt_or_eq_of_le (Nat.lt_succ_iff.1 hj)with h|rfl
    .exact hr j h
    .exact hnil.1 rfl⟩⟩
  |cons a R =>
   have L8:(0:Int)<((A4 (a::R)).length:Int):=by simp only[C9,A0d,A0h];omega
   simp[Et,A6,k3,k16,k17,A7,sb,hb1];exact hΦ _ _ _ (.inr ⟨rfl,by simp[A6],i,A7,λh=>nomatch hnil.2 h⟩)
 .obtain⟨⟨B,hB⟩,hr⟩:=hr;simp[Et,A6,k16,k17,A7];exact hΦ _ _ _ (.inl ⟨rfl,λj hj=>hr j (by omega)⟩)
theorem YC (n:Nar) (F:Fine n) (S:Lens n):pc Q Hc [G4 n]=some (.bool (Tv n)):=by
 obtain⟨r,hO,hE⟩:=ci n F S;have nb:=E5 n;have sb:=DQ r n;by_cases h1:(Y0 n).2=0
 .have he:=hE h1;obtain⟨-,hR⟩:=GH h1;obtain⟨hsm,-⟩:=Iu hR.nar he;obtain⟨e2,-,e5⟩:=GY he;have hT:Tv n=(A05 n.steps.length).all λi=>(KP n i).isEmpty:=by unfold Tv;simp[h1]
  rw[h1]at hO;rw[hT];refine H6 Hu λfr hl h0=>?_;simp[Hu]at hl h0;simp[Hu,hl,h0,nb,sb,hO];refine B6.mono (vX r n F S h1 hR he (G4 n).cells hsm.steps _ _ [] ?_ ?_ ?_ ?_ ?_) ?_<;>first|(simp[hl,nb,sb];done)|skip
  rintro e D4 ⟨bx,F1⟩ ⟨K,⟨rfl,hn⟩|⟨rfl,l2,j,hj,hn⟩⟩
  .have A6:D4.length=26:=K.1.trans (by simp[hl]);have hA:(A05 n.steps.length).all (λi=>(KP n i).isEmpty)=true:=by
    rw[A0n];intro i hi;rw[hn i (by rw[e5];exact A0u.1 hi)];rfl
   simp[A6,hA]
  .have hA:(A05 n.steps.length).all (λi=>(KP n i).isEmpty)=false:=by
    rw[A09];exact⟨j,A0u.2 (by omega),by simpa using hn⟩
   simp[l2,hA]
 .have hT:Tv n=false:=by unfold Tv;simp[h1]
  rw[hT];generalize (Y0 n).2=e at *
  have P4:=h1;refine H6 Hu λfr hl h0=>?_;simp[Hu]at hl h0;simp[Hu,hl,h0,nb,sb,hO,P4]
def iS (n:Nar) (role step:Int):Int:=if RE n role step≠0 then RE n role step else match n.steps[step.toNat]? with
 |some s=>if some s.to=n.roles[role.toNat]? then 0 else 7
 |none=>7
theorem pl (n:Nar) (F:Fine n) (S:Lens n) (role step:Int):∃(m:I6) (l:G7),pc Q Mi [G4 n,.int .i64 role,.int .i64 step]=some (.tup [sl m 4 (A4 l),.int .i64 (iS n role step)])/\(iS n role step=0->L9 l (KP n step.toNat)/\Tm.sizes l<=10000/\l.length<=40)/\(iS n role step≠0->l=[]):=by
 suffices hq:∃v,pc Q Mi [G4 n,.int .i64 role,.int .i64 step]=some v/\∃(m:Bool×Bool) (l:List Tm),v=.tup [sl m 4 (A4 l),.int .i64 (iS n role step)]/\(iS n role step=0->L9 l (KP n step.toNat)/\Tm.sizes l<=10000/\l.length<=40)/\(iS n role step≠0->l=[]) by
  obtain⟨v,h1,m,l,rfl,h2⟩:=hq;exact⟨m,l,h1,h2⟩
 obtain⟨r,n',hO,hE⟩:=wm n F S role step;have nb:=E5 n;have sb:=DQ r n';have hz4:sl (true,false) 4 (A4 [])=.vs true 0 []:=rfl;by_cases hat:RE n role step=0
 .obtain⟨rfl,he⟩:=hE hat;obtain⟨hs0,g1,g2,g3,g4⟩:=XJ hat;obtain⟨-,hR⟩:=GH hs0;obtain⟨hsm,-⟩:=Iu hR.nar he;obtain⟨e2,-,e5⟩:=GY he;obtain⟨role,rfl⟩:=A0l g1;obtain⟨step,rfl⟩:=A0l g3;simp only[A0g]at g2 g4 ⊢;rw[hat]at hO;by_cases h2:step=n'.steps.length
  .have hB:iS n' role step=7:=by unfold iS;rw[if_neg (by simp[hat])];simp only[A0g];rw[List.getElem?_eq_none (by omega)]
   rw[hB];obtain rfl:step=r.steps.length:=by omega
   refine gI Y3 λΨ hΨ fr hl h0 h1 h2=>?_;simp[Y3]at hl h0 h1 h2;simp[Y3,hl,h0,h1,h2,nb,sb,hO];exact hΨ _ ⟨(true,false),[],rfl,by simp⟩
  .have h2':¬(step:Int)=r.steps.length:=by omega
   have A7:step<r.steps.length:=by omega
   have hx:=G1 (f:=EP) (A0Z A7);have hlr:role<r.roles.length:=by rw[e2];exact g2
   have hy:=G1 (f:=AV.str) (A0Z hlr);have hss:n'.steps[step]?=some (n'.steps[step]'(by omega)):=A0Z _;have hto:(n'.steps[step]'(by omega)).to=r.steps[step].to:=by
    have:=(t7 he).2.2.2.2.1;have h3:=congrArg (·[step]?) this;simp only[A1A,A0Z A7,hss,A1F,Option.some.injEq]at h3;unfold Mz CB at h3;injection h3 with _ h3 _ _
    exact h3.symm
   have hrr:n'.roles[role]?=some r.roles[role]:=by rw[←e2];exact A0Z hlr
   by_cases h3:r.steps[step].to=r.roles[role]
   .have hB:iS n' role step=0:=by unfold iS;rw[if_neg (by simp[hat])];simp only[A0g];rw[hss];simp only[hto,hrr,h3];rfl
    rw[hB];obtain⟨m,R,hb1,hb2,hb3,hb4⟩:=sf r n' F S hs0 hR he step A7;obtain⟨m',l',hc1,hc2⟩:=aS _ m R (A0f _) (by omega);refine gI Y3 λΨ hΨ fr hl h0 h1 h2=>?_;simp[Y3]at hl h0 h1 h2;simp[Y3,hl,h0,h1,h2,nb,sb,hO,h2',hx,hy,h3,hb1,hc1];refine hΨ _ ⟨m',l',rfl,λ_=>⟨Vp hb2 hc2,?_,?_⟩,λh=>absurd rfl h⟩
    .rw[←RM l',hc2,RM];exact hb3
    .have:=congrArg A1B hc2;rw[E4,E4,A0d,A0d]at this;omega
   .have hB:iS n' role step=7:=by unfold iS;rw[if_neg (by simp[hat])];simp only[A0g];rw[hss];simp only[hto,hrr,Option.some.injEq,h3,if_false]
    rw[hB];refine gI Y3 λΨ hΨ fr hl h0 h1 h2=>?_;simp[Y3]at hl h0 h1 h2;simp[Y3,hl,h0,h1,h2,nb,sb,hO,h2',hx,hy,h3];exact hΨ _ ⟨(true,false),[],rfl,by simp⟩
 .have hB:iS n role step=RE n role step:=by unfold iS;rw[if_pos hat]
  rw[hB];generalize RE n role step=e at *
  have P4:=hat;refine gI Y3 λΨ hΨ fr hl h0 h1 h2=>?_;simp[Y3]at hl h0 h1 h2;simp[Y3,hl,h0,h1,h2,nb,sb,hO,P4];exact hΨ _ ⟨(true,false),[],rfl,λh=>absurd h P4,λ_=>rfl⟩
noncomputable def Pb (kf:Nat->List Tm) (t:Tm):Nat->Nat->Int×Int
 |_,0=>(0,4)
 |i,c+1=>if (S7 (kf i) t).1≠0 then (0,(S7 (kf i) t).1)else if (S7 (kf i) t).2=true then ((i:Nat),0)else Pb kf t (i+1) c
theorem lT {kf kf':Nat->List Tm} {t t':Tm} (h:∀i,(kf i).map E3=(kf' i).map E3) (ht:E3 t=E3 t'):∀(c i:Nat),Pb kf t i c=Pb kf' t' i c
 |0,_=>rfl
 |c+1,i=>by rw[Pb,Pb,SW (h i) ht,lT h ht c (i+1)]
theorem vW (L:List Unit) (hL1:L.length<=2000) (r na:Nar) (hL:L.length=r.steps.length+1) (F:Fine na) (S:Lens na) (hz:(Y0 na).2=0) (hR:Right na) (he:Py r=CA (J9 (B5 na) (G2 na)) na) (t:Tm) (ht:GoodT t) (me:J1) (role:Nat) (hme:r.roles[role]?=some me) (C0:G6) (fr:Fr) (h:AH) (B0:List (List AV)) (hB0:h.boxes=C0::(B9 t).cells::(Hk r na).cells::B0) (hl:fr.length=45) (h5:A0 fr 5=.ptr 1 0) (h8:A0 fr 8=.ptr 2 0) (h1:A0 fr 1=.int .i64 (role:Nat)) (h26:A0 fr 26=.int .i64 L.length) (h27:A0 fr 27=.int .i64 0) :
  B6 (lp (A2 (K8 Q) (D6 IY) BH) (fr,h)) λe C3 h'=>Kp BH.wr fr C3/\((e=.exit 0/\Pb (TH (true,true) r na me role) t 0 L.length=(0,4))\/(e=.ret/\A0 C3 6=.int .i64 (Pb (TH (true,true) r na me role) t 0 L.length).1/\A0 C3 7=.int .i64 (Pb (TH (true,true) r na me role) t 0 L.length).2)):=by
 refine A9 rfl fr (λn fr h'=>∃(i:Nat),i+n=L.length/\A0 fr 27=.int .i64 (i:Nat)/\(∃B,h'.boxes=C0::(B9 t).cells::(Hk r na).cells::B)/\Pb (TH (true,true) r na me role) t i (L.length-i)=Pb (TH (true,true) r na me role) t 0 L.length) ?_ L.length h ⟨0,by omega,h27,⟨_,hB0⟩,rfl⟩;rintro J Φ hJ hΦ n D4 H1 K ⟨i,hi,k27,hr⟩;have A6:=K.1.trans hl;have k5:=A8 K 5 h5;have k8:=A8 K 8 h8;have k1:=A8 K 1 h1;have k26:=A8 K 26 h26;clear K;by_cases A7:i<L.length
 .have L3:=C6 i (by omega);obtain⟨⟨B,hB⟩,hr⟩:=hr;obtain⟨bx,fams⟩:=H1;simp only at hB;subst hB;have sb:=DQ r na;obtain⟨hsm,-⟩:=Iu hR.nar he;obtain⟨e2,e3,e5⟩:=GY he;obtain⟨mk,hK⟩:=YI r na F S hz hsm e2 role me hme i (by omega);have Dt:∀x∈TH (true,true) r na me role i,GoodT x:=λx hx=>by
   obtain⟨h1,h2⟩:=UR hR he (by rw[←e2];exact A0s hme) hx;exact h1.good h2
  have Bs:=Wq (m:=(true,true)) (me:=me) (role:=role) (q:=i) hsm;have hD:=cP mk _ t Dt ht (by omega);rw[show L.length-i=(L.length-(i+1))+1 from by omega,Pb]at hr;generalize TH (true,true) r na me role i=kk at *
  generalize S7 kk t=d at *
  obtain⟨de,db⟩:=d;simp only at hD hr;have ht4:(B9 t).cells=[.int .i64 t.kind,.str t.name,.int .i64 t.sort,sl t.cm 4 (A4 t.kids)]:=I3 t;by_cases hde:de=0
  .subst hde;rw[if_neg (by simp)]at hr;cases db with
   |true =>
    simp only[if_true]at hr;simp[BH,A6,k5,k8,k1,k26,k27,A7,sb,hK,hD];exact hΦ _ _ _ (.inr ⟨rfl,by rw[←hr];simp[A6],by rw[←hr];simp[A6]⟩)
   |false =>
    simp only[Bool.false_eq_true,if_false]at hr;simp[BH,A6,k5,k8,k1,k26,k27,A7,L3,sb,hK,hD];exact G0 hJ ⟨i+1,by omega,by simp[A6],⟨B,by rw[sb,I3]⟩,hr⟩
  .rw[if_pos hde]at hr;simp[BH,A6,k5,k8,k1,k26,k27,A7,sb,hK,hD,hde];exact hΦ _ _ _ (.inr ⟨rfl,by rw[←hr];simp[A6],by rw[←hr];simp[A6]⟩)
 .obtain⟨⟨B,hB⟩,hr⟩:=hr;rw[show L.length-i=0 from by omega,Pb]at hr;simp[BH,A6,k26,k27,A7];exact hΦ _ _ _ (.inl ⟨rfl,hr.symm⟩)
noncomputable def Xm (n:Nar) (role:Int) (t:Tm):Int×Int :=
 if RE n role 0≠0 then (0,RE n role 0)else Pb (Sv (J9 (B5 n) (G2 n)) n (n.roles.getD role.toNat (bs [])) role.toNat) t 0 (n.steps.length+1)
theorem aQ (n:Nar) (F:Fine n) (S:Lens n) (role:Int) (t:Tm) (ht:GoodT t):pc Q IY [G4 n,.int .i64 role,B9 t]=some (.tup [.int .i64 (Xm n role t).1,.int .i64 (Xm n role t).2]):=by
 obtain⟨r,n',hO,hE⟩:=wm n F S role 0;have nb:=E5 n;have sb:=DQ r n';by_cases hat:RE n role 0=0
 .obtain⟨rfl,he⟩:=hE hat;obtain⟨hs0,g1,g2,g3,g4⟩:=XJ hat;obtain⟨-,hR⟩:=GH hs0;obtain⟨hsm,-⟩:=Iu hR.nar he;obtain⟨e2,-,e5⟩:=GY he;obtain⟨role,rfl⟩:=A0l g1;simp only[A0g]at g2;have hL:Xm n' role t=Pb (Sv (J9 (B5 n') (G2 n')) n' (n'.roles.getD role (bs [])) role) t 0 (n'.steps.length+1):=by
   unfold Xm;rw[if_neg (by simp[hat]),A0g]
  have hme:r.roles[role]?=some (n'.roles.getD role (bs [])):=by
   rw[e2,A0j,A0Z g2];rfl
  have hX:Xm n' role t=Pb (TH (true,true) r n' (n'.roles.getD role (bs [])) role) t 0 (A1H (r.steps.length+1) ()).length:=by
   rw[hL,A0q,e5];refine lT (λi=>?_) rfl _ _;have hme':n'.roles[role]?=some (n'.roles.getD role (bs [])):=by have h:=hme;rw[e2]at h;exact h
   rw[VQ hR.dec he hme'];exact(RV hR.dec he hme' _).symm
  rw[hat]at hO;rw[hX];generalize n'.roles.getD role (bs [])=me at *
  have Hx:=hsm.steps;have hw:IntKind.i64.wrap ((r.steps.length:Int)+1)=(r.steps.length:Int)+1:=W8 (by omega) (by omega);refine HC GP λfr hl h0 h1 h2=>?_;simp[GP]at hl h0 h1 h2;simp[GP,hl,h0,h1,h2,nb,sb,hO,hw];refine B6.mono (vW (A1H (r.steps.length+1) ()) (by simp;omega) r n' (by simp) F S hs0 hR he t ht me role hme (G4 n').cells _ _ [] ?_ ?_ ?_ ?_ ?_ ?_ ?_) ?_<;>first|(simp[hl,nb,sb,h1];done)|skip
  rintro e D4 ⟨bx,F1⟩ ⟨K,⟨rfl,hn⟩|⟨rfl,l6,l7⟩⟩
  .have A6:D4.length=45:=K.1.trans (by simp[hl]);simp only[A0q]at hn;simp[A6,hn]
  .simp only[A0q]at l6 l7;simp[l6,l7]
 .have hX:Xm n role t=(0,RE n role 0):=by unfold Xm;rw[if_pos hat]
  rw[hX];generalize RE n role 0=e at *
  have P4:=hat;refine HC GP λfr hl h0 h1 h2=>?_;simp[GP]at hl h0 h1 h2;simp[GP,hl,h0,h1,h2,nb,sb,hO,P4]
end Go.Abs.Q
namespace Go.Abs.Q
open Go.Proofs
theorem vT {S U T:G7} (hS:iM S T) (Gk:∀u∈U,K4 T u=true\/Du T u=false) {e:Tm} (h:Kn S U e):e∈T.map E3:=by
 induction h with
 |base e h=>exact hS e h
 |step T0 _ u hu hs ih =>
  rcases Gk u hu with h|h
  .exact V8.1 h
  .rw[Tt ih hs]at h;cases h
def tZ (U T:List Tm):List Tm:=T++U.filter λu=>!K4 T u&&Du T u
def kH (U:List Tm):Nat->List Tm->List Tm
 |0,T=>T
 |n+1,T=>kH U n (tZ U T)
def clsT (U T:List Tm):Bool:=U.all λu=>K4 T u||!Du T u
theorem wO {S U T:G7} (h:∀e,e∈T.map E3->Kn S U e):∀e,e∈(tZ U T).map E3->Kn S U e:=by
 intro e he;unfold tZ at he;rw[A0r,A00]at he;rcases he with he|he
 .exact h e he
 .obtain⟨u,hu,rfl⟩:=A0k.1 he;obtain⟨h1,h2⟩:=List.mem_filter.1 hu;rw[A0m]at h2;exact Kn.step T h u h1 h2.2
theorem lr {S U:G7}:∀(n:Nat) {T:G7},(∀e,e∈T.map E3->Kn S U e)->∀e,e∈(kH U n T).map E3->Kn S U e
 |0,_,h=>h
 |n+1,_,h=>lr n (wO h)
theorem gY {U:G7}:∀(n:Nat) (T:G7),iM T (kH U n T)
 |0,_,_,h=>h
 |n+1,T,e,h=>gY n (tZ U T) e (by unfold tZ;rw[A0r];exact A04 _ h)
def iY (k:List Tm) (t:Tm):Bool×Bool :=
 let U:=alls (k++[t])
 let T:=kH U 3 k
 (decide (k.length<=60)&&decide (U.length<=200)&&clsT U T,K4 T t)
open Classical in
theorem XQ {k:G7} {t:Tm} {b:Bool} (h:iY k t=(true,b)):S7 k t=(0,b):=by
 unfold iY at h;simp only[Prod.mk.injEq,A0m,decide_eq_true_eq]at h;obtain⟨⟨⟨h1,h2⟩,h3⟩,h4⟩:=h;unfold S7;rw[if_neg (by have:=um k t;omega)];congr 1;subst h4;have Gk:∀u∈alls (k++[t]),K4 (kH (alls (k++[t])) 3 k) u=true\/Du (kH (alls (k++[t])) 3 k) u=false:=λu hu=>by
  have:=A0n.1 h3 u hu;simpa using this
 by_cases hd:UC k t
 .rw[@decide_eq_true _ (Classical.propDecidable _) hd];have:=vT (gY 3 k) Gk hd;exact(V8.2 this).symm
 .rw[@decide_eq_false _ (Classical.propDecidable _) hd];cases hq:K4 (kH (alls (k++[t])) 3 k) t with
  |false=>rfl
  |true=>exact absurd (lr 3 (λe he=>Kn.base e he) _ (V8.1 hq)) hd
end Go.Abs.Q
namespace Go.Abs.Q
open Go.Proofs
attribute [local simp] E6 E8 fin K1 H2 P7 M6 R4 R3
def Gi (a:ByteArray):Tm:=.mk 2 a 0 (true,false) []
theorem Ww (a:J1):pc Q Gt [.str a]=some (B9 (Gi a)):=by
 have hA:=Wu a 0;refine H6 Ru λfr hl h0=>?_;simp[Ru]at hl h0;simp[Ru,hl,h0,hA,K5];rfl
def exN (k:Tm):Nar:=⟨bs [80],(true,true),[bs [65],bs [66]],(true,true),[⟨bs [65],bs [110],2⟩,⟨bs [65],bs [107],3⟩],(true,false),[],(true,true),[⟨bs [65],bs [66],VL (bs [101,110,99]) (false,true) [Gi (bs [110]),k],0⟩,⟨bs [66],bs [65],Gi (bs [110]),0⟩],(true,false),[]⟩
theorem YH (k:Tm):pc Q Ip [B9 k]=some (G4 (exN k)):=by
 have hR:=Ww (bs [110]);have hA:=Ua (bs [101,110,99]) (true,true) [Gi (bs [110]),k] (by simp) (by simp);rw[show A4 [Gi (bs [110]),k]=[B9 (Gi (bs [110])),B9 k] from rfl]at hA;refine H6 MH λfr hl h0=>?_;simp[MH]at hl h0;simp[MH,hl,h0,hR,hA,A5,C8,D8,K5];rfl
def Kd:Nar:=exN (VL (bs [115,104,107]) (false,true) [Gi (bs [65]),Gi (bs [66])])
def OE:Nar:=exN (Gi (bs [107]))
def Sx:Tm:=.mk 2 (bs [110]) 2 (true,false) []
theorem lD:(Y0 Kd).2=0:=by kernel_rfl
theorem lE:(Y0 OE).2=0:=by kernel_rfl
theorem Pz:IM Kd=0:=by kernel_rfl
theorem bc:IM OE=0:=by kernel_rfl
def fN (n:Nar):ByteArray->Int:=J9 (B5 n) (G2 n)
theorem Tc:Py (CA (fN Kd) Kd)=CA (fN Kd) Kd:=by kernel_rfl
theorem ia:Py (CA (fN OE) OE)=CA (fN OE) OE:=by kernel_rfl
theorem lI (k:Tm) (hk:k.size<=100):Fine (exN k) where
 name:=of_decide_eq_true (by kernel_rfl)
 roles:=of_decide_eq_true (by kernel_rfl)
 rolesL:=of_decide_eq_true (by kernel_rfl)
 fresh:=of_decide_eq_true (by kernel_rfl)
 freshL:=of_decide_eq_true (by kernel_rfl)
 tags:=of_decide_eq_true (by kernel_rfl)
 tagsL:=of_decide_eq_true (by kernel_rfl)
 steps:=by
  intro s hs;rcases A0v.1 hs with rfl|hs
  .refine⟨of_decide_eq_true (by kernel_rfl),of_decide_eq_true (by kernel_rfl),?_⟩;simp only[VL,Gi,Tm.size,Tm.sizes];omega
  .rw[A08.1 hs];exact⟨of_decide_eq_true (by kernel_rfl),of_decide_eq_true (by kernel_rfl),of_decide_eq_true (by kernel_rfl)⟩
 stepsL:=of_decide_eq_true (by kernel_rfl)
 goals:=λg hg=>nomatch hg
 goalsL:=of_decide_eq_true (by kernel_rfl)
theorem lQ (k:Tm):Lens (exN k) where
 names:=of_decide_eq_true (by kernel_rfl)
 steps:=of_decide_eq_true (by kernel_rfl)
 goals:=of_decide_eq_true (by kernel_rfl)
 data:=λg hg=>nomatch hg
theorem dA {n:Nar} (hd:IM n=0) (he:Py (CA (fN n) n)=CA (fN n) n) {me:J1} {role i:Nat} {t:Tm} {b:Bool} (hme:n.roles[role]?=some me)
  (h:iY (TH (true,true) (CA (fN n) n) n me role i) t=(true,b)):S7 (Sv (fN n) n me role i) t=(0,b):=by
 rw[SW (k':=TH (true,true) (CA (fN n) n) n me role i) (by rw[VQ hd he hme];exact(RV hd he hme i).symm) rfl];exact XQ h
theorem ib {kf:ByteArray->Nat->List Tm} {i:Nat} {s:Ste} {l:List Ste} (h:S7 (kf s.frm i) s.msg=(0,true)):SX kf i (s::l)=SX kf (i+1) l:=by
 rw[SX,h];rfl
theorem xh {kf:ByteArray->Nat->List Tm} {i:Nat} {s:Ste} {l:List Ste} (h:S7 (kf s.frm i) s.msg=(0,false)) (ha:alls [s.msg]=[s.msg]):WU (SX kf i (s::l))=((i:Int),E3 s.msg,13):=by
 have hS:L9 [s.msg] (alls [s.msg]):=by rw[ha];exact ZZ _ (A0f _)
 have hs:=Ur (k:=kf s.frm i) (k':=kf s.frm i) rfl (i:Int) (Uq hS rfl);have h1:Gj (kf s.frm i) (i:Int) [s.msg]=some ((i:Int),s.msg,13):=by rw[Gj,h];rfl
 rw[h1]at hs;obtain⟨y,hy,hye⟩:∃y,Gj (kf s.frm i) (i:Int) (NY s.msg)=some y/\WU ((i:Int),s.msg,(13:Int))=WU y:=by
  cases hq:Gj (kf s.frm i) (i:Int) (NY s.msg)with
  |none=>rw[hq]at hs;simp at hs
  |some y=>rw[hq]at hs;exact⟨y,rfl,by simpa using hs⟩
 rw[SX,h,hy];exact hye.symm
theorem uy:KQ Kd=(0,E3 Tz,0):=by
 have q0:S7 (Sv (fN Kd) Kd (bs [65]) 0 0) (CO (fN Kd) (VL (bs [101,110,99]) (false,true) [Gi (bs [110]),VL (bs [115,104,107]) (false,true) [Gi (bs [65]),Gi (bs [66])]]))=(0,true):=dA Pz Tc rfl (by kernel_rfl);have q1:S7 (Sv (fN Kd) Kd (bs [66]) 1 1) (CO (fN Kd) (Gi (bs [110])))=(0,true):=dA Pz Tc rfl (by kernel_rfl);have r0:Kr Kd.roles (bs [65])=0:=by kernel_rfl
 have r1:Kr Kd.roles (bs [66])=1:=by kernel_rfl
 have q0':S7 (Sv (fN Kd) Kd (bs [65]) (Kr Kd.roles (bs [65])) 0) (CO (fN Kd) (VL (bs [101,110,99]) (false,true) [Gi (bs [110]),VL (bs [115,104,107]) (false,true) [Gi (bs [65]),Gi (bs [66])]]))=(0,true):=by rw[r0];exact q0
 have q1':S7 (Sv (fN Kd) Kd (bs [66]) (Kr Kd.roles (bs [66])) 1) (CO (fN Kd) (Gi (bs [110])))=(0,true):=by rw[r1];exact q1
 unfold KQ;rw[if_neg (by rw[lD];simp)];refine(congrArg WU (ib (kf:=λme i=>Sv (fN Kd) Kd me (Kr Kd.roles me) i) q0')).trans ?_;refine(congrArg WU (ib (kf:=λme i=>Sv (fN Kd) Kd me (Kr Kd.roles me) i) q1')).trans ?_;rfl
theorem vC:KQ OE=(1,E3 Sx,13):=by
 have q0:S7 (Sv (fN OE) OE (bs [65]) 0 0) (CO (fN OE) (VL (bs [101,110,99]) (false,true) [Gi (bs [110]),Gi (bs [107])]))=(0,true):=dA bc ia rfl (by kernel_rfl);have q1:S7 (Sv (fN OE) OE (bs [66]) 1 1) (CO (fN OE) (Gi (bs [110])))=(0,false):=dA bc ia rfl (by kernel_rfl);have r0:Kr OE.roles (bs [65])=0:=by kernel_rfl
 have r1:Kr OE.roles (bs [66])=1:=by kernel_rfl
 have q0':S7 (Sv (fN OE) OE (bs [65]) (Kr OE.roles (bs [65])) 0) (CO (fN OE) (VL (bs [101,110,99]) (false,true) [Gi (bs [110]),Gi (bs [107])]))=(0,true):=by rw[r0];exact q0
 have q1':S7 (Sv (fN OE) OE (bs [66]) (Kr OE.roles (bs [66])) 1) (CO (fN OE) (Gi (bs [110])))=(0,false):=by rw[r1];exact q1
 unfold KQ;rw[if_neg (by rw[lE];simp)];refine(congrArg WU (ib (kf:=λme i=>Sv (fN OE) OE me (Kr OE.roles me) i) q0')).trans ?_;refine(xh (kf:=λme i=>Sv (fN OE) OE me (Kr OE.roles me) i) q1' rfl).trans ?_;have:E3 (CO (fN OE) (Gi (bs [110])))=E3 Sx:=by kernel_rfl
 exact congrArg (λx=>((1:Int),x,(13:Int))) this
theorem uz:Xm Kd 0 Sx=(0,0):=by
 have q0:S7 (Sv (fN Kd) Kd (bs [65]) 0 0) Sx=(0,true):=dA Pz Tc rfl (by kernel_rfl);have ha:RE Kd 0 0=0:=by kernel_rfl
 unfold Xm;rw[if_neg (by rw[ha];simp)];show Pb (Sv (fN Kd) Kd (bs [65]) 0) Sx 0 3=_;rw[Pb,q0];rfl
theorem vA:Xm Kd 1 Sx=(1,0):=by
 have q0:S7 (Sv (fN Kd) Kd (bs [66]) 1 0) Sx=(0,false):=dA Pz Tc rfl (by kernel_rfl);have q1:S7 (Sv (fN Kd) Kd (bs [66]) 1 1) Sx=(0,true):=dA Pz Tc rfl (by kernel_rfl);have ha:RE Kd 1 0=0:=by kernel_rfl
 unfold Xm;rw[if_neg (by rw[ha];simp)];show Pb (Sv (fN Kd) Kd (bs [66]) 1) Sx 0 3=_;rw[Pb,q0,Pb,q1];rfl
def uK (k:List Tm):Nat->Tm->Option (List Tm)
 |0,_=>some []
 |n+1,t =>
  if q8 t (bs [112,97,105,114])=true then (match uK k n (J0 t 0),uK k n (J0 t 1)with|some a,some b=>some (a++b)|_,_=>none)
  else if q8 t (bs [115,105,103,110])=true then uK k n (J0 t 0)
  else if q8 t (bs [101,110,99])=true then (if iY k (J0 t 1)=(true,true)then uK k n (J0 t 0)else if iY k (J0 t 1)=(true,false)then some [t]else none)
  else if q8 t (bs [97,101,110,99])=true then none
  else if q8 t (bs [104,97,115,104])=true then none else some []
theorem UI {k:G7}:∀(N:Nat) {t:Tm} {l:G7},uK k N t=some l->HT k N t=l
 |0,_,_,h=>by rw[uK]at h;exact Option.some.inj h
 |N+1,t,l,h=>by
  rw[uK]at h;rw[HT];by_cases c1:q8 t (bs [112,97,105,114])=true
  .rw[if_pos c1]at h ⊢;cases h1:uK k N (J0 t 0)with
   |none=>rw[h1]at h;cases h
   |some a =>
    cases h2:uK k N (J0 t 1)with
    |none=>rw[h1,h2]at h;cases h
    |some b =>
     rw[h1,h2]at h;rw[UI N h1,UI N h2];exact Option.some.inj h
  .rw[if_neg c1]at h ⊢;by_cases c2:q8 t (bs [115,105,103,110])=true
   .rw[if_pos c2]at h ⊢;exact UI N h
   .rw[if_neg c2]at h ⊢;by_cases c3:q8 t (bs [101,110,99])=true
    .rw[if_pos c3]at h ⊢;by_cases d1:iY k (J0 t 1)=(true,true)
     .rw[if_pos d1]at h;rw[XQ d1,if_pos rfl];exact UI N h
     .rw[if_neg d1]at h;by_cases d2:iY k (J0 t 1)=(true,false)
      .rw[if_pos d2]at h;rw[XQ d2,if_neg (by simp)];exact Option.some.inj h
      .rw[if_neg d2]at h;cases h
    .rw[if_neg c3]at h ⊢;by_cases c4:q8 t (bs [97,101,110,99])=true
     .rw[if_pos c4]at h;cases h
     .rw[if_neg c4]at h ⊢;by_cases c5:q8 t (bs [104,97,115,104])=true
      .rw[if_pos c5]at h;cases h
      .rw[if_neg c5]at h ⊢;exact Option.some.inj h
theorem bU {n:Nar} (hd:IM n=0) (he:Py (CA (fN n) n)=CA (fN n) n) {i N:Nat} {s:Ste} (hs:(n.steps.map (CB (fN n)))[i]?=some s) (hme:n.roles[Kr n.roles s.to]?=some s.to) {l:G7}
  (hN:s.msg.size=N) (h:uK (TH (true,true) (CA (fN n) n) n s.to (Kr n.roles s.to) (i+1)) N s.msg=some l):(KP n i).length=l.length:=by
 have h1:=UI N h;have h2:=congrArg A1B (qj (k:=Sv (fN n) n s.to (Kr n.roles s.to) (i+1)) (k':=TH (true,true) (CA (fN n) n) n s.to (Kr n.roles s.to) (i+1)) (by rw[VQ hd he hme];exact(RV hd he hme _).symm) N (rfl:E3 s.msg=E3 s.msg));rw[h1,A0d,A0d]at h2;rw[←h2];unfold KP;change (match (n.steps.map (CB (fN n)))[i]? with|some s=>_|none=>_:List Tm).length=_
 rw[hs];show (dy _ s.msg).length=_;unfold dy;rw[hN];rfl
theorem xf:(KP Kd 0).length=0:=bU (l:=[]) Pz Tc rfl (by kernel_rfl) rfl (by kernel_rfl)
theorem xg:(KP Kd 1).length=0:=bU (l:=[]) Pz Tc rfl (by kernel_rfl) rfl (by kernel_rfl)
theorem qz:(KP OE 0).length=1:=bU (l:=[CO (fN OE) (VL (bs [101,110,99]) (false,true) [Gi (bs [110]),Gi (bs [107])])]) bc ia rfl (by kernel_rfl) rfl (by kernel_rfl)
theorem vB:Tv Kd=true:=by
 unfold Tv;rw[decide_eq_true lD,A06,A0n];intro i hi;have:=A0u.1 hi;change i<2 at this;have h2:i=0\/i=1:=by omega
 rcases h2 with rfl|rfl
 .rw[A0c xf];rfl
 .rw[A0c xg];rfl
theorem vD:Tv OE=false:=by
 unfold Tv;rw[decide_eq_true lE,A06,A09];refine⟨0,A0u.2 (by decide),?_⟩;have:=qz;cases h:KP OE 0 with
 |nil=>rw[h]at this;cases this
 |cons a l=>simp
theorem aJ:GoodT Sx:=(SN (m:=(true,false)) (a:=bs [110]) (s:=2) ⟨by kernel_rfl,by kernel_rfl⟩ (by omega) (by omega)).good (of_decide_eq_true (by kernel_rfl))
theorem sd:pc Q IQ []=some (.bool true):=by
 have a1:=Ww (bs [65]);have a2:=Ww (bs [66]);have a3:=Ww (bs [107]);have a4:=Ua (bs [115,104,107]) (true,true) [Gi (bs [65]),Gi (bs [66])] (by simp) (by simp);rw[show A4 [Gi (bs [65]),Gi (bs [66])]=[B9 (Gi (bs [65])),B9 (Gi (bs [66]))] from rfl]at a4;have a5:=YH (VL (bs [115,104,107]) (false,true) [Gi (bs [65]),Gi (bs [66])]);have a6:=YH (Gi (bs [107]));change _=some (G4 Kd)at a5;change _=some (G4 OE)at a6;have a7:=Wu (bs [110]) 2;change _=some (B9 Sx)at a7;have FA:Fine Kd:=lI _ (of_decide_eq_true (by kernel_rfl));have FB:Fine OE:=lI _ (of_decide_eq_true (by kernel_rfl));have SA:Lens Kd:=lQ _;have SB:Lens OE:=lQ _;obtain⟨tA,b1,b2⟩:=cV Kd FA SA;obtain⟨tB,b3,b4⟩:=cV OE FB SB;rw[uy]at b1 b2;rw[vC]at b3 b4;have c1:=aQ Kd FA SA 0 Sx aJ;have c2:=aQ Kd FA SA 1 Sx aJ;rw[uz]at c1;rw[vA]at c2;have d1:=YC Kd FA SA;have d2:=YC OE FB SB;rw[vB]at d1;rw[vD]at d2;obtain⟨m,l,e1,e2,-⟩:=pl OE FB SB 1 0;have hb:iS OE 1 0=0:=by kernel_rfl
 obtain⟨e3,-,-⟩:=e2 hb;rw[hb]at e1;have A6:l.length=1:=by
  have h1:=XF e3;have h2:=ZX e3;change l.length<=(KP OE 0).length at h1;change l=[]↔KP OE 0=[]at h2;have h3:=qz;cases l with
  |nil=>rw[h2.1 rfl]at h3;cases h3
  |cons a l=>simp only[A0h]at h1 ⊢;omega
 have J4:tB.size<=1099511627776:=by rw[←CK _ tB (A0f _),b4];exact of_decide_eq_true (by kernel_rfl)
 have hS:=Wv tB Sx J4 (of_decide_eq_true (by kernel_rfl));rw[show KU tB Sx=true from by unfold KU;rw[decide_eq_true_iff,V7,b4]]at hS;have nA:=E5 Kd;have nB:=E5 OE;have tl:(A4 l).length=1:=by rw[C9,A0d];exact A6
 generalize Kd=xA at *
 generalize OE=xB at *
 generalize Sx=xT at *
 simp only at b1 b3 c1 c2;refine je WZ rfl (by simp[LX]) λfr hl ha=>?_;clear ha;simp[LX]at hl ;simp[LX,hl,a1,a2,a3,a4,a5,a6,a7,b1,b3,c1,c2,d1,d2,e1,hS,nA,nB,tl,A5,K5]
theorem yQ (n:Nar) (F:Fine n) (hS:Oq n.steps+RR n.goals<=1099511627776):∃b,pc Q RY [G4 n]=some (.bool b):=by
 obtain⟨b,hL⟩:=sv n F hS;have nb:=E5 n;refine⟨b,?_⟩;refine H6 Rt λfr hl h0=>?_;simp[Rt]at hl h0;simp[Rt,hl,h0,nb,hL]
def b8 (i:Int):UInt8:=UInt8.ofNat (IntKind.u8.wrap i).toNat
theorem xD {n:Int} (h0:0<=n) (h1:n<256):IntKind.u8.wrap n=n:=by
 simp only[IntKind.wrap,IntKind.bits,IntKind.signed];simp;omega
theorem iR {i j:Int} (hi:0<=i) (DE:i<256) (hj:0<=j) (hj':j<256) (h:b8 i=b8 j):i=j:=by
 unfold b8 at h;rw[xD hi DE,xD hj hj']at h;have:=congrArg UInt8.toNat h;simp only[UInt8.toNat_ofNat']at this;omega
mutual
def Kq:Tm->List UInt8
 | .mk k nm s _ l=>b8 k::b8 s::b8 l.length::(M3 nm++40::(Qv l++[41]))
def Qv:List Tm->List UInt8
 | []=>[]
 |t::l=>Kq t++44::Qv l
end
theorem OW {k s:Int} {nm:J1} {n:Nat} (h:s7 k s nm n=0):(k=1\/k=2\/k=3)/\0<=s/\s<=5/\n<=8/\U8 nm=true:=by
 obtain⟨h1,-,h3,h4⟩:=HB h;unfold s7 at h;by_cases hc:(k=1\/k=2)/\(s<0\/5<s\/0<n)\/k=3/\s≠0\/(k≠1/\k≠2/\k≠3)
 .rw[if_pos hc]at h;exact absurd h (by decide)
 .refine⟨h3,?_,?_,h4,h1⟩<;>omega
theorem Xs {nm:J1} (h:U8 nm=true):40∉M3 nm:=by
 unfold U8 at h;intro hm;cases hb:M3 nm with
 |nil=>rw[hb]at hm;exact absurd hm A0p
 |cons c r =>
  rw[hb]at h hm;simp only[A0m]at h;have:=(A0n.1 h.2) 40 hm;exact absurd this (by decide)
theorem tt {a b x y:List UInt8} (ha:40∉a) (hb:40∉b) (h:a++40::x=b++40::y):a=b/\x=y:=by
 induction a generalizing b with
 |nil =>
  cases b with
  |nil=>simpa using h
  |cons c b =>
   simp only[A0t,A0e,List.cons.injEq]at h;exact absurd (by rw[←h.1];exact A0a) hb
 |cons d a ih =>
  cases b with
  |nil =>
   simp only[A0t,A0e,List.cons.injEq]at h;exact absurd (by rw[h.1];exact A0a) ha
  |cons c b =>
   simp only[A0e,List.cons.injEq]at h;obtain⟨rfl,h2⟩:=h;obtain⟨h3,h4⟩:=ih (λk=>ha (A0i _ k)) (λk=>hb (A0i _ k)) h2;exact⟨by rw[h3],h4⟩
theorem yV:∀(n:Nat) (t t':Tm) (r r':List UInt8),t.size<=n->I9 t=0->I9 t'=0->Kq t++r=Kq t'++r'->E3 t=E3 t'/\r=r':=by
 intro n
 induction n with
 |zero=>intro t _ _ _ h;have:=t.size_pos;omega
 |succ n ih =>
  intro t t' r r' hn h1 h2 h;obtain⟨k,nm,s,m,l⟩:=t;obtain⟨k',nm',s',m',l'⟩:=t';have J4:Tm.size (.mk k nm s m l)=1+Tm.sizes l:=rfl;obtain⟨a1,a2⟩:=Q4 h1;obtain⟨b1,b2⟩:=Q4 h2;obtain⟨ka,sa,sa',na,ma⟩:=OW a1;obtain⟨kb,sb,sb',nb,mb⟩:=OW b1;simp only[Kq,A0e,List.cons.injEq,A0w]at h;obtain⟨e1,e2,e3,e4⟩:=h;have hk:=iR (by omega) (by omega) (by omega) (by omega) e1;have hs:=iR (by omega) (by omega) (by omega) (by omega) e2;have hl:=iR (by omega) (by omega) (by omega) (by omega) e3;obtain⟨e5,e6⟩:=tt (Xs ma) (Xs mb) e4;have hnm:=TW e5;have key:∀(l l':List Tm) (x y:List UInt8),Tm.sizes l<=n->M1 l=0->M1 l'=0->l.length=l'.length->Qv l++x=Qv l'++y->H5 l=H5 l'/\x=y:=by
   intro l
   induction l with
   |nil =>
    intro l' x y _ _ _ hl h;have:l'=[]:=A0c hl.symm;subst this;exact⟨rfl,by simpa[Qv]using h⟩
   |cons a l ihl =>
    intro l' x y J4 h1 h2 hl h;cases l' with
    |nil=>simp at hl
    |cons b l' =>
     simp only[Tm.sizes]at J4;simp only[Qv,A0w,A0e]at h;have q1:=K0 h1;have q2:=K0 h2;obtain⟨g1,g2⟩:=ih a b _ _ (by omega) (q1 a A0a) (q2 b A0a) h;simp only[List.cons.injEq,true_and]at g2;have z1:M1 l=0:=by
      rw[M1]at h1;rw[if_neg (by simp[q1 a A0a])]at h1;exact h1
     have z2:M1 l'=0:=by
      rw[M1]at h2;rw[if_neg (by simp[q2 b A0a])]at h2;exact h2
     obtain⟨g3,g4⟩:=ihl l' x y (by omega) z1 z2 (by simpa using hl) g2;exact⟨by simp only[H5,g1,g3],g4⟩
  obtain⟨g1,g2⟩:=key l l' _ _ (by omega) a2 b2 (by omega) e6;refine⟨by simp only[E3,hk,hnm,hs,g1],?_⟩;simpa using g2
mutual
theorem tL:∀t:Tm,Kq (E3 t)=Kq t
 | .mk k nm s m l=>by rw[E3,Kq,Kq,tO l,E4,A0d]
theorem tO:∀l:List Tm,Qv (H5 l)=Qv l
 | []=>rfl
 |t::l=>by rw[H5,Qv,Qv,tL t,tO l]
end
theorem yU {a b:Tm} (ha:OkT a) (hb:OkT b):Kq a=Kq b↔E3 a=E3 b:=by
 constructor
 .intro h;exact(yV _ a b [] [] (A0f _) (X8 (w7 ha.valid).1).1 (X8 (w7 hb.valid).1).1 (by simpa using h)).1
 .intro h;rw[←tL a,h,tL b]
def TJ (l:List UInt8):ByteArray:=⟨⟨l⟩⟩
theorem ve (s:J1):TJ (M3 s)=s:=TW rfl
theorem fX (l:List UInt8):(TJ l).size=l.length:=by rw[←K7];rfl
theorem UG {a b:List UInt8} (h:a.length+b.length<=4611686018427387904):G8 .add (.str (TJ a)) (.str (TJ b))=some (.str (TJ (a++b))):=by
 rw[dx (by rw[fX,fX];exact h)];congr 2
theorem xN {a:List UInt8} {nm:J1} (h:a.length+nm.size<=4611686018427387904):G8 .add (.str (TJ a)) (.str nm)=some (.str (TJ (a++M3 nm))):=by
 have:=UG (a:=a) (b:=M3 nm) (by rw[K7];exact h)
 rwa [ve]at this
theorem aG {nm:J1} (h:U8 nm=true):nm.size<=24:=by
 unfold U8 at h;cases hb:M3 nm with
 |nil=>rw[hb]at h;cases h
 |cons c r =>
  rw[hb]at h;simp only[A0m,decide_eq_true_eq]at h;exact h.1.1
mutual
theorem tM:∀t:Tm,I9 t=0->(Kq t).length+1<=30*t.size
 | .mk k nm s m l,h=>by
  obtain⟨a1,a2⟩:=Q4 h;obtain⟨-,-,-,-,ma⟩:=OW a1;have h1:=aG ma;have h2:=cy l a2;have h3:=K7 nm;have J4:Tm.size (.mk k nm s m l)=1+Tm.sizes l:=rfl;simp only[Kq,A0h,A0b,List.length_nil];omega
theorem cy:∀l:List Tm,M1 l=0->(Qv l).length<=30*Tm.sizes l
 | [],_=>A1C _
 |t::l,h=>by
  have q:=K0 h;have h1:=tM t (q t A0a);have z1:M1 l=0:=by
   rw[M1]at h;rw[if_neg (by simp[q t A0a])]at h;exact h
  have h2:=cy l z1;have:=t.size_pos;simp only[Qv,A0b,A0h,Tm.sizes];omega
end
theorem iv (m:I6) (l:G7) (x0 x1 x2:AV) (hd:List UInt8) (J4:Tm.sizes l<=1048576) (hll:l.length<=1048576) (hhd:hd.length<=1048576) (hv:M1 l=0) (IH:∀t∈l,pc Q AN [B9 t]=some (.str (TJ (Kq t)))) (fr:Fr) (h:AH) (hh:h=⟨[[x0,x1,x2,sl m 4 (A4 l)]],[]⟩) (h3:A0 fr 3=.str (TJ hd)) (hl:fr.length=39) (h1:A0 fr 1=.ptr 0 0) (h4:A0 fr 4=.int .i64 0) :
  B6 (lp (A2 (K8 Q) (D6 AN) Fk) (fr,h)) λe C3 h'=>Kp Fk.wr fr C3/\(e=.exit 0/\A0 C3 3=.str (TJ (hd++Qv l))):=by
 refine A9 rfl fr (λn fr h'=>∃(i:Nat),i+n=l.length/\A0 fr 4=.int .i64 (i:Nat)/\(h'=⟨[[x0,x1,x2,sl m 4 (A4 l)]],[]⟩/\∃acc,A0 fr 3=.str (TJ acc)/\acc.length<=1048576+30*Tm.sizes (l.take i)/\acc++Qv (l.drop i)=hd++Qv l)) ?_ l.length h ⟨0,by omega,h4,hh,hd,h3,by simp[Tm.sizes,hhd],rfl⟩;rintro J Φ hJ hΦ n D4 H1 K ⟨i,hi,k4,hr⟩;have A6:=K.1.trans hl;have k1:=A8 K 1 h1;clear K;by_cases A7:i<l.length
 .have L3:=C6 i (by omega);obtain⟨rfl,acc,k3,hal,hr⟩:=hr;have HW:=A0o A7;have hx:=I0 A7;have hI:=IH l[i] HW;have hp:=tM l[i] (K0 hv _ HW);have Wn:=Tm.size_le HW;rw[A0x A7,Qv]at hr;have Hx:Tm.sizes (l.take (i+1))=Tm.sizes (l.take i)+l[i].size:=by
   rw[←Q8,←Q8,PS A7,A0b,Mw]
  have hsle:Tm.sizes (l.take (i+1))<=Tm.sizes l:=by
   have e:=congrArg A1B (congrArg alls (List.take_append_drop (i+1) l));rw[G3,G3,List.flatMap_append,A0b,←G3,←G3,←G3,Q8,Q8,Q8]at e;omega
  have q1:=UG (a:=acc) (b:=Kq l[i]) (by omega);have q2:G8 .add (.str (TJ (acc++Kq l[i]))) (.str (bs [44]))=some (.str (TJ (acc++Kq l[i]++[44]))):=UG (b:=[44]) (by simp only[A0b,A03];omega);clear hh;generalize l[i]=s at *
  simp[Fk,A6,k1,k4,A7,L3,k3,hx,hI,q1,q2];exact G0 hJ ⟨i+1,by omega,by simp[A6],rfl,acc++Kq s++[44],by simp[A6],by simp only[A0b,A03];omega,by rw[←hr];simp⟩
 .obtain⟨rfl,acc,k3,hal,hr⟩:=hr;rw[A02 (by omega),Qv,List.append_nil]at hr;simp[Fk,A6,k1,k4,A7];exact hΦ _ _ _ ⟨rfl,by simp[k3,hr]⟩
theorem cj:∀(n:Nat) (t:Tm),t.size<=n->t.size<=1048576->I9 t=0->pc Q AN [B9 t]=some (.str (TJ (Kq t))):=by
 intro n
 induction n with
 |zero=>intro t h;have:=t.size_pos;omega
 |succ n ih =>
  intro t hn hb Yz;obtain⟨k,nm,s,m,kids⟩:=t;have J4:Tm.size (.mk k nm s m kids)=1+Tm.sizes kids:=rfl;have B8:=Tm.length_le kids;obtain⟨a1,a2⟩:=Q4 Yz;obtain⟨-,-,-,-,ma⟩:=OW a1;have hns:=aG ma;have hnb:=K7 nm;have hpl:=cy kids a2;have Gl:=iv m kids (.int .i64 k) (.str nm) (.int .i64 s) (b8 k::b8 s::b8 kids.length::(M3 nm++[40])) (by omega) (by omega) (by simp;omega) a2 (λt ht=>ih t (by have:=Tm.size_le ht;omega) (by have:=Tm.size_le ht;omega) (K0 a2 t ht));clear ih;have hB:∀h:AH,TD h (sl (true,true) 1 [.int .u8 (IntKind.u8.wrap k),.int .u8 (IntKind.u8.wrap s),.int .u8 (IntKind.u8.wrap kids.length)])=some (.str (TJ [b8 k,b8 s,b8 kids.length]),h):=λh=>by
   simp only[TD,N0,Lg,A1F];rfl
  have q1:G8 .add (.str (TJ [b8 k,b8 s,b8 kids.length])) (.str nm)=some (.str (TJ ([b8 k,b8 s,b8 kids.length]++M3 nm))):=xN (by simp;omega);have q2:G8 .add (.str (TJ ([b8 k,b8 s,b8 kids.length]++M3 nm))) (.str (bs [40]))=some (.str (TJ (b8 k::b8 s::b8 kids.length::(M3 nm++[40])))):=(UG (b:=[40]) (by simp;omega)).trans (by simp);have q3:G8 .add (.str (TJ (b8 k::b8 s::b8 kids.length::(M3 nm++[40])++Qv kids))) (.str (bs [41]))=some (.str (TJ (Kq (.mk k nm s m kids)))):=(UG (b:=[41]) (by simp;omega)).trans (by simp[Kq]);generalize hP:TJ (Kq (.mk k nm s m kids))=P at *
  simp only[A0e,A0t]at q1 q2 q3 Gl;refine H6 Ox λfr hl h0=>?_;simp[Ox,B9]at hl h0;simp[Ox,hl,h0,hB,q1,q2,A5];refine B6.mono (Gl _ _ ?_ ?_ ?_ ?_ ?_) ?_<;>first|(simp[hl];done)|skip
  rintro e D4 h1 ⟨K,rfl,k3⟩;have A6:D4.length=39:=K.1.trans (by simp[hl]);simp only[A0w,A0e,A0t]at q3;simp[A6,k3,q3]
theorem cd (t:Tm) (h:t.kind=3->t.name∈AX):pc Q Jk [B9 t]=some (.bool false):=by
 have h1:=NQ t h;have h2:=Ph t (bs [120,111,114]);rw[Ms h (by decide)]at h2;have h3:=Ph t (bs [101,120,112]);rw[Ms h (by decide)]at h3;refine H6 KB λfr hl h0=>?_;simp[KB]at hl h0;simp[KB,hl,h0,h1,h2,h3]
theorem xt {S U T:G7} (hS:iM S T) (Gk:∀u∈U,K4 T u=true\/Du T u=false) {e:Tm} (h:Kn S U e):e∈T.map E3:=by
 induction h with
 |base e h=>exact hS e h
 |step T0 _ u hu hs ih =>
  rcases Gk u hu with h|h
  .exact V8.1 h
  .rw[Tt ih hs]at h;cases h
def Su (U:List Tm) (t:Tm):Nat:=U.findIdx λu=>KU u t
theorem RT {U:G7} {t:Tm} (h:K4 U t=true):Su U t<U.length:=by
 unfold Su;rw[List.findIdx_lt_length];obtain⟨x,hx,he⟩:=A0z.1 h;exact⟨x,hx,he⟩
theorem rN {U:G7} {t:Tm} (h:K4 U t=true):E3 (U[Su U t]'(RT h))=E3 t:=by
 have:=List.findIdx_getElem (p:=λu=>KU u t) (xs:=U) (w:=RT h);exact V7.1 (of_decide_eq_true this)
theorem aq {U:G7} (h:Y5 U) {i j:Nat} (hi:i<U.length) (hj:j<U.length) (he:E3 U[i]=E3 U[j]):i=j:=by
 rcases Nat.lt_trichotomy i j with q|q|q
 .have:=h.get hi hj q;rw[V7.2 he]at this;exact absurd this (by decide)
 .exact q
 .have:=h.get hj hi q;rw[V7.2 he.symm]at this;exact absurd this (by decide)
def WK (m:Bool×Bool) (ks:List Nat) (key:Int):AV:=.agg [sl m 1 (ks.map λ(j:Nat)=>AV.int .i64 (j:Int)),.int .i64 key]
theorem iz (m m2:I6) (ks:List Nat) (kn:List Bool) (key:Int) (C:G6) (B8:ks.length<=1048576) (hb:∀j∈ks,j<kn.length) (hkn:kn.length<=1048576) (fr:Fr) (h:AH) (hh:h=⟨[C,[sl m 1 (ks.map λ(j:Nat)=>AV.int .i64 (j:Int)),.int .i64 key]],[]⟩) (hl:fr.length=36) (h2:A0 fr 2=sl m2 1 (kn.map AV.bool)) (h4:A0 fr 4=.ptr 1 0) (h7:A0 fr 7=.int .i64 0) :
  B6 (lp (A2 (K8 Q) (D6 LR) Ch) (fr,h)) λe C3 h'=>Kp Ch.wr fr C3/\(e=.exit 1/\h'=⟨[C,[sl m 1 (ks.map λ(j:Nat)=>AV.int .i64 (j:Int)),.int .i64 key]],[]⟩/\ks.all (λj=>kn.getD j false)=true\/e=.ret/\A0 C3 6=.bool false/\ks.all (λj=>kn.getD j false)=false):=by
 refine A9 rfl fr (λn fr h'=>∃(i:Nat),i+n=ks.length/\A0 fr 7=.int .i64 (i:Nat)/\(h'=⟨[C,[sl m 1 (ks.map λ(j:Nat)=>AV.int .i64 (j:Int)),.int .i64 key]],[]⟩/\(ks.drop i).all (λj=>kn.getD j false)=ks.all λj=>kn.getD j false)) ?_ ks.length h ⟨0,by omega,h7,hh,rfl⟩;rintro J Φ hJ hΦ n D4 H1 K ⟨i,hi,k7,hr⟩;have A6:=K.1.trans hl;have k2:=A8 K 2 h2;have k4:=A8 K 4 h4;clear K;by_cases A7:i<ks.length
 .have L3:=C6 i (by omega);obtain⟨rfl,hr⟩:=hr;have hx:=G1 (f:=λ(j:Nat)=>AV.int .i64 (j:Int)) (A0Z A7);have hj:=hb _ (A0o A7);rw[A0x A7,List.all_cons]at hr;clear hh;generalize ks[i]=j at *
  have hy:=G1 (f:=AV.bool) (A0Z hj);have hg:kn.getD j false=kn[j]:=by rw[A0j,A0Z hj];rfl
  rw[hg]at hr;generalize kn[j]=b at *
  cases b with
  |true =>
   rw[A06]at hr;simp[Ch,A6,k2,k4,k7,A7,L3,hx,hy];exact G0 hJ ⟨i+1,by omega,by simp[A6],rfl,hr⟩
  |false =>
   rw[A1G]at hr;simp[Ch,A6,k2,k4,k7,A7,hx,hy];exact hΦ _ _ _ (.inr ⟨rfl,by simp[A6],hr.symm⟩)
 .obtain⟨rfl,hr⟩:=hr;rw[A02 (by omega)]at hr;simp[Ch,A6,k4,k7,A7];exact hΦ _ _ _ (.inl ⟨rfl,rfl,hr.symm⟩)
theorem sg (m m2:I6) (t:Tm) (ks:List Nat) (kn:List Bool) (key:Int) (B8:ks.length<=1048576) (hb:∀j∈ks,j<kn.length) (hkn:kn.length<=1048576) :
  pc Q LR [B9 t,WK m ks key,sl m2 1 (kn.map AV.bool)]=some (.bool (EQ t al&&ks.all λj=>kn.getD j false)):=by
 have Gl:=iz m m2 ks kn key (B9 t).cells B8 hb hkn;generalize (ks.all λj=>kn.getD j false)=b at *
 have Xa:∀nm,nm∈al->t.name=nm->EQ t al=decide (t.kind=3):=by
  intro nm hm e;unfold EQ;have:al.any (U7 t.name)=true:=A0z.2 ⟨nm,hm,(GW _ _).2 e⟩;rw[this,Bool.and_true]
 have hout:(∀nm∈al,t.name≠nm)->EQ t al=false:=by
  intro h;unfold EQ;have:al.any (U7 t.name)=false:=by
   rw[Bool.eq_false_iff];intro ha;obtain⟨x,hx,he⟩:=A0z.1 ha;exact h x hx ((GW _ _).1 he)
  rw[this,Bool.and_false]
 generalize EQ t al=sq at *
 simp only[al,A0v,A0p,or_false,forall_eq_or_imp,forall_eq]at Xa hout;obtain⟨i1,i2,i3,i4,i5,i6⟩:=Xa;by_cases h1n:t.name=bs [112,97,105,114]
 .rw[i1 h1n];clear i1 i2 i3 i4 i5 i6 hout;refine HC I8 λfr hl h0 h1 h2=>?_;simp[I8,WK]at hl h0 h1 h2;simp[I8,hl,h0,h1,h1n];refine B6.mono (Gl _ _ ?_ ?_ ?_ ?_ ?_) ?_<;>first|(simp[hl,h2,h1n];done)|skip
  rintro e D4 DD ⟨K,⟨rfl,rfl,rfl⟩|⟨rfl,k6,rfl⟩⟩
  .have A6:D4.length=36:=K.1.trans (by simp[hl]);have k3:A0 D4 3=.ptr 0 0:=A8 K 3 (by simp[hl]);simp[A6,k3]
  .simp[k6]
 by_cases h2n:t.name=bs [101,110,99]
 .rw[i2 h2n];clear i1 i2 i3 i4 i5 i6 hout;refine HC I8 λfr hl h0 h1 h2=>?_;simp[I8,WK]at hl h0 h1 h2;simp[I8,hl,h0,h1,h2n,eq_false (by decide:¬(bs [101,110,99])=bs [112,97,105,114])];refine B6.mono (Gl _ _ ?_ ?_ ?_ ?_ ?_) ?_<;>first|(simp[hl,h2,h2n];done)|skip
  rintro e D4 DD ⟨K,⟨rfl,rfl,rfl⟩|⟨rfl,k6,rfl⟩⟩
  .have A6:D4.length=36:=K.1.trans (by simp[hl]);have k3:A0 D4 3=.ptr 0 0:=A8 K 3 (by simp[hl]);simp[A6,k3]
  .simp[k6]
 by_cases h3n:t.name=bs [97,101,110,99]
 .rw[i3 h3n];clear i1 i2 i3 i4 i5 i6 hout;refine HC I8 λfr hl h0 h1 h2=>?_;simp[I8,WK]at hl h0 h1 h2;simp[I8,hl,h0,h1,h3n,eq_false (by decide:¬(bs [97,101,110,99])=bs [112,97,105,114]),eq_false (by decide:¬(bs [97,101,110,99])=bs [101,110,99])];refine B6.mono (Gl _ _ ?_ ?_ ?_ ?_ ?_) ?_<;>first|(simp[hl,h2,h3n];done)|skip
  rintro e D4 DD ⟨K,⟨rfl,rfl,rfl⟩|⟨rfl,k6,rfl⟩⟩
  .have A6:D4.length=36:=K.1.trans (by simp[hl]);have k3:A0 D4 3=.ptr 0 0:=A8 K 3 (by simp[hl]);simp[A6,k3]
  .simp[k6]
 by_cases h4n:t.name=bs [112,107]
 .rw[i4 h4n];clear i1 i2 i3 i4 i5 i6 hout;refine HC I8 λfr hl h0 h1 h2=>?_;simp[I8,WK]at hl h0 h1 h2;simp[I8,hl,h0,h1,h4n,eq_false (by decide:¬(bs [112,107])=bs [112,97,105,114]),eq_false (by decide:¬(bs [112,107])=bs [101,110,99]),eq_false (by decide:¬(bs [112,107])=bs [97,101,110,99])];refine B6.mono (Gl _ _ ?_ ?_ ?_ ?_ ?_) ?_<;>first|(simp[hl,h2,h4n];done)|skip
  rintro e D4 DD ⟨K,⟨rfl,rfl,rfl⟩|⟨rfl,k6,rfl⟩⟩
  .have A6:D4.length=36:=K.1.trans (by simp[hl]);have k3:A0 D4 3=.ptr 0 0:=A8 K 3 (by simp[hl]);simp[A6,k3]
  .simp[k6]
 by_cases h5n:t.name=bs [115,105,103,110]
 .rw[i5 h5n];clear i1 i2 i3 i4 i5 i6 hout;refine HC I8 λfr hl h0 h1 h2=>?_;simp[I8,WK]at hl h0 h1 h2;simp[I8,hl,h0,h1,h5n,eq_false (by decide:¬(bs [115,105,103,110])=bs [112,97,105,114]),eq_false (by decide:¬(bs [115,105,103,110])=bs [101,110,99]),eq_false (by decide:¬(bs [115,105,103,110])=bs [97,101,110,99]),eq_false (by decide:¬(bs [115,105,103,110])=bs [112,107])];refine B6.mono (Gl _ _ ?_ ?_ ?_ ?_ ?_) ?_<;>first|(simp[hl,h2,h5n];done)|skip
  rintro e D4 DD ⟨K,⟨rfl,rfl,rfl⟩|⟨rfl,k6,rfl⟩⟩
  .have A6:D4.length=36:=K.1.trans (by simp[hl]);have k3:A0 D4 3=.ptr 0 0:=A8 K 3 (by simp[hl]);simp[A6,k3]
  .simp[k6]
 by_cases h6n:t.name=bs [104,97,115,104]
 .rw[i6 h6n];clear i1 i2 i3 i4 i5 i6 hout;refine HC I8 λfr hl h0 h1 h2=>?_;simp[I8,WK]at hl h0 h1 h2;simp[I8,hl,h0,h1,h6n,eq_false (by decide:¬(bs [104,97,115,104])=bs [112,97,105,114]),eq_false (by decide:¬(bs [104,97,115,104])=bs [101,110,99]),eq_false (by decide:¬(bs [104,97,115,104])=bs [97,101,110,99]),eq_false (by decide:¬(bs [104,97,115,104])=bs [112,107]),eq_false (by decide:¬(bs [104,97,115,104])=bs [115,105,103,110])];refine B6.mono (Gl _ _ ?_ ?_ ?_ ?_ ?_) ?_<;>first|(simp[hl,h2,h6n];done)|skip
  rintro e D4 DD ⟨K,⟨rfl,rfl,rfl⟩|⟨rfl,k6,rfl⟩⟩
  .have A6:D4.length=36:=K.1.trans (by simp[hl]);have k3:A0 D4 3=.ptr 0 0:=A8 K 3 (by simp[hl]);simp[A6,k3]
  .simp[k6]
 rw[hout ⟨h1n,h2n,h3n,h4n,h5n,h6n⟩,A1G];clear i1 i2 i3 i4 i5 i6 hout;refine HC I8 λfr hl h0 h1 h2=>?_;simp[I8,WK]at hl h0 h1 h2;simp[I8,hl,h0,h1,h1n,h2n,h3n,h4n,h5n,h6n]
end Go.Abs.Q
