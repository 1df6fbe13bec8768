/- A part of the proof. -/
import Derived.Test.YtohjdamplbhdpaaGreatDoorSB20
import Derived.KernelRfl
set_option linter.all false
open List renaming getElem?_eq_getElem->A0O,mem_cons_self->A0P,length_append->A0Q,eq_nil_of_length_eq_zero->A0R,length_map->A0S,cons_append->A0T,length_cons->A0W,mem_cons_of_mem->A0X,getD_eq_getElem?_getD->A0Y,mem_map->A0Z,all_eq_true->A0c,getElem_mem->A0d,not_mem_nil->A0e,length_replicate->A0f,map_append->A0g,mem_of_getElem?->A0h,nil_append->A0i,mem_range->A0j,mem_cons->A0k,append_assoc->A0l,drop_eq_getElem_cons->A0m,getElem?_eq_some_iff->A0n,any_eq_true->A0o,mem_append->A0p,append_eq_nil_iff->A0q,drop_eq_nil_of_le->A0r,length_singleton->A0s,mem_append_left->A0t,range->A0u,mem_map_of_mem->A0w,mem_singleton->A0x,all_eq_false->A0y,getElem?_map->A0z,length->A00,mem_flatMap->A02,nodup_cons->A03,replicate->A06
open Nat renaming le_refl->A0U,zero_le->A01,le_trans->A07
open Int renaming toNat_natCast->A0V,eq_ofNat_of_zero_le->A0a
open Bool renaming and_eq_true->A0b,true_and->A0v,false_and->A05
open Option renaming map_some->A04
namespace Go.Abs
def Ym (L:Nat) (wr:Bool) (sz:Nat) (xs:List AV) (v:AV) (h:AH):Prop:=(xs.length<=1/\∃b,v=sl (true,b) sz xs)\/(xs≠[]/\∃k,L<=k/\v=.sl k xs.length 0 xs.length/\h.fams[k]?=some ⟨xs,sz,wr⟩)
theorem Ym.a {L:Nat} {wr:Bool} {sz:Nat} {xs:G4} {v:AV} {h:AH} (hg:Ym L wr sz xs v h):KF wr sz xs v h:=by
 rcases hg with hg|⟨h1,k,_,h2,h3⟩
 .exact .inl hg.2
 .exact .inr ⟨h1,k,h2,h3⟩
theorem JK {L:Nat} {wr:Bool} {sz:Nat} {xs:G4} {v:AV} {h h':AH} (hg:Ym L wr sz xs v h) (e:h'.fams=h.fams):Ym L wr sz xs v h':=by
 rcases hg with hg|⟨h1,k,h0,h2,h3⟩
 .exact .inl hg
 .exact .inr ⟨h1,k,h0,h2,by rw[e];exact h3⟩
theorem Ym.mono {L L':Nat} {wr:Bool} {sz:Nat} {xs:G4} {v:AV} {h:AH} (hg:Ym L wr sz xs v h) (hL:L'<=L):Ym L' wr sz xs v h:=by
 rcases hg with hg|⟨h1,k,h0,h2,h3⟩
 .exact .inl hg
 .exact .inr ⟨h1,k,by omega,h2,h3⟩
theorem qI {L:Nat} {wr:Bool} {sz:Nat} {xs:G4} {v:AV} {h h':AH} (hg:Ym L wr sz xs v h) (e:∀j,j<h.fams.length->h'.fams[j]?=h.fams[j]?):Ym L wr sz xs v h':=by
 rcases hg with hg|⟨h1,k,h0,h2,h3⟩
 .exact .inl hg
 .exact .inr ⟨h1,k,h0,h2,by rw[e _ (A0n.1 h3).1];exact h3⟩
theorem kP {c:Ctx} {L sz bytes:Nat} {xs ys:G4} {v x:AV} {h:AH} (hL:L<=h.fams.length) (hg:Ym L c.mutApp sz xs v h) (hx:AS h sz x=some ys) (hb:(xs.length+ys.length)*bytes<=H3/\xs.length+ys.length<=maxLen) :
  ∃v' F',K3 c h sz bytes v x=some (v',⟨h.boxes,F'⟩)/\Ym L c.mutApp sz (xs++ys) v' ⟨h.boxes,F'⟩/\L<=F'.length/\∀j,j<L->F'[j]?=h.fams[j]?:=by
 rcases hg with ⟨hx1,b,rfl⟩|⟨P6,k,hk0,rfl,hk⟩
 .simp only[sl,K3,hx];by_cases hy:ys.length=0
  .rw[if_pos hy];have:ys=[]:=A0R hy;subst this;exact⟨_,h.fams,rfl,.inl ⟨by simpa using hx1,b,by simp[sl]⟩,hL,λ_ _=>rfl⟩
  .rw[if_neg hy];have hc:((if (xs.isEmpty&&!b)=true then 0 else sz)=sz\/xs.length=0)/\(xs.length+ys.length)*bytes<=H3/\xs.length+ys.length<=maxLen:=by
    refine⟨?_,hb⟩;cases xs with
    |nil=>exact .inr rfl
    |cons a l=>exact .inl rfl
   rw[if_pos hc];refine⟨_,_,rfl,.inr ⟨by intro e;rw[A0q]at e;rw[e.2]at hy;exact hy rfl,h.fams.length,hL,by rw[A0Q],by simp⟩,by simp;omega,λj hj=>List.getElem?_append_left (by omega)⟩
 .simp only[K3,hx,hk];rw[if_pos ⟨trivial,trivial,by omega,hb.1,hb.2⟩];have CI:=(A0n.1 hk).1;refine⟨_,_,rfl,.inr ⟨by intro e;rw[A0q]at e;exact P6 e.1,k,hk0,by rw[A0Q],by simp[CI]⟩,by simpa using hL,λj hj=>?_⟩;exact List.getElem?_set_ne (by omega)
end Go.Abs
namespace Go.Abs.Q
open Go.Proofs
attribute [local simp] E6 E7 fin K1 H4 P2 L5 R0 Q9
noncomputable def HG (k:List Tm):Nat->Tm->List Tm
 |0,_=>[]
 |n+1,t =>
  if p8 t (bs [112,97,105,114])=true then HG k n (J0 t 0)++HG k n (J0 t 1)
  else if p8 t (bs [115,105,103,110])=true then HG k n (J0 t 0)
  else if p8 t (bs [101,110,99])=true then (if (T1 k (J0 t 1)).2=true then HG k n (J0 t 0)else [t])
  else if p8 t (bs [97,101,110,99])=true then (if (T1 k (J0 (J0 t 1) 0)).2=true then HG k n (J0 t 0)else if (T1 k (J0 t 0)).2=true then []else [t])
  else if p8 t (bs [104,97,115,104])=true then (if (T1 k (J0 t 0)).2=true then []else [t])else []
def Wq (t:Tm):Prop:=∀x∈Cv t,p8 x (bs [97,101,110,99])=true->p8 (J0 x 1) (bs [112,107])=true
theorem Wq.kid {t x:Tm} (h:Wq t) (hx:x∈t.kids):Wq x:=λy hy=>h y (by
 rw[AF,G2];exact A0X _ (A02.2 ⟨x,hx,hy⟩))
theorem Wq.root {t:Tm} (h:Wq t):p8 t (bs [97,101,110,99])=true->p8 (J0 t 1) (bs [112,107])=true:=h t (by rw[AF];exact A0P)
theorem cQ (m:I6) (k:G6) (t:Tm) (hk:∀x∈k,GoodT x) (ht:GoodT t) (CI:k.length<=1048576):pc Q Kb [sl m 4 (A4 k),B8 t]=some (.bool (T1 k t).2):=by
 have hD:=cG m k t hk ht CI;have hT:(T1 k t).2=true->(T1 k t).1=0:=λh=>(mU h).1;generalize T1 k t=d at *
 obtain⟨e,b⟩:=d;simp only at hD hT;cases b with
 |false =>
  refine M9 LA λfr hl h0 h1=>?_;simp[LA]at hl h0 h1;simp[LA,hl,h0,h1,hD]
 |true =>
  have hT0:=hT rfl;subst hT0;refine M9 LA λfr hl h0 h1=>?_;simp[LA]at hl h0 h1;simp[LA,hl,h0,h1,hD]
theorem di:bs [112,97,105,114]≠bs [115,105,103,110]/\bs [112,97,105,114]≠bs [101,110,99]/\bs [112,97,105,114]≠bs [97,101,110,99]/\bs [112,97,105,114]≠bs [104,97,115,104]/\bs [115,105,103,110]≠bs [112,97,105,114]/\bs [115,105,103,110]≠bs [101,110,99]/\bs [115,105,103,110]≠bs [97,101,110,99]/\bs [115,105,103,110]≠bs [104,97,115,104]/\bs [101,110,99]≠bs [112,97,105,114]/\bs [101,110,99]≠bs [115,105,103,110]/\bs [101,110,99]≠bs [97,101,110,99]/\bs [101,110,99]≠bs [104,97,115,104]/\bs [97,101,110,99]≠bs [112,97,105,114]/\bs [97,101,110,99]≠bs [115,105,103,110]/\bs [97,101,110,99]≠bs [101,110,99]/\bs [97,101,110,99]≠bs [104,97,115,104]/\bs [104,97,115,104]≠bs [112,97,105,114]/\bs [104,97,115,104]≠bs [115,105,103,110]/\bs [104,97,115,104]≠bs [101,110,99]/\bs [104,97,115,104]≠bs [97,101,110,99]:=by decide
theorem pS (m:I6) (k:G6) (hk:∀x∈k,GoodT x) (CI:k.length<=1048576):∀(N:Nat) (t:Tm),t.size<=N->Hg t->Wq t->t.size<=40->∀h:AH,
  ∃v h',rc Q R9 [sl m 4 (A4 k),B8 t] h=some (v,h')/\Ym h.fams.length true 4 (A4 (HG k N t)) v h'/\(HG k N t).length<=t.size/\(∃B,h'.boxes=h.boxes++B)/\h.fams.length<=h'.fams.length/\∀j,j<h.fams.length->h'.fams[j]?=h.fams[j]?:=by
 intro N
 induction N with
 |zero=>intro t hs;have:=t.size_pos;omega
 |succ N ih0 =>
  intro t hs hA hE h40 h;have ih:∀(t:Tm),t.size<=N->Hg t->Wq t->t.size<=40->∀h:AH,∃v F',WI true h (rc Q R9 [sl m 4 (A4 k),B8 t] h)=some (v,⟨h.boxes,F'⟩)/\Ym h.fams.length true 4 (A4 (HG k N t)) v ⟨h.boxes,F'⟩/\(HG k N t).length<=t.size/\h.fams.length<=F'.length/\∀j,j<h.fams.length->F'[j]?=h.fams[j]?:=by
   intro t a b c d h;obtain⟨v,h',e1,e2,e3,e4,e5,e6⟩:=ih0 t a b c d h;exact⟨v,h'.fams,Mv e1 (Me e2.a).2.2.2 e4,e2,e3,e5,e6⟩
  clear ih0;have BF:=(hA.good h40).ok;have hnil:∀X:AH,Ym h.fams.length true 4 (A4 []) (.vs true 0 []) X:=λX=>.inl ⟨by simp,false,rfl⟩;have hone:∀X:AH,Ym h.fams.length true 4 (A4 [t]) (sl (true,true) 4 [B8 t]) X:=λX=>.inl ⟨by simp,true,rfl⟩;have hks:=t.kids_size;have hsp:=t.size_pos;by_cases hK:t.kind=3
  .have hname:∀nm,t.name=nm->p8 t nm=true:=λnm h=>IY.2 ⟨hK,h⟩;have hname':∀nm,t.name≠nm->p8 t nm=false:=λnm h=>by
    cases hq:p8 t nm with
    |false=>rfl
    |true=>exact absurd (IY.1 hq).2 h
   by_cases c1:t.name=bs [112,97,105,114]
   .obtain⟨a,b,BE⟩:=R7 BF (hname _ c1) (.inl rfl);rw[BE]at hks;simp only[Tm.sizes]at hks;have hx0:Hm (A4 t.kids) 0=some (B8 a):=by rw[BE];rfl
    have hx1:Hm (A4 t.kids) 1=some (B8 b):=by rw[BE];rfl
    have hB:HG k (N+1) t=HG k N a++HG k N b:=by rw[HG,if_pos (hname _ c1),J0,J0,BE];rfl
    rw[hB];have am:a∈t.kids:=by rw[BE];simp
    have bm:b∈t.kids:=by rw[BE];simp
    obtain⟨bx,F⟩:=h;obtain⟨va,Fa,a1,a2,a3,a4,a5⟩:=ih a (by omega) (hA.kid am) (hE.kid am) (by omega) ⟨bx++[(B8 t).cells],F⟩;obtain⟨vb,Fb,b1,b2,b3,b4,b5⟩:=ih b (by omega) (hA.kid bm) (hE.kid bm) (by omega) ⟨bx++[(B8 t).cells],Fa⟩;simp only at a4 a5 b4 b5;have a2':Ym F.length true 4 (A4 (HG k N a)) va ⟨bx++[(B8 t).cells],Fb⟩:=qI a2 b5;obtain⟨vc,Fc,p1,p2,p3,p4⟩:=kP (c:=D6 R9) (bytes:=56) (h:=⟨bx++[(B8 t).cells],Fb⟩) (show F.length<=_ by simp only;omega) a2' (ZO (b2.mono a4).a _) (by simp only[H3,maxLen,C9,A0S];omega);rw[show A4 (HG k N a)++A4 (HG k N b)=A4 (HG k N a++HG k N b) from by simp[C9]]at p2;simp only at p1;simp only[I3,hK,c1]at a1 b1 p1;refine Df E8 λfr hl h0 h1=>?_;simp[E8]at hl h0 h1;simp[E8,hl,h0,h1,hK,c1,hx0,hx1,a1,b1,p1];exact⟨JK p2 rfl,by omega,p3,λj hj=>(p4 j hj).trans ((b5 j (by omega)).trans (a5 j hj))⟩
   by_cases c2:t.name=bs [115,105,103,110]
   .obtain⟨a,b,BE⟩:=R7 BF (hname _ c2) (.inr (.inr (.inr (.inl rfl))));rw[BE]at hks;simp only[Tm.sizes]at hks;have hx0:Hm (A4 t.kids) 0=some (B8 a):=by rw[BE];rfl
    have hB:HG k (N+1) t=HG k N a:=by rw[HG,hname' _ c1,hname _ c2,J0,BE];rfl
    rw[hB];have am:a∈t.kids:=by rw[BE];simp
    obtain⟨bx,F⟩:=h;obtain⟨va,Fa,a1,a2,a3,a4,a5⟩:=ih a (by omega) (hA.kid am) (hE.kid am) (by omega) ⟨bx++[(B8 t).cells],F⟩;simp only at a4 a5;simp only[I3,hK,c2]at a1;refine Df E8 λfr hl h0 h1=>?_;simp[E8]at hl h0 h1;simp[E8,hl,h0,h1,di,hK,c2,hx0,a1];exact⟨JK a2 rfl,by omega,a4,a5⟩
   by_cases c3:t.name=bs [101,110,99]
   .have hag:AV.agg [.int .i64 3,.str (bs [101,110,99]),.int .i64 t.sort,sl t.cm 4 (A4 t.kids)]=B8 t:=by rw[←hK,←c3];cases t;rfl
    obtain⟨a,b,BE⟩:=R7 BF (hname _ c3) (.inr (.inl rfl));rw[BE]at hks;simp only[Tm.sizes]at hks;have hx0:Hm (A4 t.kids) 0=some (B8 a):=by rw[BE];rfl
    have hx1:Hm (A4 t.kids) 1=some (B8 b):=by rw[BE];rfl
    have hB:HG k (N+1) t=if (T1 k b).2=true then HG k N a else [t]:=by rw[HG,hname' _ c1,hname' _ c2,hname _ c3,J0,J0,BE];rfl
    rw[hB];have am:a∈t.kids:=by rw[BE];simp
    have bm:b∈t.kids:=by rw[BE];simp
    have hC:=cQ m k b hk ((hA.kid bm).good (by omega)) CI;obtain⟨bx,F⟩:=h;obtain⟨va,Fa,a1,a2,a3,a4,a5⟩:=ih a (by omega) (hA.kid am) (hE.kid am) (by omega) ⟨bx++[(B8 t).cells],F⟩;simp only at a4 a5;simp only[I3,hK,c3]at a1;cases hd:(T1 k b).2 with
    |true =>
     rw[hd]at hC;rw[if_pos rfl];refine Df E8 λfr hl h0 h1=>?_;simp[E8]at hl h0 h1;simp[E8,hl,h0,h1,di,hK,c3,hx0,hx1,hC,a1];exact⟨JK a2 rfl,by omega,a4,a5⟩
    |false =>
     rw[hd]at hC;rw[if_neg (by simp)];refine Df E8 λfr hl h0 h1=>?_;simp[E8]at hl h0 h1;simp[E8,hl,h0,h1,di,hK,c3,hx1,hC,hag,A5];exact⟨hone _,by omega⟩
   by_cases c4:t.name=bs [97,101,110,99]
   .have hag:AV.agg [.int .i64 3,.str (bs [97,101,110,99]),.int .i64 t.sort,sl t.cm 4 (A4 t.kids)]=B8 t:=by rw[←hK,←c4];cases t;rfl
    obtain⟨a,b,BE⟩:=R7 BF (hname _ c4) (.inr (.inr (.inl rfl)));rw[BE]at hks;simp only[Tm.sizes]at hks;have am:a∈t.kids:=by rw[BE];simp
    have bm:b∈t.kids:=by rw[BE];simp
    have hb:=hE.root (hname _ c4);rw[show J0 t 1=b from by rw[J0,BE];rfl]at hb;obtain⟨p1,p2⟩:=IY.1 hb;have hbok:=((hA.kid bm).good (by omega)).ok;obtain⟨c,hc⟩:=hbok.one p1 (by rw[p2];exact .inl rfl);have hsz2:=b.kids_size;rw[hc]at hsz2;simp only[Tm.sizes]at hsz2;have hx0:Hm (A4 t.kids) 0=some (B8 a):=by rw[BE];rfl
    have hx1:Hm (A4 t.kids) 1=some (B8 b):=by rw[BE];rfl
    have hy0:Hm (A4 b.kids) 0=some (B8 c):=by rw[hc];rfl
    have hB:HG k (N+1) t=if (T1 k c).2=true then HG k N a else if (T1 k a).2=true then []else [t]:=by rw[HG,hname' _ c1,hname' _ c2,hname' _ c3,hname _ c4,J0,J0,BE,J0];simp only[List.getD_cons_succ,List.getD_cons_zero,hc];rfl
    rw[hB];have hC:=cQ m k c hk (((hA.kid bm).kid (by rw[hc];simp)).good (by omega)) CI;have hC2:=cQ m k a hk ((hA.kid am).good (by omega)) CI;obtain⟨bx,F⟩:=h;obtain⟨va,Fa,a1,a2,a3,a4,a5⟩:=ih a (by omega) (hA.kid am) (hE.kid am) (by omega) ⟨bx++[(B8 t).cells],F⟩;simp only at a4 a5;simp only[I3,hK,c4]at a1;cases hd:(T1 k c).2 with
    |true =>
     rw[hd]at hC;rw[if_pos rfl];refine Df E8 λfr hl h0 h1=>?_;simp[E8]at hl h0 h1;simp[E8,hl,h0,h1,di,hK,c4,hx0,hx1,hy0,hC,a1];exact⟨JK a2 rfl,by omega,a4,a5⟩
    |false =>
     rw[hd]at hC;rw[if_neg (by simp)];cases hd2:(T1 k a).2 with
     |true =>
      rw[hd2]at hC2;rw[if_pos rfl];refine Df E8 λfr hl h0 h1=>?_;simp[E8]at hl h0 h1;simp[E8,hl,h0,h1,di,hK,c4,hx0,hx1,hy0,hC,hC2];exact hnil _
     |false =>
      rw[hd2]at hC2;rw[if_neg (by simp)];refine Df E8 λfr hl h0 h1=>?_;simp[E8]at hl h0 h1;simp[E8,hl,h0,h1,di,hK,c4,hx0,hx1,hy0,hC,hC2,hag,A5];exact⟨hone _,by omega⟩
   by_cases c5:t.name=bs [104,97,115,104]
   .have hag:AV.agg [.int .i64 3,.str (bs [104,97,115,104]),.int .i64 t.sort,sl t.cm 4 (A4 t.kids)]=B8 t:=by rw[←hK,←c5];cases t;rfl
    obtain⟨a,BE⟩:=BF.one hK (by rw[c5];exact .inr (.inl rfl));rw[BE]at hks;simp only[Tm.sizes]at hks;have hx0:Hm (A4 t.kids) 0=some (B8 a):=by rw[BE];rfl
    have hB:HG k (N+1) t=if (T1 k a).2=true then []else [t]:=by rw[HG,hname' _ c1,hname' _ c2,hname' _ c3,hname' _ c4,hname _ c5,J0,BE];rfl
    rw[hB];have am:a∈t.kids:=by rw[BE];simp
    have hC:=cQ m k a hk ((hA.kid am).good (by omega)) CI;cases hd:(T1 k a).2 with
    |true =>
     rw[hd]at hC;rw[if_pos rfl];refine Df E8 λfr hl h0 h1=>?_;simp[E8]at hl h0 h1;simp[E8,hl,h0,h1,di,hK,c5,hx0,hC];exact hnil _
    |false =>
     rw[hd]at hC;rw[if_neg (by simp)];refine Df E8 λfr hl h0 h1=>?_;simp[E8]at hl h0 h1;simp[E8,hl,h0,h1,di,hK,c5,hx0,hC,hag,A5];exact⟨hone _,by omega⟩
   have hB:HG k (N+1) t=[]:=by rw[HG,hname' _ c1,hname' _ c2,hname' _ c3,hname' _ c4,hname' _ c5];rfl
   rw[hB];refine Df E8 λfr hl h0 h1=>?_;simp[E8]at hl h0 h1;simp[E8,hl,h1,hK,c1,c2,c3,c4,c5];exact hnil _
  .obtain⟨bx,F⟩:=h;have hB:HG k (N+1) t=[]:=by
    have hn:∀nm,p8 t nm=false:=λnm=>by simp[p8,hK]
    rw[HG];simp[hn]
   rw[hB];refine Df E8 λfr hl h0 h1=>?_;simp[E8]at hl h0 h1;simp[E8,hl,h1,hK];exact hnil _
end Go.Abs.Q
namespace Go.Abs.Q
open Go.Proofs
attribute [local simp] E6 E7 fin K1 H4 P2 L5 R0 Q9
theorem tJ (h:AH) (b:Bool) (xs:G4) (hx:xs.length<=1):rc Q D9 [sl (true,b) 4 xs,.fn C4 []] h=some (C5,h):=by
 refine OT (s:=af 4) rfl rfl ?_;show (if xs.length<=1 then some (C5,h)else none)=_
 rw[if_pos hx]
theorem gH (g:FuncId) (h:AH) (b:Bool) (xs:G4) (hx:xs.length<=1):rc Q D4 [sl (true,b) 4 xs,.fn g []] h=some (sl (true,b) 4 xs,h):=by
 suffices hq:∃v h',rc Q D4 [sl (true,b) 4 xs,.fn g []] h=some (v,h')/\(v=sl (true,b) 4 xs/\h'=h) by
  obtain⟨v,h',h1,rfl,rfl⟩:=hq;exact h1
 have h2:(xs.length:Int)<2:=by omega
 refine Df I5 λfr hl h0 h1=>?_;simp[I5]at hl h0 h1;simp[I5,hl,h0,h2]
theorem ZS (l:G6) (h:l.length<=1):L0 l l:=by
 refine⟨?_,λ_=>Iff.rfl⟩
 match l,h with
 | [],_=>exact List.Pairwise.nil
 | [a],_=>exact List.pairwise_singleton _ _
theorem rc_sc (g:FuncId) (L:Nat) (l:G6) (v:AV) (B:List (List AV)) (F:List Fam) (hg:Ym L true 4 (A4 l) v ⟨B,F⟩) (hcm:∀l':List Tm,(∀x∈l',x∈l)->Va g l') (J5:∀t∈l,t.size<=1099511627776) (B9:l.length<=1048576) :
  ∃F1 v2 F2 R,WI true ⟨B,F⟩ (rc Q D9 [v,.fn C4 []] ⟨B,F⟩)=some (C5,⟨B,F1⟩)/\rc Q D4 [v,.fn g []] ⟨B,F1⟩=some (v2,⟨B,F2⟩)/\L0 R l/\(∀x∈R,x∈l)/\R.length<=l.length/\v2.isTup=false/\v2.cells=[v2]/\∃m,DZ ⟨B,F2⟩ v2=some (sl m 4 (A4 R)):=by
 rcases hg with ⟨hx,b,rfl⟩|⟨P6,k,hk0,rfl,hk⟩
 .have A6:l.length<=1:=by simpa using hx
  exact⟨F,_,F,l,by rw[tJ _ _ _ hx];exact kpB_s _ _,gH _ _ _ _ hx,ZS l A6,λ_ h=>h,A0U _,rfl,rfl,(true,b),rfl⟩
 .have hne':l≠[]:=by rintro rfl;exact P6 rfl
  have CI:=H5 hk;have hlv:(A4 l).length=l.length:=by simp
  obtain⟨l',hp,hsort,hS⟩:=UU k ⟨B,F⟩ l hk hne' J5 (by omega);have hl':l'.length=l.length:=hp.length_eq;have hcm:=hcm l' (λx hx=>hp.mem_iff.1 hx);obtain⟨Z,hZ,hZR,hK⟩:=NL g l' hcm k ⟨B,F.set k ⟨A4 l',4,true⟩⟩ (by simp only at CI;simp[CI]) (by omega);obtain⟨s1,s2,s3⟩:=Pp l' hsort;rw[hl']at hK hZ;generalize S8 l'=R at *
  simp only[List.set_set]at hK hS CI;have e1:(A4 Z).length=l.length:=by rw[C9,A0S,hZ]
  have e2:(A4 Z).take R.length=A4 R:=by rw[←VW,hZR]
  have e3:R.length<=l.length:=by omega
  rw[hlv];refine⟨_,_,_,R,by rw[hS];exact rJ _ _ _,hK,⟨s1.1,λe=>(s1.2 e).trans (by simp only[A0Z,hp.mem_iff])⟩,λx hx=>hp.mem_iff.1 (s2 x hx),e3,rfl,rfl,(false,true),?_⟩;rw[Ld,CU];simp[CI,e1,e2,e3]
theorem fR (a b:Tm) (h:a.size<=1099511627776) (h':b.size<=1099511627776):pc Q BN [B8 a,B8 b]=some (.bool (decide (H6 a b=0))):=by
 have hC:=x7 _ a b (A0U _) h h';refine M9 FN λfr hl h0 h1=>?_;simp[FN]at hl h0 h1;simp[FN,hl,h0,h1,hC]
noncomputable def gk (k:List Tm) (t:Tm):List Tm:=HG k t.size t
theorem qX (k:G6):∀(N:Nat) (t:Tm),∀x∈HG k N t,x.size<=t.size:=by
 intro N
 induction N with
 |zero=>intro t x hx;exact absurd hx A0e
 |succ N ih =>
  intro t x hx;have hkid:∀i,(J0 t i).size<=t.size:=λi=>by
   unfold J0;rw[A0Y];cases h:t.kids[i]? with
   |none=>have:=t.size_pos;simp[gt,Tm.size,Tm.sizes];omega
   |some y=>have h1:=Tm.size_le (A0h h);have h2:=t.kids_size;simp only[Option.getD_some];omega
  have h0:∀i,∀x∈HG k N (J0 t i),x.size<=t.size:=λi x hx=>A07 (ih _ x hx) (hkid i);have h1:∀x∈[t],x.size<=t.size:=λx hx=>by rw[A0x.1 hx];exact A0U _
  have h2:∀x∈([]:List Tm),x.size<=t.size:=λx hx=>absurd hx A0e;rw[HG]at hx
  repeat' split at hx
  all_goals first|exact h0 _ x hx|exact h1 x hx|exact h2 x hx|skip
  rcases A0p.1 hx with hx|hx<;>exact h0 _ x hx
theorem ja (r n:Nar) (F:Fine n) (S:Lens n) (hz:(l8 n).2=0) (hR:Right n) (he:Ql r=CN (L3 (B5 n) (G8 n)) n) (i:Nat) (hi:i<r.steps.length) (hAe:Wq r.steps[i].msg) :
  ∃m R,pc Q Z1 [HV r n,.int .i64 (i:Nat)]=some (sl m 4 (A4 R))/\L0 R (gk (Ss (true,true) r n r.steps[i].to (Oj r.roles r.steps[i].to) (i+1)) r.steps[i].msg)/\Tm.sizes R<=10000/\R.length<=40:=by
 have sb:=DJ r n;have hx:=G1 (f:=El) (A0O hi);have Ii:=A0d hi;obtain⟨hmA,hmS⟩:=Xi hR he Ii;obtain⟨hsm,-⟩:=Mc hR.nar he;obtain⟨e2,e3,e5⟩:=JT he;have hrl:=hsm.roles;have hstl:=hsm.steps;have hto:r.steps[i].to∈r.roles:=by
  have hm:Ns r.steps[i]∈n.steps.map (Dh (L3 (B5 n) (G8 n))):=by rw[←(s9 he).2.2.2.2.1];exact A0w Ii
  obtain⟨s',hs',e⟩:=A0Z.1 hm;unfold Ns Dh at e;injection e with _ e _ _
  rw[←e,e2];exact(NN (hR.steps s' hs')).2.1
 generalize r.steps[i]=s at *
 obtain⟨x1,x2⟩:=Ra hto;have hrole:=fw r n hrl s.to;rw[x2]at hrole;obtain⟨mk,hK⟩:=YB r n F S hz hsm e2 (Oj r.roles s.to) s.to x1 (i+1) (by omega);have FT:∀x∈Ss (true,true) r n s.to (Oj r.roles s.to) (i+1),GoodT x:=λx hx=>by
  obtain⟨h1,h2⟩:=UG hR he (by rw[←e2];exact hto) hx;exact h1.good h2
 have CI:=We (m:=(true,true)) (me:=s.to) (role:=Oj r.roles s.to) (q:=i+1) hsm;generalize Tn:Ss (true,true) r n s.to (Oj r.roles s.to) (i+1)=kk at *
 obtain⟨v,h',b1,b2,b3,⟨B,b4⟩,-⟩:=pS mk kk FT (by omega) _ s.msg (A0U _) hmA hAe hmS ⟨[(HV r n).cells,(El s).cells],[]⟩;have b5:=Mv b1 (Me b2.a).2.2.2 ⟨B,b4⟩;obtain⟨bx,Fb⟩:=h';have J5:∀t∈HG kk s.msg.size s.msg,t.size<=40:=λt ht=>A07 (qX kk _ _ t ht) hmS;obtain⟨F1,v2,F2,R,c1,c2,c3,c4,c5,c6,c7,m,c8⟩:=rc_sc BN _ _ v [(HV r n).cells,(El s).cells] Fb (JK b2 rfl) (λl' hl'=>⟨rfl,λa ha b hb=>fR a b (by have:=J5 a (hl' a ha);omega) (by have:=J5 b (hl' b hb);omega)⟩) (λt ht=>by have:=J5 t ht;omega) (by omega)
 suffices hq:∃w,pc Q Z1 [HV r n,.int .i64 (i:Nat)]=some w/\w=sl m 4 (A4 R) by
  obtain⟨w,hw,rfl⟩:=hq;exact⟨m,R,hw,c3,by have:=tT λx hx=>J5 x (c4 x hx);have:R.length*40<=40*40:=Nat.mul_le_mul_right 40 (by omega);omega,by omega⟩
 have hw:=C6 i (by omega);rw[show ((i+1:Nat):Int)=(i:Int)+1 from by omega]at hK;have ss:(El s).cells=[.str s.frm,.str s.to,.int .i64 s.msg.kind,.str s.msg.name,.int .i64 s.msg.sort,sl s.msg.cm 4 (A4 s.msg.kids),.int .i64 s.line]:=by
  show [.str s.frm,.str s.to]++(B8 s.msg).cells++[.int .i64 s.line]=_;rw[I3];rfl
 simp only[sb,ss]at b5 c1 c2 c8;refine Sk HE λΨ hΨ fr hl h0 h1=>?_;simp[HE]at hl h0 h1;simp[HE,hl,h0,h1,sb,hx,hw,hrole,hK,b5,c1,c2,c8];exact hΨ _ rfl
theorem qV {k k':G6} (hk:k.map E3=k'.map E3):∀(N:Nat) {t t':Tm},E3 t=E3 t'->(HG k N t).map E3=(HG k' N t').map E3:=by
 intro N
 induction N with
 |zero=>intro t t' _;rfl
 |succ N ih =>
  intro t t' h;have hd:∀i,(T1 k (J0 t i)).2=(T1 k' (J0 t' i)).2:=λi=>by rw[SH hk (Et h i)]
  have hd2:(T1 k (J0 (J0 t 1) 0)).2=(T1 k' (J0 (J0 t' 1) 0)).2:=by rw[SH hk (Et (Et h 1) 0)]
  have hone:[t].map E3=[t'].map E3:=by simp[h]
  rw[HG,HG,Ls h,Ls h,Ls h,Ls h,Ls h,hd,hd,hd2];split
  .rw[A0g,A0g,ih (Et h 0),ih (Et h 1)]
  .split
   .exact ih (Et h 0)
   .split
    .split
     .exact ih (Et h 0)
     .exact hone
    .split
     .split
      .exact ih (Et h 0)
      .split
       .rfl
       .exact hone
     .split
      .split
       .rfl
       .exact hone
      .rfl
theorem qW {k k':G6} (hk:k.map E3=k'.map E3) {t t':Tm} (h:E3 t=E3 t'):(gk k t).map E3=(gk k' t').map E3:=by
 have hs:t.size=t'.size:=by rw[←HI _ t (A0U _),←HI _ t' (A0U _),h]
 unfold gk;rw[hs];exact qV hk _ h
theorem ly {R l l':G6} (h:L0 R l) (e:l.map E3=l'.map E3):L0 R l':=⟨h.1,λx=>by rw[←e];exact h.2 x⟩
theorem lC {α:Type}:∀{a b:List α},a.Nodup->(∀x∈a,x∈b)->a.length<=b.length
 | [],_,_,_=>A01 _
 |x::a,b,hn,hs=>by
  obtain⟨s,t,rfl⟩:=List.append_of_mem (hs x A0P);obtain⟨h1,h2⟩:=A03.1 hn;have:=lC (b:=s++t) h2 λy hy=>by
   have h3:=hs y (A0X _ hy);have P6:y≠x:=λe=>h1 (e ▸ hy);rcases A0p.1 h3 with h|h
   .exact A0t _ h
   .rcases A0k.1 h with h|h
    .exact absurd h P6
    .exact List.mem_append_right _ h
  simp only[A0Q,A0W]at this ⊢;omega
theorem dZ {R l:G6} (h:L0 R l):(R.map E3).Nodup:=by
 have h1:=h.1;clear h
 induction R with
 |nil=>exact List.nodup_nil
 |cons a R ih =>
  obtain⟨p,q⟩:=List.pairwise_cons.1 h1;rw[List.map_cons];refine A03.2 ⟨λhm=>?_,ih q⟩;obtain⟨x,hx,e⟩:=A0Z.1 hm;have:=p x hx;rw[V5.2 e.symm]at this;omega
theorem Wx {R l:G6} (h:L0 R l):R.length<=l.length:=by
 have:=lC (dZ h) λx hx=>(h.2 x).1 hx;simpa using this
theorem ZQ {R l:G6} (h:L0 R l):R=[]↔l=[]:=by
 constructor
 .rintro rfl;cases l with
  |nil=>rfl
  |cons a l=>exact absurd ((h.2 (E3 a)).2 (by simp)) (by simp)
 .rintro rfl;have:=Wx h;exact A0R (by simpa using this)
theorem ua (k:G6) (t:Tm):dq k t<=(alls (k++[t])).length:=by
 unfold dq;split
 .rename_i h;exact Wx h.choose_spec
 .exact A01 _
theorem wq {t t':Tm} (h:Wq t') (e:E3 t=E3 t'):Wq t:=λx hx hi=>by
 obtain⟨y,hy,e1⟩:=bG e hx;rw[Ls (Et e1.symm 1)];exact h y hy (by rw[←Ls e1.symm];exact hi)
theorem gv {t:Tm} (h:p8 t (bs [97,101,110,99])=true->p8 (J0 t 1) (bs [112,107])=true) (hk:∀x∈t.kids,Wq x):Wq t:=λy hy=>by
 rw[AF,G2]at hy;rcases A0k.1 hy with rfl|hy
 .exact h
 .obtain⟨x,hx,hy⟩:=A02.1 hy;exact hk x hx y hy
theorem To (a:J3) (s:Int) (m:I6):Wq (.mk 2 a s m []):=gv (λh=>absurd (IY.1 h).1 (by simp[Tm.kind])) λx hx=>nomatch hx
theorem Pf {nm:J3} {m:I6} {l:G6} (h:nm≠bs [97,101,110,99]) (hl:∀x∈l,Wq x):Wq (.mk 3 nm 0 m l):=gv (λq=>absurd (IY.1 q).2 h) hl
theorem qB (a:J3):Wq (po a):=Pf (l:=[E3 (Hv a)]) (by decide) (uR (To _ _ _))
theorem qA (a:J3):Wq (gr a):=Pf (l:=[po a]) (by decide) (uR (qB a))
theorem wu (a b:J3):Wq (pn a b):=Pf (l:=[E3 (Hv a),E3 (Hv b)]) (by decide) (bE (To _ _ _) (To _ _ _))
theorem Wt.aeN {ro:ByteArray->Prop} {ok:ByteArray->Int->Prop} {t:Tm} (h:Wt ro ok t):Wq t:=by
 induction h with
 |atom a s h=>exact To _ _ _
 |pair x y _ _ ix iy=>exact Pf (by decide) (bE ix iy)
 |enc x y _ _ ix iy=>exact Pf (by decide) (bE ix iy)
 |hash x _ ix=>exact Pf (by decide) (uR ix)
 |aenc x r _ h ix=>exact gv (λ_=>rfl) (bE ix (qA r))
 |sign x r _ h ix=>exact Pf (by decide) (bE ix (qB r))
 |pk r h=>exact qA r
 |shk a b h h' _=>exact wu a b
theorem rv {r n:Nar} (hR:Right n) (he:Ql r=CN (L3 (B5 n) (G8 n)) n) {s:Ste} (hs:s∈r.steps):Wq s.msg:=by
 have hm:Ns s∈n.steps.map (Dh (L3 (B5 n) (G8 n))):=by rw[←(s9 he).2.2.2.2.1];exact A0w hs
 obtain⟨s',hs',e⟩:=A0Z.1 hm;unfold Ns Dh at e;injection e with _ _ e _
 exact wq (hR.msg hs').1.aeN (by rw[e,Zb])
noncomputable def Mo (n:Nar) (i:Nat):List Tm :=
 match (n.steps.map (Dh (L3 (B5 n) (G8 n))))[i]? with
 |some s=>gk (Sr (L3 (B5 n) (G8 n)) n s.to (Oj n.roles s.to) (i+1)) s.msg
 |none=>[]
theorem sO (r n:Nar) (F:Fine n) (S:Lens n) (hz:(l8 n).2=0) (hR:Right n) (he:Ql r=CN (L3 (B5 n) (G8 n)) n) (i:Nat) (hi:i<r.steps.length) :
  ∃m R,pc Q Z1 [HV r n,.int .i64 (i:Nat)]=some (sl m 4 (A4 R))/\L0 R (Mo n i)/\Tm.sizes R<=10000/\R.length<=40:=by
 have Ii:=A0d hi;obtain⟨m,R,h1,h2,h3,h4⟩:=ja r n F S hz hR he i hi (rv hR he Ii);refine⟨m,R,h1,ly h2 ?_,h3,h4⟩;obtain⟨e2,e3,e5⟩:=JT he;have hq:(n.steps.map (Dh (L3 (B5 n) (G8 n))))[i]?=some (Ns r.steps[i]):=by
  rw[←(s9 he).2.2.2.2.1,A0z,A0O hi];rfl
 have hto:r.steps[i].to∈n.roles:=by
  obtain⟨s',hs',e⟩:=A0Z.1 (A0h hq);unfold Ns Dh at e;injection e with _ e _ _
  rw[←e];exact(NN (hR.steps s' hs')).2.1
 unfold Mo;rw[hq];simp only[Ns];refine qW ?_ (Zb _).symm;rw[e2,VD hR.dec he (Ra hto).1];exact RJ hR.dec he (Ra hto).1 _
noncomputable def dH (n:Nar):Bool:=decide ((l8 n).2=0)&&(A0u n.steps.length).all λi=>(Mo n i).isEmpty
theorem vM (r na:Nar) (F:Fine na) (S:Lens na) (hz:(l8 na).2=0) (hR:Right na) (he:Ql r=CN (L3 (B5 na) (G8 na)) na) (C0:G4) (hstl:r.steps.length<=1000) (fr:Fr) (h:AH) (B0:List (List AV)) (hB0:h.boxes=C0::(HV r na).cells::B0) (hl:fr.length=26) (h3:A0 fr 3=.ptr 1 0) (h16:A0 fr 16=.int .i64 r.steps.length) (h17:A0 fr 17=.int .i64 0) :
  B7 (lp (A2 (K8 Q) (D6 Jl) Ej) (fr,h)) λe C3 h'=>Kp Ej.wr fr C3/\((e=.exit 0/\(∀j,j<r.steps.length->Mo na j=[]))\/(e=.ret/\A0 C3 2=.bool false/\∃j,j<r.steps.length/\Mo na j≠[])):=by
 refine B4 rfl fr (λn fr h'=>∃(i:Nat),i+n=r.steps.length/\A0 fr 17=.int .i64 (i:Nat)/\(∃B,h'.boxes=C0::(HV r na).cells::B)/\(∀j,j<i->Mo na j=[])) ?_ r.steps.length h ⟨0,by omega,h17,⟨_,hB0⟩,λj h=>absurd h (Nat.not_lt_zero j)⟩;rintro J Φ hJ hΦ n D5 H1 K ⟨i,hi,k17,hr⟩;have A6:=K.1.trans hl;have k3:=A8 K 3 h3;have k16:=A8 K 16 h16;clear K;by_cases A7:i<r.steps.length
 .have L4:=C6 i (by omega);obtain⟨⟨B,hB⟩,hr⟩:=hr;obtain⟨bx,fams⟩:=H1;simp only at hB;subst hB;have sb:=DJ r na;obtain⟨m,R,hb1,hb2,-,hb4⟩:=sO r na F S hz hR he i A7;have hnil:=ZQ hb2;cases R with
  |nil =>
   simp[Ej,A6,k3,k16,k17,A7,L4,sb,hb1];exact⟨n-1,by omega,hJ _ _ _ ⟨i+1,by omega,by simp[A6],⟨B,by rw[sb]⟩,λj hj=>by
    rcases Nat.lt_or_eq_of_le (Nat.lt_succ_iff.1 hj)with h|rfl
    .exact hr j h
    .exact hnil.1 rfl⟩⟩
  |cons a R =>
   have M3:(0:Int)<((A4 (a::R)).length:Int):=by simp only[C9,A0S,A0W];omega
   simp[Ej,A6,k3,k16,k17,A7,sb,hb1];exact hΦ _ _ _ (.inr ⟨rfl,by simp[A6],i,A7,λh=>nomatch hnil.2 h⟩)
 .obtain⟨⟨B,hB⟩,hr⟩:=hr;simp[Ej,A6,k16,k17,A7];exact hΦ _ _ _ (.inl ⟨rfl,λj hj=>hr j (by omega)⟩)
theorem fQ (n:Nar) (F:Fine n) (S:Lens n):pc Q Jl [G5 n]=some (.bool (dH n)):=by
 obtain⟨r,hO,hE⟩:=cY n F S;have nb:=E9 n;have sb:=DJ r n;by_cases h1:(l8 n).2=0
 .have he:=hE h1;obtain⟨-,hR⟩:=Kg h1;obtain⟨hsm,-⟩:=Mc hR.nar he;obtain⟨e2,-,e5⟩:=JT he;have hT:dH n=(A0u n.steps.length).all λi=>(Mo n i).isEmpty:=by unfold dH;simp[h1]
  rw[h1]at hO;rw[hT];refine H8 Hf λfr hl h0=>?_;simp[Hf]at hl h0;simp[Hf,hl,h0,nb,sb,hO];refine B7.mono (vM r n F S h1 hR he (G5 n).cells hsm.steps _ _ [] ?_ ?_ ?_ ?_ ?_) ?_<;>first|(simp[hl,nb,sb];done)|skip
  rintro e D5 ⟨bx,F1⟩ ⟨K,⟨rfl,hn⟩|⟨rfl,l2,j,hj,hn⟩⟩
  .have A6:D5.length=26:=K.1.trans (by simp[hl]);have hA:(A0u n.steps.length).all (λi=>(Mo n i).isEmpty)=true:=by
    rw[A0c];intro i hi;rw[hn i (by rw[e5];exact A0j.1 hi)];rfl
   simp[A6,hA]
  .have hA:(A0u n.steps.length).all (λi=>(Mo n i).isEmpty)=false:=by
    rw[A0y];exact⟨j,A0j.2 (by omega),by simpa using hn⟩
   simp[l2,hA]
 .have hT:dH n=false:=by unfold dH;simp[h1]
  rw[hT];generalize (l8 n).2=e at *
  have P6:=h1;refine H8 Hf λfr hl h0=>?_;simp[Hf]at hl h0;simp[Hf,hl,h0,nb,sb,hO,P6]
def TK (n:Nar) (role step:Int):Int:=if Sg n role step≠0 then Sg n role step else match n.steps[step.toNat]? with
 |some s=>if some s.to=n.roles[role.toNat]? then 0 else 7
 |none=>7
theorem aS (n:Nar) (F:Fine n) (S:Lens n) (role step:Int):∃(m:I6) (l:G6),pc Q Jk [G5 n,.int .i64 role,.int .i64 step]=some (.tup [sl m 4 (A4 l),.int .i64 (TK n role step)])/\(TK n role step=0->L0 l (Mo n step.toNat)/\Tm.sizes l<=10000/\l.length<=40)/\(TK n role step≠0->l=[]):=by
 suffices hq:∃v,pc Q Jk [G5 n,.int .i64 role,.int .i64 step]=some v/\∃(m:Bool×Bool) (l:List Tm),v=.tup [sl m 4 (A4 l),.int .i64 (TK n role step)]/\(TK n role step=0->L0 l (Mo n step.toNat)/\Tm.sizes l<=10000/\l.length<=40)/\(TK n role step≠0->l=[]) by
  obtain⟨v,h1,m,l,rfl,h2⟩:=hq;exact⟨m,l,h1,h2⟩
 obtain⟨r,n',hO,hE⟩:=wa n F S role step;have nb:=E9 n;have sb:=DJ r n';have hz4:sl (true,false) 4 (A4 [])=.vs true 0 []:=rfl;by_cases hat:Sg n role step=0
 .obtain⟨rfl,he⟩:=hE hat;obtain⟨hs0,g1,g2,g3,g4⟩:=XB hat;obtain⟨-,hR⟩:=Kg hs0;obtain⟨hsm,-⟩:=Mc hR.nar he;obtain⟨e2,-,e5⟩:=JT he;obtain⟨role,rfl⟩:=A0a g1;obtain⟨step,rfl⟩:=A0a g3;simp only[A0V]at g2 g4 ⊢;rw[hat]at hO;by_cases h2:step=n'.steps.length
  .have hB:TK n' role step=7:=by unfold TK;rw[if_neg (by simp[hat])];simp only[A0V];rw[List.getElem?_eq_none (by omega)]
   rw[hB];obtain rfl:step=r.steps.length:=by omega
   refine WL X9 λΨ hΨ fr hl h0 h1 h2=>?_;simp[X9]at hl h0 h1 h2;simp[X9,hl,h0,h1,h2,nb,sb,hO];exact hΨ _ ⟨(true,false),[],rfl,by simp⟩
  .have h2':¬(step:Int)=r.steps.length:=by omega
   have A7:step<r.steps.length:=by omega
   have hx:=G1 (f:=El) (A0O A7);have hlr:role<r.roles.length:=by rw[e2];exact g2
   have hy:=G1 (f:=AV.str) (A0O hlr);have hss:n'.steps[step]?=some (n'.steps[step]'(by omega)):=A0O _;have hto:(n'.steps[step]'(by omega)).to=r.steps[step].to:=by
    have:=(s9 he).2.2.2.2.1;have h3:=congrArg (·[step]?) this;simp only[A0z,A0O A7,hss,A04,Option.some.injEq]at h3;unfold Ns Dh at h3;injection h3 with _ h3 _ _
    exact h3.symm
   have hrr:n'.roles[role]?=some r.roles[role]:=by rw[←e2];exact A0O hlr
   by_cases h3:r.steps[step].to=r.roles[role]
   .have hB:TK n' role step=0:=by unfold TK;rw[if_neg (by simp[hat])];simp only[A0V];rw[hss];simp only[hto,hrr,h3];rfl
    rw[hB];obtain⟨m,R,hb1,hb2,hb3,hb4⟩:=sO r n' F S hs0 hR he step A7;obtain⟨m',l',hc1,hc2⟩:=aL _ m R (A0U _) (by omega);refine WL X9 λΨ hΨ fr hl h0 h1 h2=>?_;simp[X9]at hl h0 h1 h2;simp[X9,hl,h0,h1,h2,nb,sb,hO,h2',hx,hy,h3,hb1,hc1];refine hΨ _ ⟨m',l',rfl,λ_=>⟨Vc hb2 hc2,?_,?_⟩,λh=>absurd rfl h⟩
    .rw[←Mq l',hc2,Mq];exact hb3
    .have:=congrArg A00 hc2;rw[E1,E1,A0S,A0S]at this;omega
   .have hB:TK n' role step=7:=by unfold TK;rw[if_neg (by simp[hat])];simp only[A0V];rw[hss];simp only[hto,hrr,Option.some.injEq,h3,if_false]
    rw[hB];refine WL X9 λΨ hΨ fr hl h0 h1 h2=>?_;simp[X9]at hl h0 h1 h2;simp[X9,hl,h0,h1,h2,nb,sb,hO,h2',hx,hy,h3];exact hΨ _ ⟨(true,false),[],rfl,by simp⟩
 .have hB:TK n role step=Sg n role step:=by unfold TK;rw[if_pos hat]
  rw[hB];generalize Sg n role step=e at *
  have P6:=hat;refine WL X9 λΨ hΨ fr hl h0 h1 h2=>?_;simp[X9]at hl h0 h1 h2;simp[X9,hl,h0,h1,h2,nb,sb,hO,P6];exact hΨ _ ⟨(true,false),[],rfl,λh=>absurd h P6,λ_=>rfl⟩
noncomputable def PT (kf:Nat->List Tm) (t:Tm):Nat->Nat->Int×Int
 |_,0=>(0,4)
 |i,c+1=>if (T1 (kf i) t).1≠0 then (0,(T1 (kf i) t).1)else if (T1 (kf i) t).2=true then ((i:Nat),0)else PT kf t (i+1) c
theorem lG {kf kf':Nat->List Tm} {t t':Tm} (h:∀i,(kf i).map E3=(kf' i).map E3) (ht:E3 t=E3 t'):∀(c i:Nat),PT kf t i c=PT kf' t' i c
 |0,_=>rfl
 |c+1,i=>by rw[PT,PT,SH (h i) ht,lG h ht c (i+1)]
theorem vL (L:List Unit) (hL1:L.length<=2000) (r na:Nar) (hL:L.length=r.steps.length+1) (F:Fine na) (S:Lens na) (hz:(l8 na).2=0) (hR:Right na) (he:Ql r=CN (L3 (B5 na) (G8 na)) na) (t:Tm) (ht:GoodT t) (me:J3) (role:Nat) (hme:r.roles[role]?=some me) (C0:G4) (fr:Fr) (h:AH) (B0:List (List AV)) (hB0:h.boxes=C0::(B8 t).cells::(HV r na).cells::B0) (hl:fr.length=45) (h5:A0 fr 5=.ptr 1 0) (h8:A0 fr 8=.ptr 2 0) (h1:A0 fr 1=.int .i64 (role:Nat)) (h26:A0 fr 26=.int .i64 L.length) (h27:A0 fr 27=.int .i64 0) :
  B7 (lp (A2 (K8 Q) (D6 II) BD) (fr,h)) λe C3 h'=>Kp BD.wr fr C3/\((e=.exit 0/\PT (Ss (true,true) r na me role) t 0 L.length=(0,4))\/(e=.ret/\A0 C3 6=.int .i64 (PT (Ss (true,true) r na me role) t 0 L.length).1/\A0 C3 7=.int .i64 (PT (Ss (true,true) r na me role) t 0 L.length).2)):=by
 refine B4 rfl fr (λn fr h'=>∃(i:Nat),i+n=L.length/\A0 fr 27=.int .i64 (i:Nat)/\(∃B,h'.boxes=C0::(B8 t).cells::(HV r na).cells::B)/\PT (Ss (true,true) r na me role) t i (L.length-i)=PT (Ss (true,true) r na me role) t 0 L.length) ?_ L.length h ⟨0,by omega,h27,⟨_,hB0⟩,rfl⟩;rintro J Φ hJ hΦ n D5 H1 K ⟨i,hi,k27,hr⟩;have A6:=K.1.trans hl;have k5:=A8 K 5 h5;have k8:=A8 K 8 h8;have k1:=A8 K 1 h1;have k26:=A8 K 26 h26;clear K;by_cases A7:i<L.length
 .have L4:=C6 i (by omega);obtain⟨⟨B,hB⟩,hr⟩:=hr;obtain⟨bx,fams⟩:=H1;simp only at hB;subst hB;have sb:=DJ r na;obtain⟨hsm,-⟩:=Mc hR.nar he;obtain⟨e2,e3,e5⟩:=JT he;obtain⟨mk,hK⟩:=YB r na F S hz hsm e2 role me hme i (by omega);have FT:∀x∈Ss (true,true) r na me role i,GoodT x:=λx hx=>by
   obtain⟨h1,h2⟩:=UG hR he (by rw[←e2];exact A0h hme) hx;exact h1.good h2
  have CI:=We (m:=(true,true)) (me:=me) (role:=role) (q:=i) hsm;have hD:=cG mk _ t FT ht (by omega);rw[show L.length-i=(L.length-(i+1))+1 from by omega,PT]at hr;generalize Ss (true,true) r na me role i=kk at *
  generalize T1 kk t=d at *
  obtain⟨de,db⟩:=d;simp only at hD hr;have ht4:(B8 t).cells=[.int .i64 t.kind,.str t.name,.int .i64 t.sort,sl t.cm 4 (A4 t.kids)]:=I3 t;by_cases hde:de=0
  .subst hde;rw[if_neg (by simp)]at hr;cases db with
   |true =>
    simp only[if_true]at hr;simp[BD,A6,k5,k8,k1,k26,k27,A7,sb,hK,hD];exact hΦ _ _ _ (.inr ⟨rfl,by rw[←hr];simp[A6],by rw[←hr];simp[A6]⟩)
   |false =>
    simp only[Bool.false_eq_true,if_false]at hr;simp[BD,A6,k5,k8,k1,k26,k27,A7,L4,sb,hK,hD];exact G0 hJ ⟨i+1,by omega,by simp[A6],⟨B,by rw[sb,I3]⟩,hr⟩
  .rw[if_pos hde]at hr;simp[BD,A6,k5,k8,k1,k26,k27,A7,sb,hK,hD,hde];exact hΦ _ _ _ (.inr ⟨rfl,by rw[←hr];simp[A6],by rw[←hr];simp[A6]⟩)
 .obtain⟨⟨B,hB⟩,hr⟩:=hr;rw[show L.length-i=0 from by omega,PT]at hr;simp[BD,A6,k26,k27,A7];exact hΦ _ _ _ (.inl ⟨rfl,hr.symm⟩)
noncomputable def Xf (n:Nar) (role:Int) (t:Tm):Int×Int :=
 if Sg n role 0≠0 then (0,Sg n role 0)else PT (Sr (L3 (B5 n) (G8 n)) n (n.roles.getD role.toNat (bs [])) role.toNat) t 0 (n.steps.length+1)
theorem aJ (n:Nar) (F:Fine n) (S:Lens n) (role:Int) (t:Tm) (ht:GoodT t):pc Q II [G5 n,.int .i64 role,B8 t]=some (.tup [.int .i64 (Xf n role t).1,.int .i64 (Xf n role t).2]):=by
 obtain⟨r,n',hO,hE⟩:=wa n F S role 0;have nb:=E9 n;have sb:=DJ r n';by_cases hat:Sg n role 0=0
 .obtain⟨rfl,he⟩:=hE hat;obtain⟨hs0,g1,g2,g3,g4⟩:=XB hat;obtain⟨-,hR⟩:=Kg hs0;obtain⟨hsm,-⟩:=Mc hR.nar he;obtain⟨e2,-,e5⟩:=JT he;obtain⟨role,rfl⟩:=A0a g1;simp only[A0V]at g2;have hL:Xf n' role t=PT (Sr (L3 (B5 n') (G8 n')) n' (n'.roles.getD role (bs [])) role) t 0 (n'.steps.length+1):=by
   unfold Xf;rw[if_neg (by simp[hat]),A0V]
  have hme:r.roles[role]?=some (n'.roles.getD role (bs [])):=by
   rw[e2,A0Y,A0O g2];rfl
  have hX:Xf n' role t=PT (Ss (true,true) r n' (n'.roles.getD role (bs [])) role) t 0 (A06 (r.steps.length+1) ()).length:=by
   rw[hL,A0f,e5];refine lG (λi=>?_) rfl _ _;have hme':n'.roles[role]?=some (n'.roles.getD role (bs [])):=by have h:=hme;rw[e2]at h;exact h
   rw[VD hR.dec he hme'];exact(RJ hR.dec he hme' _).symm
  rw[hat]at hO;rw[hX];generalize n'.roles.getD role (bs [])=me at *
  have Hi:=hsm.steps;have hw:IntKind.i64.wrap ((r.steps.length:Int)+1)=(r.steps.length:Int)+1:=V0 (by omega) (by omega);refine Gp GE λfr hl h0 h1 h2=>?_;simp[GE]at hl h0 h1 h2;simp[GE,hl,h0,h1,h2,nb,sb,hO,hw];refine B7.mono (vL (A06 (r.steps.length+1) ()) (by simp;omega) r n' (by simp) F S hs0 hR he t ht me role hme (G5 n').cells _ _ [] ?_ ?_ ?_ ?_ ?_ ?_ ?_) ?_<;>first|(simp[hl,nb,sb,h1];done)|skip
  rintro e D5 ⟨bx,F1⟩ ⟨K,⟨rfl,hn⟩|⟨rfl,l6,l7⟩⟩
  .have A6:D5.length=45:=K.1.trans (by simp[hl]);simp only[A0f]at hn;simp[A6,hn]
  .simp only[A0f]at l6 l7;simp[l6,l7]
 .have hX:Xf n role t=(0,Sg n role 0):=by unfold Xf;rw[if_pos hat]
  rw[hX];generalize Sg n role 0=e at *
  have P6:=hat;refine Gp GE λfr hl h0 h1 h2=>?_;simp[GE]at hl h0 h1 h2;simp[GE,hl,h0,h1,h2,nb,sb,hO,P6]
end Go.Abs.Q
namespace Go.Abs.Q
open Go.Proofs
theorem vI {S U T:G6} (hS:iB S T) (GK:∀u∈U,K0 T u=true\/Dn T u=false) {e:Tm} (h:Kn S U e):e∈T.map E3:=by
 induction h with
 |base e h=>exact hS e h
 |step T0 _ u hu hs ih =>
  rcases GK u hu with h|h
  .exact V6.1 h
  .rw[Tf ih hs]at h;cases h
def tN (U T:List Tm):List Tm:=T++U.filter λu=>!K0 T u&&Dn T u
def jx (U:List Tm):Nat->List Tm->List Tm
 |0,T=>T
 |n+1,T=>jx U n (tN U T)
def clsT (U T:List Tm):Bool:=U.all λu=>K0 T u||!Dn T u
theorem wD {S U T:G6} (h:∀e,e∈T.map E3->Kn S U e):∀e,e∈(tN U T).map E3->Kn S U e:=by
 intro e he;unfold tN at he;rw[A0g,A0p]at he;rcases he with he|he
 .exact h e he
 .obtain⟨u,hu,rfl⟩:=A0Z.1 he;obtain⟨h1,h2⟩:=List.mem_filter.1 hu;rw[A0b]at h2;exact Kn.step T h u h1 h2.2
theorem lX {S U:G6}:∀(n:Nat) {T:G6},(∀e,e∈T.map E3->Kn S U e)->∀e,e∈(jx U n T).map E3->Kn S U e
 |0,_,h=>h
 |n+1,_,h=>lX n (wD h)
theorem gM {U:G6}:∀(n:Nat) (T:G6),iB T (jx U n T)
 |0,_,_,h=>h
 |n+1,T,e,h=>gM n (tN U T) e (by unfold tN;rw[A0g];exact A0t _ h)
def iM (k:List Tm) (t:Tm):Bool×Bool :=
 let U:=alls (k++[t])
 let T:=jx U 3 k
 (decide (k.length<=60)&&decide (U.length<=200)&&clsT U T,K0 T t)
open Classical in
theorem XI {k:G6} {t:Tm} {b:Bool} (h:iM k t=(true,b)):T1 k t=(0,b):=by
 unfold iM at h;simp only[Prod.mk.injEq,A0b,decide_eq_true_eq]at h;obtain⟨⟨⟨h1,h2⟩,h3⟩,h4⟩:=h;unfold T1;rw[if_neg (by have:=ua k t;omega)];congr 1;subst h4;have GK:∀u∈alls (k++[t]),K0 (jx (alls (k++[t])) 3 k) u=true\/Dn (jx (alls (k++[t])) 3 k) u=false:=λu hu=>by
  have:=A0c.1 h3 u hu;simpa using this
 by_cases hd:Tp k t
 .rw[@decide_eq_true _ (Classical.propDecidable _) hd];have:=vI (gM 3 k) GK hd;exact(V6.2 this).symm
 .rw[@decide_eq_false _ (Classical.propDecidable _) hd];cases hq:K0 (jx (alls (k++[t])) 3 k) t with
  |false=>rfl
  |true=>exact absurd (lX 3 (λe he=>Kn.base e he) _ (V6.1 hq)) hd
end Go.Abs.Q
namespace Go.Abs.Q
open Go.Proofs
attribute [local simp] E6 E7 fin K1 H4 P2 L5 R0 Q9
def GW (a:ByteArray):Tm:=.mk 2 a 0 (true,false) []
theorem Wj (a:J3):pc Q Ge [.str a]=some (B8 (GW a)):=by
 have hA:=Wh a 0;refine H8 Rj λfr hl h0=>?_;simp[Rj]at hl h0;simp[Rj,hl,h0,hA,M5];rfl
def exN (k:Tm):Nar:=⟨bs [80],(true,true),[bs [65],bs [66]],(true,true),[⟨bs [65],bs [110],2⟩,⟨bs [65],bs [107],3⟩],(true,false),[],(true,true),[⟨bs [65],bs [66],Uy (bs [101,110,99]) (false,true) [GW (bs [110]),k],0⟩,⟨bs [66],bs [65],GW (bs [110]),0⟩],(true,false),[]⟩
theorem YA (k:Tm):pc Q IZ [B8 k]=some (G5 (exN k)):=by
 have hR:=Wj (bs [110]);have hA:=UO (bs [101,110,99]) (true,true) [GW (bs [110]),k] (by simp) (by simp);rw[show A4 [GW (bs [110]),k]=[B8 (GW (bs [110])),B8 k] from rfl]at hA;refine H8 Ly λfr hl h0=>?_;simp[Ly]at hl h0;simp[Ly,hl,h0,hR,hA,A5,D2,E4,M5];rfl
def KT:Nar:=exN (Uy (bs [115,104,107]) (false,true) [GW (bs [65]),GW (bs [66])])
def Nv:Nar:=exN (GW (bs [107]))
def Sj:Tm:=.mk 2 (bs [110]) 2 (true,false) []
theorem kj:(l8 KT).2=0:=by kernel_rfl
theorem ko:(l8 Nv).2=0:=by kernel_rfl
theorem Ps:Hx KT=0:=by kernel_rfl
theorem bV:Hx Nv=0:=by kernel_rfl
def fN (n:Nar):ByteArray->Int:=L3 (B5 n) (G8 n)
theorem TS:Ql (CN (fN KT) KT)=CN (fN KT) KT:=by kernel_rfl
theorem iP:Ql (CN (fN Nv) Nv)=CN (fN Nv) Nv:=by kernel_rfl
theorem ku (k:Tm) (hk:k.size<=100):Fine (exN k) where
 name:=of_decide_eq_true (by kernel_rfl)
 roles:=of_decide_eq_true (by kernel_rfl)
 rolesL:=of_decide_eq_true (by kernel_rfl)
 fresh:=of_decide_eq_true (by kernel_rfl)
 freshL:=of_decide_eq_true (by kernel_rfl)
 tags:=of_decide_eq_true (by kernel_rfl)
 tagsL:=of_decide_eq_true (by kernel_rfl)
 steps:=by
  intro s hs;rcases A0k.1 hs with rfl|hs
  .refine⟨of_decide_eq_true (by kernel_rfl),of_decide_eq_true (by kernel_rfl),?_⟩;simp only[Uy,GW,Tm.size,Tm.sizes];omega
  .rw[A0x.1 hs];exact⟨of_decide_eq_true (by kernel_rfl),of_decide_eq_true (by kernel_rfl),of_decide_eq_true (by kernel_rfl)⟩
 stepsL:=of_decide_eq_true (by kernel_rfl)
 goals:=λg hg=>nomatch hg
 goalsL:=of_decide_eq_true (by kernel_rfl)
theorem lD (k:Tm):Lens (exN k) where
 names:=of_decide_eq_true (by kernel_rfl)
 steps:=of_decide_eq_true (by kernel_rfl)
 goals:=of_decide_eq_true (by kernel_rfl)
 data:=λg hg=>nomatch hg
theorem dA {n:Nar} (hd:Hx n=0) (he:Ql (CN (fN n) n)=CN (fN n) n) {me:J3} {role i:Nat} {t:Tm} {b:Bool} (hme:n.roles[role]?=some me)
  (h:iM (Ss (true,true) (CN (fN n) n) n me role i) t=(true,b)):T1 (Sr (fN n) n me role i) t=(0,b):=by
 rw[SH (k':=Ss (true,true) (CN (fN n) n) n me role i) (by rw[VD hd he hme];exact(RJ hd he hme i).symm) rfl];exact XI h
theorem iQ {kf:ByteArray->Nat->List Tm} {i:Nat} {s:Ste} {l:List Ste} (h:T1 (kf s.frm i) s.msg=(0,true)):Ys kf i (s::l)=Ys kf (i+1) l:=by
 rw[Ys,h];rfl
theorem xV {kf:ByteArray->Nat->List Tm} {i:Nat} {s:Ste} {l:List Ste} (h:T1 (kf s.frm i) s.msg=(0,false)) (ha:alls [s.msg]=[s.msg]):bS (Ys kf i (s::l))=((i:Int),E3 s.msg,13):=by
 have hS:L0 [s.msg] (alls [s.msg]):=by rw[ha];exact ZS _ (A0U _)
 have hs:=Wp (k:=kf s.frm i) (k':=kf s.frm i) rfl (i:Int) (Wo hS rfl);have h1:Nw (kf s.frm i) (i:Int) [s.msg]=some ((i:Int),s.msg,13):=by rw[Nw,h];rfl
 rw[h1]at hs;obtain⟨y,hy,hye⟩:∃y,Nw (kf s.frm i) (i:Int) (Ud s.msg)=some y/\bS ((i:Int),s.msg,(13:Int))=bS y:=by
  cases hq:Nw (kf s.frm i) (i:Int) (Ud s.msg)with
  |none=>rw[hq]at hs;simp at hs
  |some y=>rw[hq]at hs;exact⟨y,rfl,by simpa using hs⟩
 rw[Ys,h,hy];exact hye.symm
theorem uj:UC KT=(0,E3 gu,0):=by
 have q0:T1 (Sr (fN KT) KT (bs [65]) 0 0) (CH (fN KT) (Uy (bs [101,110,99]) (false,true) [GW (bs [110]),Uy (bs [115,104,107]) (false,true) [GW (bs [65]),GW (bs [66])]]))=(0,true):=dA Ps TS rfl (by kernel_rfl);have q1:T1 (Sr (fN KT) KT (bs [66]) 1 1) (CH (fN KT) (GW (bs [110])))=(0,true):=dA Ps TS rfl (by kernel_rfl);have r0:Oj KT.roles (bs [65])=0:=by kernel_rfl
 have r1:Oj KT.roles (bs [66])=1:=by kernel_rfl
 have q0':T1 (Sr (fN KT) KT (bs [65]) (Oj KT.roles (bs [65])) 0) (CH (fN KT) (Uy (bs [101,110,99]) (false,true) [GW (bs [110]),Uy (bs [115,104,107]) (false,true) [GW (bs [65]),GW (bs [66])]]))=(0,true):=by rw[r0];exact q0
 have q1':T1 (Sr (fN KT) KT (bs [66]) (Oj KT.roles (bs [66])) 1) (CH (fN KT) (GW (bs [110])))=(0,true):=by rw[r1];exact q1
 unfold UC;rw[if_neg (by rw[kj];simp)];refine(congrArg bS (iQ (kf:=λme i=>Sr (fN KT) KT me (Oj KT.roles me) i) q0')).trans ?_;refine(congrArg bS (iQ (kf:=λme i=>Sr (fN KT) KT me (Oj KT.roles me) i) q1')).trans ?_;rfl
theorem uo:UC Nv=(1,E3 Sj,13):=by
 have q0:T1 (Sr (fN Nv) Nv (bs [65]) 0 0) (CH (fN Nv) (Uy (bs [101,110,99]) (false,true) [GW (bs [110]),GW (bs [107])]))=(0,true):=dA bV iP rfl (by kernel_rfl);have q1:T1 (Sr (fN Nv) Nv (bs [66]) 1 1) (CH (fN Nv) (GW (bs [110])))=(0,false):=dA bV iP rfl (by kernel_rfl);have r0:Oj Nv.roles (bs [65])=0:=by kernel_rfl
 have r1:Oj Nv.roles (bs [66])=1:=by kernel_rfl
 have q0':T1 (Sr (fN Nv) Nv (bs [65]) (Oj Nv.roles (bs [65])) 0) (CH (fN Nv) (Uy (bs [101,110,99]) (false,true) [GW (bs [110]),GW (bs [107])]))=(0,true):=by rw[r0];exact q0
 have q1':T1 (Sr (fN Nv) Nv (bs [66]) (Oj Nv.roles (bs [66])) 1) (CH (fN Nv) (GW (bs [110])))=(0,false):=by rw[r1];exact q1
 unfold UC;rw[if_neg (by rw[ko];simp)];refine(congrArg bS (iQ (kf:=λme i=>Sr (fN Nv) Nv me (Oj Nv.roles me) i) q0')).trans ?_;refine(xV (kf:=λme i=>Sr (fN Nv) Nv me (Oj Nv.roles me) i) q1' rfl).trans ?_;have:E3 (CH (fN Nv) (GW (bs [110])))=E3 Sj:=by kernel_rfl
 exact congrArg (λx=>((1:Int),x,(13:Int))) this
theorem uk:Xf KT 0 Sj=(0,0):=by
 have q0:T1 (Sr (fN KT) KT (bs [65]) 0 0) Sj=(0,true):=dA Ps TS rfl (by kernel_rfl);have ha:Sg KT 0 0=0:=by kernel_rfl
 unfold Xf;rw[if_neg (by rw[ha];simp)];show PT (Sr (fN KT) KT (bs [65]) 0) Sj 0 3=_;rw[PT,q0];rfl
theorem ul:Xf KT 1 Sj=(1,0):=by
 have q0:T1 (Sr (fN KT) KT (bs [66]) 1 0) Sj=(0,false):=dA Ps TS rfl (by kernel_rfl);have q1:T1 (Sr (fN KT) KT (bs [66]) 1 1) Sj=(0,true):=dA Ps TS rfl (by kernel_rfl);have ha:Sg KT 1 0=0:=by kernel_rfl
 unfold Xf;rw[if_neg (by rw[ha];simp)];show PT (Sr (fN KT) KT (bs [66]) 1) Sj 0 3=_;rw[PT,q0,PT,q1];rfl
def uB (k:List Tm):Nat->Tm->Option (List Tm)
 |0,_=>some []
 |n+1,t =>
  if p8 t (bs [112,97,105,114])=true then (match uB k n (J0 t 0),uB k n (J0 t 1)with|some a,some b=>some (a++b)|_,_=>none)
  else if p8 t (bs [115,105,103,110])=true then uB k n (J0 t 0)
  else if p8 t (bs [101,110,99])=true then (if iM k (J0 t 1)=(true,true)then uB k n (J0 t 0)else if iM k (J0 t 1)=(true,false)then some [t]else none)
  else if p8 t (bs [97,101,110,99])=true then none
  else if p8 t (bs [104,97,115,104])=true then none else some []
theorem Tw {k:G6}:∀(N:Nat) {t:Tm} {l:G6},uB k N t=some l->HG k N t=l
 |0,_,_,h=>by rw[uB]at h;exact Option.some.inj h
 |N+1,t,l,h=>by
  rw[uB]at h;rw[HG];by_cases c1:p8 t (bs [112,97,105,114])=true
  .rw[if_pos c1]at h ⊢;cases h1:uB k N (J0 t 0)with
   |none=>rw[h1]at h;cases h
   |some a =>
    cases h2:uB k N (J0 t 1)with
    |none=>rw[h1,h2]at h;cases h
    |some b =>
     rw[h1,h2]at h;rw[Tw N h1,Tw N h2];exact Option.some.inj h
  .rw[if_neg c1]at h ⊢;by_cases c2:p8 t (bs [115,105,103,110])=true
   .rw[if_pos c2]at h ⊢;exact Tw N h
   .rw[if_neg c2]at h ⊢;by_cases c3:p8 t (bs [101,110,99])=true
    .rw[if_pos c3]at h ⊢;by_cases d1:iM k (J0 t 1)=(true,true)
     .rw[if_pos d1]at h;rw[XI d1,if_pos rfl];exact Tw N h
     .rw[if_neg d1]at h;by_cases d2:iM k (J0 t 1)=(true,false)
      .rw[if_pos d2]at h;rw[XI d2,if_neg (by simp)];exact Option.some.inj h
      .rw[if_neg d2]at h;cases h
    .rw[if_neg c3]at h ⊢;by_cases c4:p8 t (bs [97,101,110,99])=true
     .rw[if_pos c4]at h;cases h
     .rw[if_neg c4]at h ⊢;by_cases c5:p8 t (bs [104,97,115,104])=true
      .rw[if_pos c5]at h;cases h
      .rw[if_neg c5]at h ⊢;exact Option.some.inj h
theorem bJ {n:Nar} (hd:Hx n=0) (he:Ql (CN (fN n) n)=CN (fN n) n) {i N:Nat} {s:Ste} (hs:(n.steps.map (Dh (fN n)))[i]?=some s) (hme:n.roles[Oj n.roles s.to]?=some s.to) {l:G6}
  (hN:s.msg.size=N) (h:uB (Ss (true,true) (CN (fN n) n) n s.to (Oj n.roles s.to) (i+1)) N s.msg=some l):(Mo n i).length=l.length:=by
 have h1:=Tw N h;have h2:=congrArg A00 (qV (k:=Sr (fN n) n s.to (Oj n.roles s.to) (i+1)) (k':=Ss (true,true) (CN (fN n) n) n s.to (Oj n.roles s.to) (i+1)) (by rw[VD hd he hme];exact(RJ hd he hme _).symm) N (rfl:E3 s.msg=E3 s.msg));rw[h1,A0S,A0S]at h2;rw[←h2];unfold Mo;change (match (n.steps.map (Dh (fN n)))[i]? with|some s=>_|none=>_:List Tm).length=_
 rw[hs];show (gk _ s.msg).length=_;unfold gk;rw[hN];rfl
theorem xS:(Mo KT 0).length=0:=bJ (l:=[]) Ps TS rfl (by kernel_rfl) rfl (by kernel_rfl)
theorem xU:(Mo KT 1).length=0:=bJ (l:=[]) Ps TS rfl (by kernel_rfl) rfl (by kernel_rfl)
theorem qm:(Mo Nv 0).length=1:=bJ (l:=[CH (fN Nv) (Uy (bs [101,110,99]) (false,true) [GW (bs [110]),GW (bs [107])])]) bV iP rfl (by kernel_rfl) rfl (by kernel_rfl)
theorem um:dH KT=true:=by
 unfold dH;rw[decide_eq_true kj,A0v,A0c];intro i hi;have:=A0j.1 hi;change i<2 at this;have h2:i=0\/i=1:=by omega
 rcases h2 with rfl|rfl
 .rw[A0R xS];rfl
 .rw[A0R xU];rfl
theorem uq:dH Nv=false:=by
 unfold dH;rw[decide_eq_true ko,A0v,A0y];refine⟨0,A0j.2 (by decide),?_⟩;have:=qm;cases h:Mo Nv 0 with
 |nil=>rw[h]at this;cases this
 |cons a l=>simp
theorem aC:GoodT Sj:=(Rz (m:=(true,false)) (a:=bs [110]) (s:=2) ⟨by kernel_rfl,by kernel_rfl⟩ (by omega) (by omega)).good (of_decide_eq_true (by kernel_rfl))
theorem sN:pc Q IA []=some (.bool true):=by
 have a1:=Wj (bs [65]);have a2:=Wj (bs [66]);have a3:=Wj (bs [107]);have a4:=UO (bs [115,104,107]) (true,true) [GW (bs [65]),GW (bs [66])] (by simp) (by simp);rw[show A4 [GW (bs [65]),GW (bs [66])]=[B8 (GW (bs [65])),B8 (GW (bs [66]))] from rfl]at a4;have a5:=YA (Uy (bs [115,104,107]) (false,true) [GW (bs [65]),GW (bs [66])]);have a6:=YA (GW (bs [107]));change _=some (G5 KT)at a5;change _=some (G5 Nv)at a6;have a7:=Wh (bs [110]) 2;change _=some (B8 Sj)at a7;have FA:Fine KT:=ku _ (of_decide_eq_true (by kernel_rfl));have FB:Fine Nv:=ku _ (of_decide_eq_true (by kernel_rfl));have SA:Lens KT:=lD _;have SB:Lens Nv:=lD _;obtain⟨tA,b1,b2⟩:=lN KT FA SA;obtain⟨tB,b3,b4⟩:=lN Nv FB SB;rw[uj]at b1 b2;rw[uo]at b3 b4;have c1:=aJ KT FA SA 0 Sj aC;have c2:=aJ KT FA SA 1 Sj aC;rw[uk]at c1;rw[ul]at c2;have d1:=fQ KT FA SA;have d2:=fQ Nv FB SB;rw[um]at d1;rw[uq]at d2;obtain⟨m,l,e1,e2,-⟩:=aS Nv FB SB 1 0;have hb:TK Nv 1 0=0:=by kernel_rfl
 obtain⟨e3,-,-⟩:=e2 hb;rw[hb]at e1;have A6:l.length=1:=by
  have h1:=Wx e3;have h2:=ZQ e3;change l.length<=(Mo Nv 0).length at h1;change l=[]↔Mo Nv 0=[]at h2;have h3:=qm;cases l with
  |nil=>rw[h2.1 rfl]at h3;cases h3
  |cons a l=>simp only[A0W]at h1 ⊢;omega
 have J5:tB.size<=1099511627776:=by rw[←HI _ tB (A0U _),b4];exact of_decide_eq_true (by kernel_rfl)
 have hS:=Wi tB Sj J5 (of_decide_eq_true (by kernel_rfl));rw[show JQ tB Sj=true from by unfold JQ;rw[decide_eq_true_iff,V5,b4]]at hS;have nA:=E9 KT;have nB:=E9 Nv;have tl:(A4 l).length=1:=by rw[C9,A0S];exact A6
 generalize KT=xA at *
 generalize Nv=xB at *
 generalize Sj=xT at *
 simp only at b1 b3 c1 c2;refine jU WM rfl (by simp[LO]) λfr hl ha=>?_;clear ha;simp[LO]at hl ;simp[LO,hl,a1,a2,a3,a4,a5,a6,a7,b1,b3,c1,c2,d1,d2,e1,hS,nA,nB,tl,A5,M5]
theorem yF (n:Nar) (F:Fine n) (hS:Ol n.steps+RF n.goals<=1099511627776):∃b,pc Q RM [G5 n]=some (.bool b):=by
 obtain⟨b,hL⟩:=sZ n F hS;have nb:=E9 n;refine⟨b,?_⟩;refine H8 Ri λfr hl h0=>?_;simp[Ri]at hl h0;simp[Ri,hl,h0,nb,hL]
def b8 (i:Int):UInt8:=UInt8.ofNat (IntKind.u8.wrap i).toNat
theorem wo {n:Int} (h0:0<=n) (h1:n<256):IntKind.u8.wrap n=n:=by
 simp only[IntKind.wrap,IntKind.bits,IntKind.signed];simp;omega
theorem iG {i j:Int} (hi:0<=i) (Cx:i<256) (hj:0<=j) (hj':j<256) (h:b8 i=b8 j):i=j:=by
 unfold b8 at h;rw[wo hi Cx,wo hj hj']at h;have:=congrArg UInt8.toNat h;simp only[UInt8.toNat_ofNat']at this;omega
mutual
def Kf:Tm->List UInt8
 | .mk k nm s _ l=>b8 k::b8 s::b8 l.length::(M1 nm++40::(Qm l++[41]))
def Qm:List Tm->List UInt8
 | []=>[]
 |t::l=>Kf t++44::Qm l
end
theorem OQ {k s:Int} {nm:J3} {n:Nat} (h:r9 k s nm n=0):(k=1\/k=2\/k=3)/\0<=s/\s<=5/\n<=8/\U6 nm=true:=by
 obtain⟨h1,-,h3,h4⟩:=Gm h;unfold r9 at h;by_cases hc:(k=1\/k=2)/\(s<0\/5<s\/0<n)\/k=3/\s≠0\/(k≠1/\k≠2/\k≠3)
 .rw[if_pos hc]at h;exact absurd h (by decide)
 .refine⟨h3,?_,?_,h4,h1⟩<;>omega
theorem Xn {nm:J3} (h:U6 nm=true):40∉M1 nm:=by
 unfold U6 at h;intro hm;cases hb:M1 nm with
 |nil=>rw[hb]at hm;exact absurd hm A0e
 |cons c r =>
  rw[hb]at h hm;simp only[A0b]at h;have:=(A0c.1 h.2) 40 hm;exact absurd this (by decide)
theorem tZ {a b x y:List UInt8} (ha:40∉a) (hb:40∉b) (h:a++40::x=b++40::y):a=b/\x=y:=by
 induction a generalizing b with
 |nil =>
  cases b with
  |nil=>simpa using h
  |cons c b =>
   simp only[A0i,A0T,List.cons.injEq]at h;exact absurd (by rw[←h.1];exact A0P) hb
 |cons d a ih =>
  cases b with
  |nil =>
   simp only[A0i,A0T,List.cons.injEq]at h;exact absurd (by rw[h.1];exact A0P) ha
  |cons c b =>
   simp only[A0T,List.cons.injEq]at h;obtain⟨rfl,h2⟩:=h;obtain⟨h3,h4⟩:=ih (λk=>ha (A0X _ k)) (λk=>hb (A0X _ k)) h2;exact⟨by rw[h3],h4⟩
theorem yK:∀(n:Nat) (t t':Tm) (r r':List UInt8),t.size<=n->I9 t=0->I9 t'=0->Kf t++r=Kf t'++r'->E3 t=E3 t'/\r=r':=by
 intro n
 induction n with
 |zero=>intro t _ _ _ h;have:=t.size_pos;omega
 |succ n ih =>
  intro t t' r r' hn h1 h2 h;obtain⟨k,nm,s,m,l⟩:=t;obtain⟨k',nm',s',m',l'⟩:=t';have J5:Tm.size (.mk k nm s m l)=1+Tm.sizes l:=rfl;obtain⟨a1,a2⟩:=Q2 h1;obtain⟨b1,b2⟩:=Q2 h2;obtain⟨ka,sa,sa',na,ma⟩:=OQ a1;obtain⟨kb,sb,sb',nb,mb⟩:=OQ b1;simp only[Kf,A0T,List.cons.injEq,A0l]at h;obtain⟨e1,e2,e3,e4⟩:=h;have hk:=iG (by omega) (by omega) (by omega) (by omega) e1;have hs:=iG (by omega) (by omega) (by omega) (by omega) e2;have hl:=iG (by omega) (by omega) (by omega) (by omega) e3;obtain⟨e5,e6⟩:=tZ (Xn ma) (Xn mb) e4;have hnm:=TL e5;have key:∀(l l':List Tm) (x y:List UInt8),Tm.sizes l<=n->L9 l=0->L9 l'=0->l.length=l'.length->Qm l++x=Qm l'++y->G9 l=G9 l'/\x=y:=by
   intro l
   induction l with
   |nil =>
    intro l' x y _ _ _ hl h;have:l'=[]:=A0R hl.symm;subst this;exact⟨rfl,by simpa[Qm]using h⟩
   |cons a l ihl =>
    intro l' x y J5 h1 h2 hl h;cases l' with
    |nil=>simp at hl
    |cons b l' =>
     simp only[Tm.sizes]at J5;simp only[Qm,A0l,A0T]at h;have q1:=J9 h1;have q2:=J9 h2;obtain⟨g1,g2⟩:=ih a b _ _ (by omega) (q1 a A0P) (q2 b A0P) h;simp only[List.cons.injEq,true_and]at g2;have z1:L9 l=0:=by
      rw[L9]at h1;rw[if_neg (by simp[q1 a A0P])]at h1;exact h1
     have z2:L9 l'=0:=by
      rw[L9]at h2;rw[if_neg (by simp[q2 b A0P])]at h2;exact h2
     obtain⟨g3,g4⟩:=ihl l' x y (by omega) z1 z2 (by simpa using hl) g2;exact⟨by simp only[G9,g1,g3],g4⟩
  obtain⟨g1,g2⟩:=key l l' _ _ (by omega) a2 b2 (by omega) e6;refine⟨by simp only[E3,hk,hnm,hs,g1],?_⟩;simpa using g2
mutual
theorem sx:∀t:Tm,Kf (E3 t)=Kf t
 | .mk k nm s m l=>by rw[E3,Kf,Kf,tD l,E1,A0S]
theorem tD:∀l:List Tm,Qm (G9 l)=Qm l
 | []=>rfl
 |t::l=>by rw[G9,Qm,Qm,sx t,tD l]
end
theorem yJ {a b:Tm} (ha:OkT a) (hb:OkT b):Kf a=Kf b↔E3 a=E3 b:=by
 constructor
 .intro h;exact(yK _ a b [] [] (A0U _) (X5 (u9 ha.valid).1).1 (X5 (u9 hb.valid).1).1 (by simpa using h)).1
 .intro h;rw[←sx a,h,sx b]
def Sv (l:List UInt8):ByteArray:=⟨⟨l⟩⟩
theorem vP (s:J3):Sv (M1 s)=s:=TL rfl
theorem fI (l:List UInt8):(Sv l).size=l.length:=by rw[←K4];rfl
theorem Tu {a b:List UInt8} (h:a.length+b.length<=4611686018427387904):G7 .add (.str (Sv a)) (.str (Sv b))=some (.str (Sv (a++b))):=by
 rw[dh (by rw[fI,fI];exact h)];congr 2
theorem xD {a:List UInt8} {nm:J3} (h:a.length+nm.size<=4611686018427387904):G7 .add (.str (Sv a)) (.str nm)=some (.str (Sv (a++M1 nm))):=by
 have:=Tu (a:=a) (b:=M1 nm) (by rw[K4];exact h)
 rwa [vP]at this
theorem Zz {nm:J3} (h:U6 nm=true):nm.size<=24:=by
 unfold U6 at h;cases hb:M1 nm with
 |nil=>rw[hb]at h;cases h
 |cons c r =>
  rw[hb]at h;simp only[A0b,decide_eq_true_eq]at h;exact h.1.1
mutual
theorem sy:∀t:Tm,I9 t=0->(Kf t).length+1<=30*t.size
 | .mk k nm s m l,h=>by
  obtain⟨a1,a2⟩:=Q2 h;obtain⟨-,-,-,-,ma⟩:=OQ a1;have h1:=Zz ma;have h2:=cl l a2;have h3:=K4 nm;have J5:Tm.size (.mk k nm s m l)=1+Tm.sizes l:=rfl;simp only[Kf,A0W,A0Q,List.length_nil];omega
theorem cl:∀l:List Tm,L9 l=0->(Qm l).length<=30*Tm.sizes l
 | [],_=>A01 _
 |t::l,h=>by
  have q:=J9 h;have h1:=sy t (q t A0P);have z1:L9 l=0:=by
   rw[L9]at h;rw[if_neg (by simp[q t A0P])]at h;exact h
  have h2:=cl l z1;have:=t.size_pos;simp only[Qm,A0Q,A0W,Tm.sizes];omega
end
theorem ie (m:I6) (l:G6) (x0 x1 x2:AV) (hd:List UInt8) (J5:Tm.sizes l<=1048576) (hll:l.length<=1048576) (hhd:hd.length<=1048576) (hv:L9 l=0) (IH:∀t∈l,pc Q AI [B8 t]=some (.str (Sv (Kf t)))) (fr:Fr) (h:AH) (hh:h=⟨[[x0,x1,x2,sl m 4 (A4 l)]],[]⟩) (h3:A0 fr 3=.str (Sv hd)) (hl:fr.length=39) (h1:A0 fr 1=.ptr 0 0) (h4:A0 fr 4=.int .i64 0) :
  B7 (lp (A2 (K8 Q) (D6 AI) FZ) (fr,h)) λe C3 h'=>Kp FZ.wr fr C3/\(e=.exit 0/\A0 C3 3=.str (Sv (hd++Qm l))):=by
 refine B4 rfl fr (λn fr h'=>∃(i:Nat),i+n=l.length/\A0 fr 4=.int .i64 (i:Nat)/\(h'=⟨[[x0,x1,x2,sl m 4 (A4 l)]],[]⟩/\∃acc,A0 fr 3=.str (Sv acc)/\acc.length<=1048576+30*Tm.sizes (l.take i)/\acc++Qm (l.drop i)=hd++Qm l)) ?_ l.length h ⟨0,by omega,h4,hh,hd,h3,by simp[Tm.sizes,hhd],rfl⟩;rintro J Φ hJ hΦ n D5 H1 K ⟨i,hi,k4,hr⟩;have A6:=K.1.trans hl;have k1:=A8 K 1 h1;clear K;by_cases A7:i<l.length
 .have L4:=C6 i (by omega);obtain⟨rfl,acc,k3,hal,hr⟩:=hr;have Ii:=A0d A7;have hx:=I0 A7;have hI:=IH l[i] Ii;have hp:=sy l[i] (J9 hv _ Ii);have Wb:=Tm.size_le Ii;rw[A0m A7,Qm]at hr;have Hi:Tm.sizes (l.take (i+1))=Tm.sizes (l.take i)+l[i].size:=by
   rw[←Q5,←Q5,PM A7,A0Q,Mm]
  have hsle:Tm.sizes (l.take (i+1))<=Tm.sizes l:=by
   have e:=congrArg A00 (congrArg alls (List.take_append_drop (i+1) l));rw[G2,G2,List.flatMap_append,A0Q,←G2,←G2,←G2,Q5,Q5,Q5]at e;omega
  have q1:=Tu (a:=acc) (b:=Kf l[i]) (by omega);have q2:G7 .add (.str (Sv (acc++Kf l[i]))) (.str (bs [44]))=some (.str (Sv (acc++Kf l[i]++[44]))):=Tu (b:=[44]) (by simp only[A0Q,A0s];omega);clear hh;generalize l[i]=s at *
  simp[FZ,A6,k1,k4,A7,L4,k3,hx,hI,q1,q2];exact G0 hJ ⟨i+1,by omega,by simp[A6],rfl,acc++Kf s++[44],by simp[A6],by simp only[A0Q,A0s];omega,by rw[←hr];simp⟩
 .obtain⟨rfl,acc,k3,hal,hr⟩:=hr;rw[A0r (by omega),Qm,List.append_nil]at hr;simp[FZ,A6,k1,k4,A7];exact hΦ _ _ _ ⟨rfl,by simp[k3,hr]⟩
theorem cZ:∀(n:Nat) (t:Tm),t.size<=n->t.size<=1048576->I9 t=0->pc Q AI [B8 t]=some (.str (Sv (Kf t))):=by
 intro n
 induction n with
 |zero=>intro t h;have:=t.size_pos;omega
 |succ n ih =>
  intro t hn hb Yt;obtain⟨k,nm,s,m,kids⟩:=t;have J5:Tm.size (.mk k nm s m kids)=1+Tm.sizes kids:=rfl;have B9:=Tm.length_le kids;obtain⟨a1,a2⟩:=Q2 Yt;obtain⟨-,-,-,-,ma⟩:=OQ a1;have hns:=Zz ma;have hnb:=K4 nm;have hpl:=cl kids a2;have GX:=ie m kids (.int .i64 k) (.str nm) (.int .i64 s) (b8 k::b8 s::b8 kids.length::(M1 nm++[40])) (by omega) (by omega) (by simp;omega) a2 (λt ht=>ih t (by have:=Tm.size_le ht;omega) (by have:=Tm.size_le ht;omega) (J9 a2 t ht));clear ih;have hB:∀h:AH,So h (sl (true,true) 1 [.int .u8 (IntKind.u8.wrap k),.int .u8 (IntKind.u8.wrap s),.int .u8 (IntKind.u8.wrap kids.length)])=some (.str (Sv [b8 k,b8 s,b8 kids.length]),h):=λh=>by
   simp only[So,N0,LW,A04];rfl
  have q1:G7 .add (.str (Sv [b8 k,b8 s,b8 kids.length])) (.str nm)=some (.str (Sv ([b8 k,b8 s,b8 kids.length]++M1 nm))):=xD (by simp;omega);have q2:G7 .add (.str (Sv ([b8 k,b8 s,b8 kids.length]++M1 nm))) (.str (bs [40]))=some (.str (Sv (b8 k::b8 s::b8 kids.length::(M1 nm++[40])))):=(Tu (b:=[40]) (by simp;omega)).trans (by simp);have q3:G7 .add (.str (Sv (b8 k::b8 s::b8 kids.length::(M1 nm++[40])++Qm kids))) (.str (bs [41]))=some (.str (Sv (Kf (.mk k nm s m kids)))):=(Tu (b:=[41]) (by simp;omega)).trans (by simp[Kf]);generalize hP:Sv (Kf (.mk k nm s m kids))=P at *
  simp only[A0T,A0i]at q1 q2 q3 GX;refine H8 Ot λfr hl h0=>?_;simp[Ot,B8]at hl h0;simp[Ot,hl,h0,hB,q1,q2,A5];refine B7.mono (GX _ _ ?_ ?_ ?_ ?_ ?_) ?_<;>first|(simp[hl];done)|skip
  rintro e D5 h1 ⟨K,rfl,k3⟩;have A6:D5.length=39:=K.1.trans (by simp[hl]);simp only[A0l,A0T,A0i]at q3;simp[A6,k3,q3]
theorem cP (t:Tm) (h:t.kind=3->t.name∈AR):pc Q Jc [B8 t]=some (.bool false):=by
 have h1:=NH t h;have h2:=Pa t (bs [120,111,114]);rw[Mj h (by decide)]at h2;have h3:=Pa t (bs [101,120,112]);rw[Mj h (by decide)]at h3;refine H8 Ju λfr hl h0=>?_;simp[Ju]at hl h0;simp[Ju,hl,h0,h1,h2,h3]
theorem xg {S U T:G6} (hS:iB S T) (GK:∀u∈U,K0 T u=true\/Dn T u=false) {e:Tm} (h:Kn S U e):e∈T.map E3:=by
 induction h with
 |base e h=>exact hS e h
 |step T0 _ u hu hs ih =>
  rcases GK u hu with h|h
  .exact V6.1 h
  .rw[Tf ih hs]at h;cases h
def Sh (U:List Tm) (t:Tm):Nat:=U.findIdx λu=>JQ u t
theorem RH {U:G6} {t:Tm} (h:K0 U t=true):Sh U t<U.length:=by
 unfold Sh;rw[List.findIdx_lt_length];obtain⟨x,hx,he⟩:=A0o.1 h;exact⟨x,hx,he⟩
theorem qz {U:G6} {t:Tm} (h:K0 U t=true):E3 (U[Sh U t]'(RH h))=E3 t:=by
 have:=List.findIdx_getElem (p:=λu=>JQ u t) (xs:=U) (w:=RH h);exact V5.1 (of_decide_eq_true this)
theorem ah {U:G6} (h:Y1 U) {i j:Nat} (hi:i<U.length) (hj:j<U.length) (he:E3 U[i]=E3 U[j]):i=j:=by
 rcases Nat.lt_trichotomy i j with q|q|q
 .have:=h.get hi hj q;rw[V5.2 he]at this;exact absurd this (by decide)
 .exact q
 .have:=h.get hj hi q;rw[V5.2 he.symm]at this;exact absurd this (by decide)
def Vw (m:Bool×Bool) (ks:List Nat) (key:Int):AV:=.agg [sl m 1 (ks.map λ(j:Nat)=>AV.int .i64 (j:Int)),.int .i64 key]
theorem ij (m m2:I6) (ks:List Nat) (kn:List Bool) (key:Int) (C:G4) (B9:ks.length<=1048576) (hb:∀j∈ks,j<kn.length) (hkn:kn.length<=1048576) (fr:Fr) (h:AH) (hh:h=⟨[C,[sl m 1 (ks.map λ(j:Nat)=>AV.int .i64 (j:Int)),.int .i64 key]],[]⟩) (hl:fr.length=36) (h2:A0 fr 2=sl m2 1 (kn.map AV.bool)) (h4:A0 fr 4=.ptr 1 0) (h7:A0 fr 7=.int .i64 0) :
  B7 (lp (A2 (K8 Q) (D6 LI) Cd) (fr,h)) λe C3 h'=>Kp Cd.wr fr C3/\(e=.exit 1/\h'=⟨[C,[sl m 1 (ks.map λ(j:Nat)=>AV.int .i64 (j:Int)),.int .i64 key]],[]⟩/\ks.all (λj=>kn.getD j false)=true\/e=.ret/\A0 C3 6=.bool false/\ks.all (λj=>kn.getD j false)=false):=by
 refine B4 rfl fr (λn fr h'=>∃(i:Nat),i+n=ks.length/\A0 fr 7=.int .i64 (i:Nat)/\(h'=⟨[C,[sl m 1 (ks.map λ(j:Nat)=>AV.int .i64 (j:Int)),.int .i64 key]],[]⟩/\(ks.drop i).all (λj=>kn.getD j false)=ks.all λj=>kn.getD j false)) ?_ ks.length h ⟨0,by omega,h7,hh,rfl⟩;rintro J Φ hJ hΦ n D5 H1 K ⟨i,hi,k7,hr⟩;have A6:=K.1.trans hl;have k2:=A8 K 2 h2;have k4:=A8 K 4 h4;clear K;by_cases A7:i<ks.length
 .have L4:=C6 i (by omega);obtain⟨rfl,hr⟩:=hr;have hx:=G1 (f:=λ(j:Nat)=>AV.int .i64 (j:Int)) (A0O A7);have hj:=hb _ (A0d A7);rw[A0m A7,List.all_cons]at hr;clear hh;generalize ks[i]=j at *
  have hy:=G1 (f:=AV.bool) (A0O hj);have hg:kn.getD j false=kn[j]:=by rw[A0Y,A0O hj];rfl
  rw[hg]at hr;generalize kn[j]=b at *
  cases b with
  |true =>
   rw[A0v]at hr;simp[Cd,A6,k2,k4,k7,A7,L4,hx,hy];exact G0 hJ ⟨i+1,by omega,by simp[A6],rfl,hr⟩
  |false =>
   rw[A05]at hr;simp[Cd,A6,k2,k4,k7,A7,hx,hy];exact hΦ _ _ _ (.inr ⟨rfl,by simp[A6],hr.symm⟩)
 .obtain⟨rfl,hr⟩:=hr;rw[A0r (by omega)]at hr;simp[Cd,A6,k4,k7,A7];exact hΦ _ _ _ (.inl ⟨rfl,rfl,hr.symm⟩)
theorem sP (m m2:I6) (t:Tm) (ks:List Nat) (kn:List Bool) (key:Int) (B9:ks.length<=1048576) (hb:∀j∈ks,j<kn.length) (hkn:kn.length<=1048576) :
  pc Q LI [B8 t,Vw m ks key,sl m2 1 (kn.map AV.bool)]=some (.bool (EH t ac&&ks.all λj=>kn.getD j false)):=by
 have GX:=ij m m2 ks kn key (B8 t).cells B9 hb hkn;generalize (ks.all λj=>kn.getD j false)=b at *
 have XT:∀nm,nm∈ac->t.name=nm->EH t ac=decide (t.kind=3):=by
  intro nm hm e;unfold EH;have:ac.any (V9 t.name)=true:=A0o.2 ⟨nm,hm,(IX _ _).2 e⟩;rw[this,Bool.and_true]
 have hout:(∀nm∈ac,t.name≠nm)->EH t ac=false:=by
  intro h;unfold EH;have:ac.any (V9 t.name)=false:=by
   rw[Bool.eq_false_iff];intro ha;obtain⟨x,hx,he⟩:=A0o.1 ha;exact h x hx ((IX _ _).1 he)
  rw[this,Bool.and_false]
 generalize EH t ac=sq at *
 simp only[ac,A0k,A0e,or_false,forall_eq_or_imp,forall_eq]at XT hout;obtain⟨i1,i2,i3,i4,i5,i6⟩:=XT;by_cases h1n:t.name=bs [112,97,105,114]
 .rw[i1 h1n];clear i1 i2 i3 i4 i5 i6 hout;refine Gp I8 λfr hl h0 h1 h2=>?_;simp[I8,Vw]at hl h0 h1 h2;simp[I8,hl,h0,h1,h1n];refine B7.mono (GX _ _ ?_ ?_ ?_ ?_ ?_) ?_<;>first|(simp[hl,h2,h1n];done)|skip
  rintro e D5 Cw ⟨K,⟨rfl,rfl,rfl⟩|⟨rfl,k6,rfl⟩⟩
  .have A6:D5.length=36:=K.1.trans (by simp[hl]);have k3:A0 D5 3=.ptr 0 0:=A8 K 3 (by simp[hl]);simp[A6,k3]
  .simp[k6]
 by_cases h2n:t.name=bs [101,110,99]
 .rw[i2 h2n];clear i1 i2 i3 i4 i5 i6 hout;refine Gp I8 λfr hl h0 h1 h2=>?_;simp[I8,Vw]at hl h0 h1 h2;simp[I8,hl,h0,h1,h2n,eq_false (by decide:¬(bs [101,110,99])=bs [112,97,105,114])];refine B7.mono (GX _ _ ?_ ?_ ?_ ?_ ?_) ?_<;>first|(simp[hl,h2,h2n];done)|skip
  rintro e D5 Cw ⟨K,⟨rfl,rfl,rfl⟩|⟨rfl,k6,rfl⟩⟩
  .have A6:D5.length=36:=K.1.trans (by simp[hl]);have k3:A0 D5 3=.ptr 0 0:=A8 K 3 (by simp[hl]);simp[A6,k3]
  .simp[k6]
 by_cases h3n:t.name=bs [97,101,110,99]
 .rw[i3 h3n];clear i1 i2 i3 i4 i5 i6 hout;refine Gp I8 λfr hl h0 h1 h2=>?_;simp[I8,Vw]at hl h0 h1 h2;simp[I8,hl,h0,h1,h3n,eq_false (by decide:¬(bs [97,101,110,99])=bs [112,97,105,114]),eq_false (by decide:¬(bs [97,101,110,99])=bs [101,110,99])];refine B7.mono (GX _ _ ?_ ?_ ?_ ?_ ?_) ?_<;>first|(simp[hl,h2,h3n];done)|skip
  rintro e D5 Cw ⟨K,⟨rfl,rfl,rfl⟩|⟨rfl,k6,rfl⟩⟩
  .have A6:D5.length=36:=K.1.trans (by simp[hl]);have k3:A0 D5 3=.ptr 0 0:=A8 K 3 (by simp[hl]);simp[A6,k3]
  .simp[k6]
 by_cases h4n:t.name=bs [112,107]
 .rw[i4 h4n];clear i1 i2 i3 i4 i5 i6 hout;refine Gp I8 λfr hl h0 h1 h2=>?_;simp[I8,Vw]at hl h0 h1 h2;simp[I8,hl,h0,h1,h4n,eq_false (by decide:¬(bs [112,107])=bs [112,97,105,114]),eq_false (by decide:¬(bs [112,107])=bs [101,110,99]),eq_false (by decide:¬(bs [112,107])=bs [97,101,110,99])];refine B7.mono (GX _ _ ?_ ?_ ?_ ?_ ?_) ?_<;>first|(simp[hl,h2,h4n];done)|skip
  rintro e D5 Cw ⟨K,⟨rfl,rfl,rfl⟩|⟨rfl,k6,rfl⟩⟩
  .have A6:D5.length=36:=K.1.trans (by simp[hl]);have k3:A0 D5 3=.ptr 0 0:=A8 K 3 (by simp[hl]);simp[A6,k3]
  .simp[k6]
 by_cases h5n:t.name=bs [115,105,103,110]
 .rw[i5 h5n];clear i1 i2 i3 i4 i5 i6 hout;refine Gp I8 λfr hl h0 h1 h2=>?_;simp[I8,Vw]at hl h0 h1 h2;simp[I8,hl,h0,h1,h5n,eq_false (by decide:¬(bs [115,105,103,110])=bs [112,97,105,114]),eq_false (by decide:¬(bs [115,105,103,110])=bs [101,110,99]),eq_false (by decide:¬(bs [115,105,103,110])=bs [97,101,110,99]),eq_false (by decide:¬(bs [115,105,103,110])=bs [112,107])];refine B7.mono (GX _ _ ?_ ?_ ?_ ?_ ?_) ?_<;>first|(simp[hl,h2,h5n];done)|skip
  rintro e D5 Cw ⟨K,⟨rfl,rfl,rfl⟩|⟨rfl,k6,rfl⟩⟩
  .have A6:D5.length=36:=K.1.trans (by simp[hl]);have k3:A0 D5 3=.ptr 0 0:=A8 K 3 (by simp[hl]);simp[A6,k3]
  .simp[k6]
 by_cases h6n:t.name=bs [104,97,115,104]
 .rw[i6 h6n];clear i1 i2 i3 i4 i5 i6 hout;refine Gp I8 λfr hl h0 h1 h2=>?_;simp[I8,Vw]at hl h0 h1 h2;simp[I8,hl,h0,h1,h6n,eq_false (by decide:¬(bs [104,97,115,104])=bs [112,97,105,114]),eq_false (by decide:¬(bs [104,97,115,104])=bs [101,110,99]),eq_false (by decide:¬(bs [104,97,115,104])=bs [97,101,110,99]),eq_false (by decide:¬(bs [104,97,115,104])=bs [112,107]),eq_false (by decide:¬(bs [104,97,115,104])=bs [115,105,103,110])];refine B7.mono (GX _ _ ?_ ?_ ?_ ?_ ?_) ?_<;>first|(simp[hl,h2,h6n];done)|skip
  rintro e D5 Cw ⟨K,⟨rfl,rfl,rfl⟩|⟨rfl,k6,rfl⟩⟩
  .have A6:D5.length=36:=K.1.trans (by simp[hl]);have k3:A0 D5 3=.ptr 0 0:=A8 K 3 (by simp[hl]);simp[A6,k3]
  .simp[k6]
 rw[hout ⟨h1n,h2n,h3n,h4n,h5n,h6n⟩,A05];clear i1 i2 i3 i4 i5 i6 hout;refine Gp I8 λfr hl h0 h1 h2=>?_;simp[I8,Vw]at hl h0 h1 h2;simp[I8,hl,h0,h1,h1n,h2n,h3n,h4n,h5n,h6n]
end Go.Abs.Q
