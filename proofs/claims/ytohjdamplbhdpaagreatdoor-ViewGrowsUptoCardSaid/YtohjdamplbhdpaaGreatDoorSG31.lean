/- A part of the proof. -/
import Derived.Test.YtohjdamplbhdpaaGreatDoorSG30
set_option linter.all false
open List renaming getElem?_eq_getElem->xk,length_map->xm,mem_map->xo,eq_nil_of_length_eq_zero->xp,length_append->xq,getElem?_eq_some_iff->xr,append_eq_nil_iff->xu,mem_cons_of_mem->xw,mem_of_getElem?->xy,range->xz,mem_map_of_mem->yA,mem_cons_self->yB,getElem?_map->yC,getElem_mem->yD,length_cons->yE,mem_flatMap->yF,not_mem_nil->yG,map_append->yH,mem_append->yI,nodup_cons->yJ,mem_range->yK,mem_cons->yL
open Nat renaming le_refl->xl,le_trans->yM,zero_le->yN
open Int renaming toNat_natCast->xn,eq_ofNat_of_zero_le->xt
namespace Go.Abs
def WU (L:Nat) (wr:Bool) (sz:Nat) (xs:List AV) (v:AV) (h:AH):Prop:=(xs.length<=1/\∃b,v=sl (true,b) sz xs)\/(xs≠[]/\∃k,L<=k/\v=.sl k xs.length 0 xs.length/\h.fams[k]?=some ⟨xs,sz,wr⟩)
theorem WU.a {L:Nat} {wr:Bool} {sz:Nat} {xs:E6} {v:AV} {h:AH} (hg:WU L wr sz xs v h):Iw wr sz xs v h:=by
 rcases hg with hg|⟨h1,k,_,h2,h3⟩
 .exact .inl hg.2
 .exact .inr ⟨h1,k,h2,h3⟩
theorem Lt {L:Nat} {wr:Bool} {sz:Nat} {xs:E6} {v:AV} {h h':AH} (hg:WU L wr sz xs v h) (e:h'.fams=h.fams):WU L wr sz xs v h':=by
 rcases hg with hg|⟨h1,k,h0,h2,h3⟩
 .exact .inl hg
 .exact .inr ⟨h1,k,h0,h2,by rw[e];exact h3⟩
theorem WU.mono {L L':Nat} {wr:Bool} {sz:Nat} {xs:E6} {v:AV} {h:AH} (hg:WU L wr sz xs v h) (hL:L'<=L):WU L' wr sz xs v h:=by
 rcases hg with hg|⟨h1,k,h0,h2,h3⟩
 .exact .inl hg
 .exact .inr ⟨h1,k,by omega,h2,h3⟩
theorem mG {L:Nat} {wr:Bool} {sz:Nat} {xs:E6} {v:AV} {h h':AH} (hg:WU L wr sz xs v h) (e:∀j,j<h.fams.length->h'.fams[j]?=h.fams[j]?):WU L wr sz xs v h':=by
 rcases hg with hg|⟨h1,k,h0,h2,h3⟩
 .exact .inl hg
 .exact .inr ⟨h1,k,h0,h2,by rw[e _ (xr.1 h3).1];exact h3⟩
theorem jb {c:Ctx} {L sz bytes:Nat} {xs ys:E6} {v x:AV} {h:AH} (hL:L<=h.fams.length) (hg:WU L c.mutApp sz xs v h) (hx:elems h sz x=some ys) (hb:(xs.length+ys.length)*bytes<=G4/\xs.length+ys.length<=maxLen) :
  ∃v' F',L5 c h sz bytes v x=some (v',⟨h.boxes,F'⟩)/\WU L c.mutApp sz (xs++ys) v' ⟨h.boxes,F'⟩/\L<=F'.length/\∀j,j<L->F'[j]?=h.fams[j]?:=by
 rcases hg with ⟨hx1,b,rfl⟩|⟨M5,k,hk0,rfl,hk⟩
 .simp only[sl,L5,hx];by_cases hy:ys.length=0
  .rw[if_pos hy];have:ys=[]:=xp hy;subst this;exact⟨_,h.fams,rfl,.inl ⟨by simpa using hx1,b,by simp[sl]⟩,hL,λ_ _=>rfl⟩
  .rw[if_neg hy];have hc:((if (xs.isEmpty&&!b)=true then 0 else sz)=sz\/xs.length=0)/\(xs.length+ys.length)*bytes<=G4/\xs.length+ys.length<=maxLen:=by
    refine⟨?_,hb⟩;cases xs with
    |nil=>exact .inr rfl
    |cons a l=>exact .inl rfl
   rw[if_pos hc];refine⟨_,_,rfl,.inr ⟨by intro e;rw[xu]at e;rw[e.2]at hy;exact hy rfl,h.fams.length,hL,by rw[xq],by simp⟩,by simp;omega,λj hj=>List.getElem?_append_left (by omega)⟩
 .simp only[L5,hx,hk];rw[if_pos ⟨trivial,trivial,by omega,hb.1,hb.2⟩];have CI:=(xr.1 hk).1;refine⟨_,_,rfl,.inr ⟨by intro e;rw[xu]at e;exact M5 e.1,k,hk0,by rw[xq],by simp[CI]⟩,by simpa using hL,λj hj=>?_⟩;exact List.getElem?_set_ne (by omega)
end Go.Abs
namespace Go.Abs.Q
open Go.Proofs
attribute [local simp] D0 D1 fin I1 E7 K8 I3 N6 P4
noncomputable def JK (k:List Tm):Nat->Tm->List Tm
 |0,_=>[]
 |n+1,t =>
  if Ct t (bs [112,97,105,114])=true then JK k n (N3 t 0)++JK k n (N3 t 1)
  else if Ct t (bs [115,105,103,110])=true then JK k n (N3 t 0)
  else if Ct t (bs [101,110,99])=true then (if (U1 k (N3 t 1)).2=true then JK k n (N3 t 0)else [t])
  else if Ct t (bs [97,101,110,99])=true then (if (U1 k (N3 (N3 t 1) 0)).2=true then JK k n (N3 t 0)else if (U1 k (N3 t 0)).2=true then []else [t])
  else if Ct t (bs [104,97,115,104])=true then (if (U1 k (N3 t 0)).2=true then []else [t])else []
def Tf (t:Tm):Prop:=∀x∈EH t,Ct x (bs [97,101,110,99])=true->Ct (N3 x 1) (bs [112,107])=true
theorem Tf.kid {t x:Tm} (h:Tf t) (hx:x∈t.kids):Tf x:=λy hy=>h y (by
 rw[Ac,J1];exact xw _ (yF.2 ⟨x,hx,hy⟩))
theorem Tf.root {t:Tm} (h:Tf t):Ct t (bs [97,101,110,99])=true->Ct (N3 t 1) (bs [112,107])=true:=h t (by rw[Ac];exact yB)
theorem Vn (m:I8) (k:I2) (t:Tm) (hk:∀x∈k,GoodT x) (ht:GoodT t) (CI:k.length<=1048576):pc Q Gb [sl m 4 (A3 k),B8 t]=some (.bool (U1 k t).2):=by
 have hD:=Vh m k t hk ht CI;have hT:(U1 k t).2=true->(U1 k t).1=0:=λh=>(cq h).1;generalize U1 k t=d at *
 obtain⟨e,b⟩:=d;simp only at hD hT;cases b with
 |false =>
  refine Q6 Gs λfr hl h0 h1=>?_;simp[Gs]at hl h0 h1;simp[Gs,hl,h0,h1,hD]
 |true =>
  have hT0:=hT rfl;subst hT0;refine Q6 Gs λfr hl h0 h1=>?_;simp[Gs]at hl h0 h1;simp[Gs,hl,h0,h1,hD]
theorem Wi:bs [112,97,105,114]≠bs [115,105,103,110]/\bs [112,97,105,114]≠bs [101,110,99]/\bs [112,97,105,114]≠bs [97,101,110,99]/\bs [112,97,105,114]≠bs [104,97,115,104]/\bs [115,105,103,110]≠bs [112,97,105,114]/\bs [115,105,103,110]≠bs [101,110,99]/\bs [115,105,103,110]≠bs [97,101,110,99]/\bs [115,105,103,110]≠bs [104,97,115,104]/\bs [101,110,99]≠bs [112,97,105,114]/\bs [101,110,99]≠bs [115,105,103,110]/\bs [101,110,99]≠bs [97,101,110,99]/\bs [101,110,99]≠bs [104,97,115,104]/\bs [97,101,110,99]≠bs [112,97,105,114]/\bs [97,101,110,99]≠bs [115,105,103,110]/\bs [97,101,110,99]≠bs [101,110,99]/\bs [97,101,110,99]≠bs [104,97,115,104]/\bs [104,97,115,104]≠bs [112,97,105,114]/\bs [104,97,115,104]≠bs [115,105,103,110]/\bs [104,97,115,104]≠bs [101,110,99]/\bs [104,97,115,104]≠bs [97,101,110,99]:=by decide
theorem eU (m:I8) (k:I2) (hk:∀x∈k,GoodT x) (CI:k.length<=1048576):∀(N:Nat) (t:Tm),t.size<=N->FS t->Tf t->t.size<=40->∀h:AH,
  ∃v h',rc Q O3 [sl m 4 (A3 k),B8 t] h=some (v,h')/\WU h.fams.length true 4 (A3 (JK k N t)) v h'/\(JK k N t).length<=t.size/\(∃B,h'.boxes=h.boxes++B)/\h.fams.length<=h'.fams.length/\∀j,j<h.fams.length->h'.fams[j]?=h.fams[j]?:=by
 intro N
 induction N with
 |zero=>intro t hs;have:=t.size_pos;omega
 |succ N ih0 =>
  intro t hs hA hE h40 h;have ih:∀(t:Tm),t.size<=N->FS t->Tf t->t.size<=40->∀h:AH,∃v F',US true h (rc Q O3 [sl m 4 (A3 k),B8 t] h)=some (v,⟨h.boxes,F'⟩)/\WU h.fams.length true 4 (A3 (JK k N t)) v ⟨h.boxes,F'⟩/\(JK k N t).length<=t.size/\h.fams.length<=F'.length/\∀j,j<h.fams.length->F'[j]?=h.fams[j]?:=by
   intro t a b c d h;obtain⟨v,h',e1,e2,e3,e4,e5,e6⟩:=ih0 t a b c d h;exact⟨v,h'.fams,Ru e1 (KA e2.a).2.2.2 e4,e2,e3,e5,e6⟩
  clear ih0;have AK:=(hA.good h40).ok;have hnil:∀X:AH,WU h.fams.length true 4 (A3 []) (.vs true 0 []) X:=λX=>.inl ⟨by simp,false,rfl⟩;have hone:∀X:AH,WU h.fams.length true 4 (A3 [t]) (sl (true,true) 4 [B8 t]) X:=λX=>.inl ⟨by simp,true,rfl⟩;have hks:=t.kids_size;have hsp:=t.size_pos;by_cases hK:t.kind=3
  .have hname:∀nm,t.name=nm->Ct t nm=true:=λnm h=>JM.2 ⟨hK,h⟩;have hname':∀nm,t.name≠nm->Ct t nm=false:=λnm h=>by
    cases hq:Ct t nm with
    |false=>rfl
    |true=>exact absurd (JM.1 hq).2 h
   by_cases c1:t.name=bs [112,97,105,114]
   .obtain⟨a,b,Lr⟩:=Gz AK (hname _ c1) (.inl rfl);rw[Lr]at hks;simp only[Tm.sizes]at hks;have hx0:IU (A3 t.kids) 0=some (B8 a):=by rw[Lr];rfl
    have hx1:IU (A3 t.kids) 1=some (B8 b):=by rw[Lr];rfl
    have hB:JK k (N+1) t=JK k N a++JK k N b:=by rw[JK,if_pos (hname _ c1),N3,N3,Lr];rfl
    rw[hB];have am:a∈t.kids:=by rw[Lr];simp
    have bm:b∈t.kids:=by rw[Lr];simp
    obtain⟨bx,F⟩:=h;obtain⟨va,Fa,a1,a2,a3,a4,a5⟩:=ih a (by omega) (hA.kid am) (hE.kid am) (by omega) ⟨bx++[(B8 t).cells],F⟩;obtain⟨vb,Fb,b1,b2,b3,b4,b5⟩:=ih b (by omega) (hA.kid bm) (hE.kid bm) (by omega) ⟨bx++[(B8 t).cells],Fa⟩;simp only at a4 a5 b4 b5;have a2':WU F.length true 4 (A3 (JK k N a)) va ⟨bx++[(B8 t).cells],Fb⟩:=mG a2 b5;obtain⟨vc,Fc,p1,p2,p3,p4⟩:=jb (c:=G7 O3) (bytes:=56) (h:=⟨bx++[(B8 t).cells],Fb⟩) (show F.length<=_ by simp only;omega) a2' (Th (b2.mono a4).a _) (by simp only[G4,maxLen,D7,xm];omega);rw[show A3 (JK k N a)++A3 (JK k N b)=A3 (JK k N a++JK k N b) from by simp[D7]]at p2;simp only at p1;simp only[H3,hK,c1]at a1 b1 p1;refine FT D9 λfr hl h0 h1=>?_;simp[D9]at hl h0 h1;simp[D9,hl,h0,h1,hK,c1,hx0,hx1,a1,b1,p1];exact⟨Lt p2 rfl,by omega,p3,λj hj=>(p4 j hj).trans ((b5 j (by omega)).trans (a5 j hj))⟩
   by_cases c2:t.name=bs [115,105,103,110]
   .obtain⟨a,b,Lr⟩:=Gz AK (hname _ c2) (.inr (.inr (.inr (.inl rfl))));rw[Lr]at hks;simp only[Tm.sizes]at hks;have hx0:IU (A3 t.kids) 0=some (B8 a):=by rw[Lr];rfl
    have hB:JK k (N+1) t=JK k N a:=by rw[JK,hname' _ c1,hname _ c2,N3,Lr];rfl
    rw[hB];have am:a∈t.kids:=by rw[Lr];simp
    obtain⟨bx,F⟩:=h;obtain⟨va,Fa,a1,a2,a3,a4,a5⟩:=ih a (by omega) (hA.kid am) (hE.kid am) (by omega) ⟨bx++[(B8 t).cells],F⟩;simp only at a4 a5;simp only[H3,hK,c2]at a1;refine FT D9 λfr hl h0 h1=>?_;simp[D9]at hl h0 h1;simp[D9,hl,h0,h1,Wi,hK,c2,hx0,a1];exact⟨Lt a2 rfl,by omega,a4,a5⟩
   by_cases c3:t.name=bs [101,110,99]
   .have hag:AV.agg [.int .i64 3,.str (bs [101,110,99]),.int .i64 t.sort,sl t.cm 4 (A3 t.kids)]=B8 t:=by rw[←hK,←c3];cases t;rfl
    obtain⟨a,b,Lr⟩:=Gz AK (hname _ c3) (.inr (.inl rfl));rw[Lr]at hks;simp only[Tm.sizes]at hks;have hx0:IU (A3 t.kids) 0=some (B8 a):=by rw[Lr];rfl
    have hx1:IU (A3 t.kids) 1=some (B8 b):=by rw[Lr];rfl
    have hB:JK k (N+1) t=if (U1 k b).2=true then JK k N a else [t]:=by rw[JK,hname' _ c1,hname' _ c2,hname _ c3,N3,N3,Lr];rfl
    rw[hB];have am:a∈t.kids:=by rw[Lr];simp
    have bm:b∈t.kids:=by rw[Lr];simp
    have hC:=Vn m k b hk ((hA.kid bm).good (by omega)) CI;obtain⟨bx,F⟩:=h;obtain⟨va,Fa,a1,a2,a3,a4,a5⟩:=ih a (by omega) (hA.kid am) (hE.kid am) (by omega) ⟨bx++[(B8 t).cells],F⟩;simp only at a4 a5;simp only[H3,hK,c3]at a1;cases hd:(U1 k b).2 with
    |true =>
     rw[hd]at hC;rw[if_pos rfl];refine FT D9 λfr hl h0 h1=>?_;simp[D9]at hl h0 h1;simp[D9,hl,h0,h1,Wi,hK,c3,hx0,hx1,hC,a1];exact⟨Lt a2 rfl,by omega,a4,a5⟩
    |false =>
     rw[hd]at hC;rw[if_neg (by simp)];refine FT D9 λfr hl h0 h1=>?_;simp[D9]at hl h0 h1;simp[D9,hl,h0,h1,Wi,hK,c3,hx1,hC,hag,A4];exact⟨hone _,by omega⟩
   by_cases c4:t.name=bs [97,101,110,99]
   .have hag:AV.agg [.int .i64 3,.str (bs [97,101,110,99]),.int .i64 t.sort,sl t.cm 4 (A3 t.kids)]=B8 t:=by rw[←hK,←c4];cases t;rfl
    obtain⟨a,b,Lr⟩:=Gz AK (hname _ c4) (.inr (.inr (.inl rfl)));rw[Lr]at hks;simp only[Tm.sizes]at hks;have am:a∈t.kids:=by rw[Lr];simp
    have bm:b∈t.kids:=by rw[Lr];simp
    have hb:=hE.root (hname _ c4);rw[show N3 t 1=b from by rw[N3,Lr];rfl]at hb;obtain⟨p1,p2⟩:=JM.1 hb;have hbok:=((hA.kid bm).good (by omega)).ok;obtain⟨c,hc⟩:=hbok.one p1 (by rw[p2];exact .inl rfl);have hsz2:=b.kids_size;rw[hc]at hsz2;simp only[Tm.sizes]at hsz2;have hx0:IU (A3 t.kids) 0=some (B8 a):=by rw[Lr];rfl
    have hx1:IU (A3 t.kids) 1=some (B8 b):=by rw[Lr];rfl
    have hy0:IU (A3 b.kids) 0=some (B8 c):=by rw[hc];rfl
    have hB:JK k (N+1) t=if (U1 k c).2=true then JK k N a else if (U1 k a).2=true then []else [t]:=by rw[JK,hname' _ c1,hname' _ c2,hname' _ c3,hname _ c4,N3,N3,Lr,N3];simp only[List.getD_cons_succ,List.getD_cons_zero,hc];rfl
    rw[hB];have hC:=Vn m k c hk (((hA.kid bm).kid (by rw[hc];simp)).good (by omega)) CI;have hC2:=Vn m k a hk ((hA.kid am).good (by omega)) CI;obtain⟨bx,F⟩:=h;obtain⟨va,Fa,a1,a2,a3,a4,a5⟩:=ih a (by omega) (hA.kid am) (hE.kid am) (by omega) ⟨bx++[(B8 t).cells],F⟩;simp only at a4 a5;simp only[H3,hK,c4]at a1;cases hd:(U1 k c).2 with
    |true =>
     rw[hd]at hC;rw[if_pos rfl];refine FT D9 λfr hl h0 h1=>?_;simp[D9]at hl h0 h1;simp[D9,hl,h0,h1,Wi,hK,c4,hx0,hx1,hy0,hC,a1];exact⟨Lt a2 rfl,by omega,a4,a5⟩
    |false =>
     rw[hd]at hC;rw[if_neg (by simp)];cases hd2:(U1 k a).2 with
     |true =>
      rw[hd2]at hC2;rw[if_pos rfl];refine FT D9 λfr hl h0 h1=>?_;simp[D9]at hl h0 h1;simp[D9,hl,h0,h1,Wi,hK,c4,hx0,hx1,hy0,hC,hC2];exact hnil _
     |false =>
      rw[hd2]at hC2;rw[if_neg (by simp)];refine FT D9 λfr hl h0 h1=>?_;simp[D9]at hl h0 h1;simp[D9,hl,h0,h1,Wi,hK,c4,hx0,hx1,hy0,hC,hC2,hag,A4];exact⟨hone _,by omega⟩
   by_cases c5:t.name=bs [104,97,115,104]
   .have hag:AV.agg [.int .i64 3,.str (bs [104,97,115,104]),.int .i64 t.sort,sl t.cm 4 (A3 t.kids)]=B8 t:=by rw[←hK,←c5];cases t;rfl
    obtain⟨a,Lr⟩:=AK.one hK (by rw[c5];exact .inr (.inl rfl));rw[Lr]at hks;simp only[Tm.sizes]at hks;have hx0:IU (A3 t.kids) 0=some (B8 a):=by rw[Lr];rfl
    have hB:JK k (N+1) t=if (U1 k a).2=true then []else [t]:=by rw[JK,hname' _ c1,hname' _ c2,hname' _ c3,hname' _ c4,hname _ c5,N3,Lr];rfl
    rw[hB];have am:a∈t.kids:=by rw[Lr];simp
    have hC:=Vn m k a hk ((hA.kid am).good (by omega)) CI;cases hd:(U1 k a).2 with
    |true =>
     rw[hd]at hC;rw[if_pos rfl];refine FT D9 λfr hl h0 h1=>?_;simp[D9]at hl h0 h1;simp[D9,hl,h0,h1,Wi,hK,c5,hx0,hC];exact hnil _
    |false =>
     rw[hd]at hC;rw[if_neg (by simp)];refine FT D9 λfr hl h0 h1=>?_;simp[D9]at hl h0 h1;simp[D9,hl,h0,h1,Wi,hK,c5,hx0,hC,hag,A4];exact⟨hone _,by omega⟩
   have hB:JK k (N+1) t=[]:=by rw[JK,hname' _ c1,hname' _ c2,hname' _ c3,hname' _ c4,hname' _ c5];rfl
   rw[hB];refine FT D9 λfr hl h0 h1=>?_;simp[D9]at hl h0 h1;simp[D9,hl,h1,hK,c1,c2,c3,c4,c5];exact hnil _
  .obtain⟨bx,F⟩:=h;have hB:JK k (N+1) t=[]:=by
    have hn:∀nm,Ct t nm=false:=λnm=>by simp[Ct,hK]
    rw[JK];simp[hn]
   rw[hB];refine FT D9 λfr hl h0 h1=>?_;simp[D9]at hl h0 h1;simp[D9,hl,h1,hK];exact hnil _
end Go.Abs.Q
namespace Go.Abs.Q
open Go.Proofs
attribute [local simp] D0 D1 fin I1 E7 K8 I3 N6 P4
theorem ia (h:AH) (b:Bool) (xs:E6) (hx:xs.length<=1):rc Q C9 [sl (true,b) 4 xs,.fn A8 []] h=some (A9,h):=by
 refine JV (s:=Up 4) rfl rfl ?_;show (if xs.length<=1 then some (A9,h)else none)=_
 rw[if_pos hx]
theorem YP (g:FuncId) (h:AH) (b:Bool) (xs:E6) (hx:xs.length<=1):rc Q B9 [sl (true,b) 4 xs,.fn g []] h=some (sl (true,b) 4 xs,h):=by
 suffices hq:∃v h',rc Q B9 [sl (true,b) 4 xs,.fn g []] h=some (v,h')/\(v=sl (true,b) 4 xs/\h'=h) by
  obtain⟨v,h',h1,rfl,rfl⟩:=hq;exact h1
 have h2:(xs.length:Int)<2:=by omega
 refine FT G6 λfr hl h0 h1=>?_;simp[G6]at hl h0 h1;simp[G6,hl,h0,h2]
theorem Tl (l:I2) (h:l.length<=1):O1 l l:=by
 refine⟨?_,λ_=>Iff.rfl⟩
 match l,h with
 | [],_=>exact List.Pairwise.nil
 | [a],_=>exact List.pairwise_singleton _ _
theorem tK (g:FuncId) (L:Nat) (l:I2) (v:AV) (B:List (List AV)) (F:List Fam) (hg:WU L true 4 (A3 l) v ⟨B,F⟩) (hcm:∀l':List Tm,(∀x∈l',x∈l)->QL g l') (K4:∀t∈l,t.size<=1099511627776) (C2:l.length<=1048576) :
  ∃F1 v2 F2 R,US true ⟨B,F⟩ (rc Q C9 [v,.fn A8 []] ⟨B,F⟩)=some (A9,⟨B,F1⟩)/\rc Q B9 [v,.fn g []] ⟨B,F1⟩=some (v2,⟨B,F2⟩)/\O1 R l/\(∀x∈R,x∈l)/\R.length<=l.length/\v2.isTup=false/\v2.cells=[v2]/\∃m,Bn ⟨B,F2⟩ v2=some (sl m 4 (A3 R)):=by
 rcases hg with ⟨hx,b,rfl⟩|⟨M5,k,hk0,rfl,hk⟩
 .have B4:l.length<=1:=by simpa using hx
  exact⟨F,_,F,l,by rw[ia _ _ _ hx];exact sF _ _,YP _ _ _ _ hx,Tl l B4,λ_ h=>h,xl _,rfl,rfl,(true,b),rfl⟩
 .have hne':l≠[]:=by rintro rfl;exact M5 rfl
  have CI:=J0 hk;have hlv:(A3 l).length=l.length:=by simp
  obtain⟨l',hp,hsort,hS⟩:=PI k ⟨B,F⟩ l hk hne' K4 (by omega);have hl':l'.length=l.length:=hp.length_eq;have hcm:=hcm l' (λx hx=>hp.mem_iff.1 hx);obtain⟨Z,hZ,hZR,hK⟩:=IZ g l' hcm k ⟨B,F.set k ⟨A3 l',4,true⟩⟩ (by simp only at CI;simp[CI]) (by omega);obtain⟨s1,s2,s3⟩:=Kh l' hsort;rw[hl']at hK hZ;generalize P3 l'=R at *
  simp only[List.set_set]at hK hS CI;have e1:(A3 Z).length=l.length:=by rw[D7,xm,hZ]
  have e2:(A3 Z).take R.length=A3 R:=by rw[←QI,hZR]
  have e3:R.length<=l.length:=by omega
  rw[hlv];refine⟨_,_,_,R,by rw[hS];exact gQ _ _ _,hK,⟨s1.1,λe=>(s1.2 e).trans (by simp only[xo,hp.mem_iff])⟩,λx hx=>hp.mem_iff.1 (s2 x hx),e3,rfl,rfl,(false,true),?_⟩;rw[HL,Dn];simp[CI,e1,e2,e3]
theorem Xn (a b:Tm) (h:a.size<=1099511627776) (h':b.size<=1099511627776):pc Q x8 [B8 a,B8 b]=some (.bool (decide (H0 a b=0))):=by
 have hC:=Z4 _ a b (xl _) h h';refine Q6 Cb λfr hl h0 h1=>?_;simp[Cb]at hl h0 h1;simp[Cb,hl,h0,h1,hC]
noncomputable def mO (k:List Tm) (t:Tm):List Tm:=JK k t.size t
theorem mQ (k:I2):∀(N:Nat) (t:Tm),∀x∈JK k N t,x.size<=t.size:=by
 intro N
 induction N with
 |zero=>intro t x hx;exact absurd hx yG
 |succ N ih =>
  intro t x hx;have hkid:∀i,(N3 t i).size<=t.size:=λi=>by
   unfold N3;rw[List.getD_eq_getElem?_getD];cases h:t.kids[i]? with
   |none=>have:=t.size_pos;simp[Yw,Tm.size,Tm.sizes];omega
   |some y=>have h1:=Tm.size_le (xy h);have h2:=t.kids_size;simp only[Option.getD_some];omega
  have h0:∀i,∀x∈JK k N (N3 t i),x.size<=t.size:=λi x hx=>yM (ih _ x hx) (hkid i);have h1:∀x∈[t],x.size<=t.size:=λx hx=>by rw[List.mem_singleton.1 hx];exact xl _
  have h2:∀x∈([]:List Tm),x.size<=t.size:=λx hx=>absurd hx yG;rw[JK]at hx
  repeat' split at hx
  all_goals first|exact h0 _ x hx|exact h1 x hx|exact h2 x hx|skip
  rcases yI.1 hx with hx|hx<;>exact h0 _ x hx
theorem Zl (r n:Nar) (F:Fine n) (S:Lens n) (hz:(Al n).2=0) (hR:Right n) (he:On r=DD (H5 (B5 n) (E4 n)) n) (i:Nat) (hi:i<r.steps.length) (hAe:Tf r.steps[i].msg) :
  ∃m R,pc Q U7 [Dw r n,.int .i64 (i:Nat)]=some (sl m 4 (A3 R))/\O1 R (mO (Kv (true,true) r n r.steps[i].to (LL r.roles r.steps[i].to) (i+1)) r.steps[i].msg)/\Tm.sizes R<=10000/\R.length<=40:=by
 have sb:=AR r n;have hx:=H8 (f:=Cl) (xk hi);have Jd:=yD hi;obtain⟨hmA,hmS⟩:=Xe hR he Jd;obtain⟨hsm,-⟩:=Hy hR.nar he;obtain⟨e2,e3,e5⟩:=Fe he;have hrl:=hsm.roles;have hstl:=hsm.steps;have hto:r.steps[i].to∈r.roles:=by
  have hm:Lo r.steps[i]∈n.steps.map (Dd (H5 (B5 n) (E4 n))):=by rw[←(AI he).2.2.2.2.1];exact yA Jd
  obtain⟨s',hs',e⟩:=xo.1 hm;unfold Lo Dd at e;injection e with _ e _ _
  rw[←e,e2];exact(LO (hR.steps s' hs')).2.1
 generalize r.steps[i]=s at *
 obtain⟨x1,x2⟩:=OK hto;have hrole:=YE r n hrl s.to;rw[x2]at hrole;obtain⟨mk,hK⟩:=PG r n F S hz hsm e2 (LL r.roles s.to) s.to x1 (i+1) (by omega);have Lf:∀x∈Kv (true,true) r n s.to (LL r.roles s.to) (i+1),GoodT x:=λx hx=>by
  obtain⟨h1,h2⟩:=Ox hR he (by rw[←e2];exact hto) hx;exact h1.good h2
 have CI:=VV (m:=(true,true)) (me:=s.to) (role:=LL r.roles s.to) (q:=i+1) hsm;generalize MR:Kv (true,true) r n s.to (LL r.roles s.to) (i+1)=kk at *
 obtain⟨v,h',b1,b2,b3,⟨B,b4⟩,-⟩:=eU mk kk Lf (by omega) _ s.msg (xl _) hmA hAe hmS ⟨[(Dw r n).cells,(Cl s).cells],[]⟩;have b5:=Ru b1 (KA b2.a).2.2.2 ⟨B,b4⟩;obtain⟨bx,Fb⟩:=h';have K4:∀t∈JK kk s.msg.size s.msg,t.size<=40:=λt ht=>yM (mQ kk _ _ t ht) hmS;obtain⟨F1,v2,F2,R,c1,c2,c3,c4,c5,c6,c7,m,c8⟩:=tK x8 _ _ v [(Dw r n).cells,(Cl s).cells] Fb (Lt b2 rfl) (λl' hl'=>⟨rfl,λa ha b hb=>Xn a b (by have:=K4 a (hl' a ha);omega) (by have:=K4 b (hl' b hb);omega)⟩) (λt ht=>by have:=K4 t ht;omega) (by omega)
 suffices hq:∃w,pc Q U7 [Dw r n,.int .i64 (i:Nat)]=some w/\w=sl m 4 (A3 R) by
  obtain⟨w,hw,rfl⟩:=hq;exact⟨m,R,hw,c3,by have:=KV λx hx=>K4 x (c4 x hx);have:R.length*40<=40*40:=Nat.mul_le_mul_right 40 (by omega);omega,by omega⟩
 have hw:=E5 i (by omega);rw[show ((i+1:Nat):Int)=(i:Int)+1 from by omega]at hK;have ss:(Cl s).cells=[.str s.frm,.str s.to,.int .i64 s.msg.kind,.str s.msg.name,.int .i64 s.msg.sort,sl s.msg.cm 4 (A3 s.msg.kids),.int .i64 s.line]:=by
  show [.str s.frm,.str s.to]++(B8 s.msg).cells++[.int .i64 s.line]=_;rw[H3];rfl
 simp only[sb,ss]at b5 c1 c2 c8;refine Ta Dk λΨ hΨ fr hl h0 h1=>?_;simp[Dk]at hl h0 h1;simp[Dk,hl,h0,h1,sb,hx,hw,hrole,hK,b5,c1,c2,c8];exact hΨ _ rfl
theorem fb {k k':I2} (hk:k.map D5=k'.map D5):∀(N:Nat) {t t':Tm},D5 t=D5 t'->(JK k N t).map D5=(JK k' N t').map D5:=by
 intro N
 induction N with
 |zero=>intro t t' _;rfl
 |succ N ih =>
  intro t t' h;have hd:∀i,(U1 k (N3 t i)).2=(U1 k' (N3 t' i)).2:=λi=>by rw[NH hk (CM h i)]
  have hd2:(U1 k (N3 (N3 t 1) 0)).2=(U1 k' (N3 (N3 t' 1) 0)).2:=by rw[NH hk (CM (CM h 1) 0)]
  have hone:[t].map D5=[t'].map D5:=by simp[h]
  rw[JK,JK,HV h,HV h,HV h,HV h,HV h,hd,hd,hd2];split
  .rw[yH,yH,ih (CM h 0),ih (CM h 1)]
  .split
   .exact ih (CM h 0)
   .split
    .split
     .exact ih (CM h 0)
     .exact hone
    .split
     .split
      .exact ih (CM h 0)
      .split
       .rfl
       .exact hone
     .split
      .split
       .rfl
       .exact hone
      .rfl
theorem mP {k k':I2} (hk:k.map D5=k'.map D5) {t t':Tm} (h:D5 t=D5 t'):(mO k t).map D5=(mO k' t').map D5:=by
 have hs:t.size=t'.size:=by rw[←CK _ t (xl _),←CK _ t' (xl _),h]
 unfold mO;rw[hs];exact fb hk _ h
theorem cK {R l l':I2} (h:O1 R l) (e:l.map D5=l'.map D5):O1 R l':=⟨h.1,λx=>by rw[←e];exact h.2 x⟩
theorem bC {α:Type}:∀{a b:List α},a.Nodup->(∀x∈a,x∈b)->a.length<=b.length
 | [],_,_,_=>yN _
 |x::a,b,hn,hs=>by
  obtain⟨s,t,rfl⟩:=List.append_of_mem (hs x yB);obtain⟨h1,h2⟩:=yJ.1 hn;have:=bC (b:=s++t) h2 λy hy=>by
   have h3:=hs y (xw _ hy);have M5:y≠x:=λe=>h1 (e ▸ hy);rcases yI.1 h3 with h|h
   .exact List.mem_append_left _ h
   .rcases yL.1 h with h|h
    .exact absurd h M5
    .exact List.mem_append_right _ h
  simp only[xq,yE]at this ⊢;omega
theorem Wa {R l:I2} (h:O1 R l):(R.map D5).Nodup:=by
 have h1:=h.1;clear h
 induction R with
 |nil=>exact List.nodup_nil
 |cons a R ih =>
  obtain⟨p,q⟩:=List.pairwise_cons.1 h1;rw[List.map_cons];refine yJ.2 ⟨λhm=>?_,ih q⟩;obtain⟨x,hx,e⟩:=xo.1 hm;have:=p x hx;rw[AF.2 e.symm]at this;omega
theorem RW {R l:I2} (h:O1 R l):R.length<=l.length:=by
 have:=bC (Wa h) λx hx=>(h.2 x).1 hx;simpa using this
theorem Tj {R l:I2} (h:O1 R l):R=[]↔l=[]:=by
 constructor
 .rintro rfl;cases l with
  |nil=>rfl
  |cons a l=>exact absurd ((h.2 (D5 a)).2 (by simp)) (by simp)
 .rintro rfl;have:=RW h;exact xp (by simpa using this)
theorem ae (k:I2) (t:Tm):Wl k t<=(alls (k++[t])).length:=by
 unfold Wl;split
 .rename_i h;exact RW h.choose_spec
 .exact yN _
theorem mC {t t':Tm} (h:Tf t') (e:D5 t=D5 t'):Tf t:=λx hx hi=>by
 obtain⟨y,hy,e1⟩:=VD e hx;rw[HV (CM e1.symm 1)];exact h y hy (by rw[←HV e1.symm];exact hi)
theorem Yy {t:Tm} (h:Ct t (bs [97,101,110,99])=true->Ct (N3 t 1) (bs [112,107])=true) (hk:∀x∈t.kids,Tf x):Tf t:=λy hy=>by
 rw[Ac,J1]at hy;rcases yL.1 hy with rfl|hy
 .exact h
 .obtain⟨x,hx,hy⟩:=yF.1 hy;exact hk x hx y hy
theorem OS (a:H7) (s:Int) (m:I8):Tf (.mk 2 a s m []):=Yy (λh=>absurd (JM.1 h).1 (by simp[Tm.kind])) λx hx=>nomatch hx
theorem Ka {nm:H7} {m:I8} {l:I2} (h:nm≠bs [97,101,110,99]) (hl:∀x∈l,Tf x):Tf (.mk 3 nm 0 m l):=Yy (λq=>absurd (JM.1 q).2 h) hl
theorem fF (a:H7):Tf (Qu a):=Ka (l:=[D5 (HU a)]) (by decide) (NW (OS _ _ _))
theorem fE (a:H7):Tf (Pz a):=Ka (l:=[Qu a]) (by decide) (NW (fF a))
theorem mD (a b:H7):Tf (Sn a b):=Ka (l:=[D5 (HU a),D5 (HU b)]) (by decide) (Hj (OS _ _ _) (OS _ _ _))
theorem Wt.aeN {ro:ByteArray->Prop} {ok:ByteArray->Int->Prop} {t:Tm} (h:Wt ro ok t):Tf t:=by
 induction h with
 |atom a s h=>exact OS _ _ _
 |pair x y _ _ ix iy=>exact Ka (by decide) (Hj ix iy)
 |enc x y _ _ ix iy=>exact Ka (by decide) (Hj ix iy)
 |hash x _ ix=>exact Ka (by decide) (NW ix)
 |aenc x r _ h ix=>exact Yy (λ_=>rfl) (Hj ix (fE r))
 |sign x r _ h ix=>exact Ka (by decide) (Hj ix (fF r))
 |pk r h=>exact fE r
 |shk a b h h' _=>exact mD a b
theorem nJ {r n:Nar} (hR:Right n) (he:On r=DD (H5 (B5 n) (E4 n)) n) {s:Ste} (hs:s∈r.steps):Tf s.msg:=by
 have hm:Lo s∈n.steps.map (Dd (H5 (B5 n) (E4 n))):=by rw[←(AI he).2.2.2.2.1];exact yA hs
 obtain⟨s',hs',e⟩:=xo.1 hm;unfold Lo Dd at e;injection e with _ _ e _
 exact mC (hR.msg hs').1.aeN (by rw[e,UA])
noncomputable def Kg (n:Nar) (i:Nat):List Tm :=
 match (n.steps.map (Dd (H5 (B5 n) (E4 n))))[i]? with
 |some s=>mO (JA (H5 (B5 n) (E4 n)) n s.to (LL n.roles s.to) (i+1)) s.msg
 |none=>[]
theorem iJ (r n:Nar) (F:Fine n) (S:Lens n) (hz:(Al n).2=0) (hR:Right n) (he:On r=DD (H5 (B5 n) (E4 n)) n) (i:Nat) (hi:i<r.steps.length) :
  ∃m R,pc Q U7 [Dw r n,.int .i64 (i:Nat)]=some (sl m 4 (A3 R))/\O1 R (Kg n i)/\Tm.sizes R<=10000/\R.length<=40:=by
 have Jd:=yD hi;obtain⟨m,R,h1,h2,h3,h4⟩:=Zl r n F S hz hR he i hi (nJ hR he Jd);refine⟨m,R,h1,cK h2 ?_,h3,h4⟩;obtain⟨e2,e3,e5⟩:=Fe he;have hq:(n.steps.map (Dd (H5 (B5 n) (E4 n))))[i]?=some (Lo r.steps[i]):=by
  rw[←(AI he).2.2.2.2.1,yC,xk hi];rfl
 have hto:r.steps[i].to∈n.roles:=by
  obtain⟨s',hs',e⟩:=xo.1 (xy hq);unfold Lo Dd at e;injection e with _ e _ _
  rw[←e];exact(LO (hR.steps s' hs')).2.1
 unfold Kg;rw[hq];simp only[Lo];refine mP ?_ (UA _).symm;rw[e2,Rt hR.dec he (OK hto).1];exact Kw hR.dec he (OK hto).1 _
noncomputable def WH (n:Nar):Bool:=decide ((Al n).2=0)&&(xz n.steps.length).all λi=>(Kg n i).isEmpty
theorem kY (r na:Nar) (F:Fine na) (S:Lens na) (hz:(Al na).2=0) (hR:Right na) (he:On r=DD (H5 (B5 na) (E4 na)) na) (C0:E6) (hstl:r.steps.length<=1000) (fr:Fr) (h:AH) (B0:List (List AV)) (hB0:h.boxes=C0::(Dw r na).cells::B0) (hl:fr.length=26) (h3:A0 fr 3=.ptr 1 0) (h16:A0 fr 16=.int .i64 r.steps.length) (h17:A0 fr 17=.int .i64 0) :
  C8 (lp (A1 (Q8 Q) (G7 Fp) CF) (fr,h)) λe D4 h'=>Kp CF.wr fr D4/\((e=.exit 0/\(∀j,j<r.steps.length->Kg na j=[]))\/(e=.ret/\A0 D4 2=.bool false/\∃j,j<r.steps.length/\Kg na j≠[])):=by
 refine C3 rfl fr (λn fr h'=>∃(i:Nat),i+n=r.steps.length/\A0 fr 17=.int .i64 (i:Nat)/\(∃B,h'.boxes=C0::(Dw r na).cells::B)/\(∀j,j<i->Kg na j=[])) ?_ r.steps.length h ⟨0,by omega,h17,⟨_,hB0⟩,λj h=>absurd h (Nat.not_lt_zero j)⟩;rintro J Φ hJ hΦ n G9 H1 K ⟨i,hi,k17,hr⟩;have B4:=K.1.trans hl;have k3:=A5 K 3 h3;have k16:=A5 K 16 h16;clear K;by_cases A6:i<r.steps.length
 .have V7:=E5 i (by omega);obtain⟨⟨B,hB⟩,hr⟩:=hr;obtain⟨bx,fams⟩:=H1;simp only at hB;subst hB;have sb:=AR r na;obtain⟨m,R,hb1,hb2,-,hb4⟩:=iJ r na F S hz hR he i A6;have hnil:=Tj hb2;cases R with
  |nil =>
   simp[CF,B4,k3,k16,k17,A6,V7,sb,hb1];exact⟨n-1,by omega,hJ _ _ _ ⟨i+1,by omega,by simp[B4],⟨B,by rw[sb]⟩,λj hj=>by
    rcases Nat.lt_or_eq_of_le (Nat.lt_succ_iff.1 hj)with h|rfl
    .exact hr j h
    .exact hnil.1 rfl⟩⟩
  |cons a R =>
   have N7:(0:Int)<((A3 (a::R)).length:Int):=by simp only[D7,xm,yE];omega
   simp[CF,B4,k3,k16,k17,A6,sb,hb1];exact hΦ _ _ _ (.inr ⟨rfl,by simp[B4],i,A6,λh=>nomatch hnil.2 h⟩)
 .obtain⟨⟨B,hB⟩,hr⟩:=hr;simp[CF,B4,k16,k17,A6];exact hΦ _ _ _ (.inl ⟨rfl,λj hj=>hr j (by omega)⟩)
theorem Xl (n:Nar) (F:Fine n) (S:Lens n):pc Q Fp [V8 n]=some (.bool (WH n)):=by
 obtain⟨r,hO,hE⟩:=Vq n F S;have nb:=U9 n;have sb:=AR r n;by_cases h1:(Al n).2=0
 .have he:=hE h1;obtain⟨-,hR⟩:=FQ h1;obtain⟨hsm,-⟩:=Hy hR.nar he;obtain⟨e2,-,e5⟩:=Fe he;have hT:WH n=(xz n.steps.length).all λi=>(Kg n i).isEmpty:=by unfold WH;simp[h1]
  rw[h1]at hO;rw[hT];refine N4 EE λfr hl h0=>?_;simp[EE]at hl h0;simp[EE,hl,h0,nb,sb,hO];refine C8.mono (kY r n F S h1 hR he (V8 n).cells hsm.steps _ _ [] ?_ ?_ ?_ ?_ ?_) ?_<;>first|(simp[hl,nb,sb];done)|skip
  rintro e G9 ⟨bx,F1⟩ ⟨K,⟨rfl,hn⟩|⟨rfl,l2,j,hj,hn⟩⟩
  .have B4:G9.length=26:=K.1.trans (by simp[hl]);have hA:(xz n.steps.length).all (λi=>(Kg n i).isEmpty)=true:=by
    rw[List.all_eq_true];intro i hi;rw[hn i (by rw[e5];exact yK.1 hi)];rfl
   simp[B4,hA]
  .have hA:(xz n.steps.length).all (λi=>(Kg n i).isEmpty)=false:=by
    rw[List.all_eq_false];exact⟨j,yK.2 (by omega),by simpa using hn⟩
   simp[l2,hA]
 .have hT:WH n=false:=by unfold WH;simp[h1]
  rw[hT];generalize (Al n).2=e at *
  have M5:=h1;refine N4 EE λfr hl h0=>?_;simp[EE]at hl h0;simp[EE,hl,h0,nb,sb,hO,M5]
def ZE (n:Nar) (role step:Int):Int:=if Nt n role step≠0 then Nt n role step else match n.steps[step.toNat]? with
 |some s=>if some s.to=n.roles[role.toNat]? then 0 else 7
 |none=>7
theorem eN (n:Nar) (F:Fine n) (S:Lens n) (role step:Int):∃(m:I8) (l:I2),pc Q Hs [V8 n,.int .i64 role,.int .i64 step]=some (.tup [sl m 4 (A3 l),.int .i64 (ZE n role step)])/\(ZE n role step=0->O1 l (Kg n step.toNat)/\Tm.sizes l<=10000/\l.length<=40)/\(ZE n role step≠0->l=[]):=by
 suffices hq:∃v,pc Q Hs [V8 n,.int .i64 role,.int .i64 step]=some v/\∃(m:Bool×Bool) (l:List Tm),v=.tup [sl m 4 (A3 l),.int .i64 (ZE n role step)]/\(ZE n role step=0->O1 l (Kg n step.toNat)/\Tm.sizes l<=10000/\l.length<=40)/\(ZE n role step≠0->l=[]) by
  obtain⟨v,h1,m,l,rfl,h2⟩:=hq;exact⟨m,l,h1,h2⟩
 obtain⟨r,n',hO,hE⟩:=Xm n F S role step;have nb:=U9 n;have sb:=AR r n';have hz4:sl (true,false) 4 (A3 [])=.vs true 0 []:=rfl;by_cases hat:Nt n role step=0
 .obtain⟨rfl,he⟩:=hE hat;obtain⟨hs0,g1,g2,g3,g4⟩:=MC hat;obtain⟨-,hR⟩:=FQ hs0;obtain⟨hsm,-⟩:=Hy hR.nar he;obtain⟨e2,-,e5⟩:=Fe he;obtain⟨role,rfl⟩:=xt g1;obtain⟨step,rfl⟩:=xt g3;simp only[xn]at g2 g4 ⊢;rw[hat]at hO;by_cases h2:step=n'.steps.length
  .have hB:ZE n' role step=7:=by unfold ZE;rw[if_neg (by simp[hat])];simp only[xn];rw[List.getElem?_eq_none (by omega)]
   rw[hB];obtain rfl:step=r.steps.length:=by omega
   refine YF T7 λΨ hΨ fr hl h0 h1 h2=>?_;simp[T7]at hl h0 h1 h2;simp[T7,hl,h0,h1,h2,nb,sb,hO];exact hΨ _ ⟨(true,false),[],rfl,by simp⟩
  .have h2':¬(step:Int)=r.steps.length:=by omega
   have A6:step<r.steps.length:=by omega
   have hx:=H8 (f:=Cl) (xk A6);have hlr:role<r.roles.length:=by rw[e2];exact g2
   have hy:=H8 (f:=AV.str) (xk hlr);have hss:n'.steps[step]?=some (n'.steps[step]'(by omega)):=xk _;have hto:(n'.steps[step]'(by omega)).to=r.steps[step].to:=by
    have:=(AI he).2.2.2.2.1;have h3:=congrArg (·[step]?) this;simp only[yC,xk A6,hss,Option.map_some,Option.some.injEq]at h3;unfold Lo Dd at h3;injection h3 with _ h3 _ _
    exact h3.symm
   have hrr:n'.roles[role]?=some r.roles[role]:=by rw[←e2];exact xk hlr
   by_cases h3:r.steps[step].to=r.roles[role]
   .have hB:ZE n' role step=0:=by unfold ZE;rw[if_neg (by simp[hat])];simp only[xn];rw[hss];simp only[hto,hrr,h3];rfl
    rw[hB];obtain⟨m,R,hb1,hb2,hb3,hb4⟩:=iJ r n' F S hs0 hR he step A6;obtain⟨m',l',hc1,hc2⟩:=Px _ m R (xl _) (by omega);refine YF T7 λΨ hΨ fr hl h0 h1 h2=>?_;simp[T7]at hl h0 h1 h2;simp[T7,hl,h0,h1,h2,nb,sb,hO,h2',hx,hy,h3,hb1,hc1];refine hΨ _ ⟨m',l',rfl,λ_=>⟨QM hb2 hc2,?_,?_⟩,λh=>absurd rfl h⟩
    .rw[←EW l',hc2,EW];exact hb3
    .have:=congrArg List.length hc2;rw[D3,D3,xm,xm]at this;omega
   .have hB:ZE n' role step=7:=by unfold ZE;rw[if_neg (by simp[hat])];simp only[xn];rw[hss];simp only[hto,hrr,Option.some.injEq,h3,if_false]
    rw[hB];refine YF T7 λΨ hΨ fr hl h0 h1 h2=>?_;simp[T7]at hl h0 h1 h2;simp[T7,hl,h0,h1,h2,nb,sb,hO,h2',hx,hy,h3];exact hΨ _ ⟨(true,false),[],rfl,by simp⟩
 .have hB:ZE n role step=Nt n role step:=by unfold ZE;rw[if_pos hat]
  rw[hB];generalize Nt n role step=e at *
  have M5:=hat;refine YF T7 λΨ hΨ fr hl h0 h1 h2=>?_;simp[T7]at hl h0 h1 h2;simp[T7,hl,h0,h1,h2,nb,sb,hO,M5];exact hΨ _ ⟨(true,false),[],rfl,λh=>absurd h M5,λ_=>rfl⟩
end Go.Abs.Q
