/- A part of the proof. -/
import Derived.Test.YtohjdamplbhdpaaGreatDoorSE22
set_option linter.all false
open Nat renaming le_refl->A0Z
open List renaming getElem?_eq_getElem->A0a,eq_nil_iff_forall_not_mem->A0b,length_map->A0c,drop_eq_nil_of_le->A0d,mem_cons_of_mem->A0e,map_eq_nil_iff->A0f,mem_cons_self->A0g,mem_map->A0h,getElem_mem->A0i,range->A0j,mem_range->A0k
namespace Go.Abs.Q
open Go.Proofs
attribute [local simp] E6 E8 fin K1 H2 P7 M6 R4 R3
theorem nd (mr:I6) (R:G7) (fr:Fr) (h:AH) (hl:fr.length=96) (h9:A0 fr 9=.bool true) (h11:A0 fr 11=sl mr 4 (A4 R)) (h12:A0 fr 12=.int .i64 0) :
  B6 (lp (A2 (K8 Q) (D6 Y7) K3) (fr,h)) λe C3 h'=>Kp K3.wr fr C3/\(e=.exit 2/\h'=h):=by
 refine A9 rfl fr (λn C3 h'=>h'=h/\A0 C3 12=.int .i64 0) ?_ 0 h ⟨rfl,h12⟩;rintro J Φ hJ hΦ n D4 H1 K ⟨rfl,k12⟩;have A6:=K.1.trans hl;have k9:=A8 K 9 h9;have k11:=A8 K 11 h11;clear K;have B8:(A4 R).length=R.length:=by rw[C9,A0c]
 by_cases hp:0<R.length
 .simp[K3,A6,k9,k11,k12,hp];exact hΦ _ _ _ ⟨rfl,rfl⟩
 .have hp':R=[]:=List.eq_nil_of_length_eq_zero (by omega);subst hp';simp[K3,A6,k11,k12];exact hΦ _ _ _ ⟨rfl,rfl⟩
theorem nc (r na:Nar) (hR:Right na) (he:Py r=CA (J9 (B5 na) (G2 na)) na) (C0 Z:G6) (hZ:Z.length=4) (hZm:ED Z=false) (hstl:r.steps.length<=1000) (fr:Fr) (h:AH) (B0:List (List AV)) (hB0:h.boxes=C0::Z::(G4 r).cells::B0) (hl:fr.length=96) (h3:A0 fr 3=.ptr 1 0) (h5:A0 fr 5=.ptr 2 0) (h7:A0 fr 7=.int .i64 0) :
  B6 (lp (A2 (K8 Q) (D6 Y7) T9) (fr,h)) λe C3 h'=>Kp T9.wr fr C3/\((e=.exit 0/\SX (λme i=>bn (false,true) r me (Kr r.roles me) i) 0 r.steps=(0,Tz,0)/\∃B,h'.boxes=C0::Z::(G4 r).cells::B)\/(e=.ret/\∃(x:Int×Tm×Int) (t:Tm),WU (SX (λme i=>bn (false,true) r me (Kr r.roles me) i) 0 r.steps)=WU x/\E3 t=E3 x.2.1/\A0 C3 2=.int .i64 x.1/\A0 C3 4=.int .i64 x.2.2/\∃B,h'.boxes=C0::(B9 t).cells::(G4 r).cells::B)):=by
 refine A9 rfl fr (λn fr h'=>∃(i:Nat),i+n=r.steps.length/\A0 fr 7=.int .i64 (i:Nat)/\(∃B,h'.boxes=C0::Z::(G4 r).cells::B)/\SX (λme i=>bn (false,true) r me (Kr r.roles me) i) i (r.steps.drop i)=SX (λme i=>bn (false,true) r me (Kr r.roles me) i) 0 r.steps) ?_ r.steps.length h ⟨0,by omega,h7,⟨_,hB0⟩,rfl⟩;rintro J Φ hJ hΦ n D4 H1 K ⟨i,hi,k7,hr⟩;have A6:=K.1.trans hl;have k3:=A8 K 3 h3;have k5:=A8 K 5 h5;clear K;by_cases A7:i<r.steps.length
 .have L3:=C6 i (by omega);obtain⟨⟨B,hB⟩,hr⟩:=hr;obtain⟨bx,fams⟩:=H1;simp only at hB;subst hB;have rb:=E5 r;have hx:=G1 (f:=EP) (A0a A7);have HW:=A0i A7;rw[List.drop_eq_getElem_cons A7,SX]at hr;obtain⟨hmA,hmS⟩:=UU hR he HW;obtain⟨-,hsm⟩:=Iu hR.nar he;obtain⟨e2,e3,e5⟩:=GY he;have hrl:=hsm.roles;have hfr:r.steps[i].frm∈r.roles:=by
   have hm:Mz r.steps[i]∈na.steps.map (CB (J9 (B5 na) (G2 na))):=by rw[←(t7 he).2.2.2.2.1];exact List.mem_map_of_mem HW
   obtain⟨s',hs',e⟩:=A0h.1 hm;unfold Mz CB at e;injection e with e _ _ _
   rw[←e,e2];exact(Ks (hR.steps s' hs')).1
  generalize r.steps[i]=s at *
  obtain⟨x1,x2⟩:=QR hfr;have hrole:=aX r s.frm (by omega);rw[x2]at hrole;obtain⟨mk,hK⟩:=YA r hsm (Kr r.roles s.frm) s.frm x1 i (by omega);have hmn:na.roles[Kr r.roles s.frm]?=some s.frm:=by rw[←e2];exact x1
  have Dt:∀x∈bn (false,true) r s.frm (Kr r.roles s.frm) i,GoodT x:=λx hx=>by
   obtain⟨h1,h2⟩:=eZ hR he hmn hx;exact h1.good h2
  have Bs:=lN hR he hmn i;generalize TE:bn (false,true) r s.frm (Kr r.roles s.frm) i=kk at *
  have hD:=ck mk kk s.msg Dt (hmA.good hmS) (by omega);obtain⟨R,mr,hSub,hSet,-,hRl⟩:=Rh (true,true) [s.msg] (by simp only[Tm.sizes];omega);rw[show A4 [s.msg]=[B9 s.msg] from rfl]at hSub;simp only[Tm.sizes]at hRl;have hRg:=gt hSet hmA hmS;have hse:=Ur (k:=kk) (k':=kk) rfl (i:Int) (Uq hSet rfl);generalize hd:S7 kk s.msg=d at *
  obtain⟨de,db⟩:=d;simp only at hD hr;by_cases hde:de=0
  .subst hde;rw[if_neg (by simp)]at hr;cases db with
   |true =>
    simp only[if_true]at hr;simp[T9,A6,k5,k7,A7,rb,hx,hrole,hK,hD,A5,hSub];refine B6.mono (nd mr R _ _ ?_ ?_ ?_ ?_) ?_<;>first|(simp[A6];done)|skip
    rintro e Q6 h2 ⟨K,rfl,rfl⟩;have Bb:Q6.length=96:=K.1.trans (by simp[A6]);have k7':A0 Q6 7=.int .i64 (i:Nat):=A8 K 7 (by simp[k7]);clear K;simp[Bb,k7',L3];exact G0 hJ ⟨i+1,by omega,by simp[Bb],⟨B,by simp[rb]⟩,hr⟩
   |false =>
    simp only[Bool.false_eq_true,if_false]at hr;simp[T9,A6,k5,k7,A7,rb,hx,hrole,hK,hD,A5,hSub];refine B6.mono (nZ R kk mr mk (by omega) (λx hx=>by obtain⟨h1,h2⟩:=hRg x hx;exact⟨h1.good h2,by omega⟩) Dt Bs (i:Int) C0 Z (G4 r).cells hZ hZm _ _ B ?_ ?_ ?_ ?_ ?_ ?_ ?_ ?_) ?_<;>first|(simp[A6,k3,k7,rb];done)|skip
    rintro e Q6 ⟨bx2,F2⟩ ⟨K,⟨rfl,hn,B2,hB2⟩|⟨rfl,a,c,t,hso,l2,l4,B2,hB2⟩⟩
    .simp only at hB2;subst hB2;have Bb:Q6.length=96:=K.1.trans (by simp[A6]);have k7':A0 Q6 7=.int .i64 (i:Nat):=A8 K 7 (by simp[k7]);clear K;rw[hn]at hse;have hnone:Gj kk (i:Int) (NY s.msg)=none:=by
      cases hq:Gj kk (i:Int) (NY s.msg)with
      |none=>rfl
      |some x=>rw[hq]at hse;simp at hse
     rw[hnone]at hr;simp only at hr;simp[Bb,k7',L3];exact G0 hJ ⟨i+1,by omega,by simp[Bb],⟨B2,rfl⟩,hr⟩
    .simp only at hB2;subst hB2;rw[hso]at hse;obtain⟨y,hy,hye⟩:∃y,Gj kk (i:Int) (NY s.msg)=some y/\WU (a,t,c)=WU y:=by
      cases hq:Gj kk (i:Int) (NY s.msg)with
      |none=>rw[hq]at hse;simp at hse
      |some y=>rw[hq]at hse;exact⟨y,rfl,by simpa using hse⟩
     rw[hy]at hr;simp only at hr;simp;exact hΦ _ _ _ (.inr ⟨rfl,(a,t,c),t,by rw[←hr,hye],rfl,l2,l4,B2,by simp⟩)
  .rw[if_pos hde]at hr;have hZd:Z.drop 4=[]:=A0d (by omega);simp[T9,A6,k3,k5,k7,A7,rb,hx,hrole,hK,hD,hde,C8,D8,hZ,hZm,K5];refine hΦ _ _ _ (.inr ⟨rfl,(0,Tz,de),Tz,by rw[←hr],rfl,by simp[A6],by simp[A6],B,?_⟩);simp[Tz,Tm.kind,Tm.name,Tm.sort,Tm.cm,Tm.kids,A4,hZd,rb];exact GT 4
 .obtain⟨⟨B,hB⟩,hr⟩:=hr;obtain⟨bx,fams⟩:=H1;simp only at hB;subst hB;have rb:=E5 r;rw[A0d (by omega),SX]at hr;simp[T9,A6,k5,k7,A7,rb];exact hΦ _ _ _ (.inl ⟨rfl,hr.symm,B,by rw[rb]⟩)
theorem xR (n:Nar):RE n 0 0=(Y0 n).2:=by
 unfold RE;by_cases h:(Y0 n).2=0
 .obtain⟨-,hR⟩:=GH h;have:=aK (Ti (GF hR.nar).1).2;rw[if_neg (by simp[h]),if_neg (by omega),h]
 .rw[if_pos h]
theorem sy (n:Nar) (F:Fine n) (S:Lens n):∃t,pc Q Y7 [G4 n]=some (.tup [.int .i64 (KQ n).1,B9 t,.int .i64 (KQ n).2.2])/\E3 t=(KQ n).2.1:=by
 suffices hq:∃v,pc Q Y7 [G4 n]=some v/\∃t,v=.tup [.int .i64 (KQ n).1,B9 t,.int .i64 (KQ n).2.2]/\E3 t=(KQ n).2.1 by
  obtain⟨v,h1,t,rfl,h2⟩:=hq;exact⟨t,h1,h2⟩
 obtain⟨r,hO,hE⟩:=WH n F S 0 0;have nb:=E5 n;have rb:=E5 r;have hz4:B9 Tz=.agg [.int .i64 0,.str (bs []),.int .i64 0,.vs true 0 []]:=by rw[GT 4];rfl
 by_cases h1:RE n 0 0=0
 .have he:=hE h1;obtain⟨z1,-,z3,-,-⟩:=XJ h1;obtain⟨-,hR⟩:=GH z1;obtain⟨-,hsm⟩:=Iu hR.nar he;obtain⟨e2,-,-⟩:=GY he;rw[h1]at hO;have hX:KQ n=WU (SX (λme i=>bn (false,true) r me (Kr r.roles me) i) 0 r.steps):=by
   unfold KQ;rw[if_neg (by simp[z1])];refine(lF hR he _ λme hme q=>?_).symm;rw[e2];exact bo he q
  rw[hX];refine Fj AE λΨ hΨ fr hl h0=>?_;simp[AE]at hl h0;simp[AE,hl,h0,nb,rb,hO];refine B6.mono (nc r n hR he (G4 n).cells [.int .i64 0,.str (bs []),.int .i64 0,.vs true 0 []] rfl rfl hsm.steps _ _ [] ?_ ?_ ?_ ?_ ?_) ?_<;>first|(simp[hl,nb,rb];done)|skip
  rintro e D4 ⟨bx,F1⟩ ⟨K,⟨rfl,hn,B2,hB2⟩|⟨rfl,x,t,hx,het,l2,l4,B2,hB2⟩⟩
  .simp only at hB2;subst hB2;have A6:D4.length=96:=K.1.trans (by simp[hl]);have k3':A0 D4 3=.ptr 1 0:=A8 K 3 (by simp[hl]);rw[hn]at hΨ;simp[A6,k3',C8,D8,K5];exact hΨ _ ⟨Tz,by rw[hz4];rfl,rfl⟩
  .simp only at hB2;subst hB2;have A6:D4.length=96:=K.1.trans (by simp[hl]);have k3':A0 D4 3=.ptr 1 0:=A8 K 3 (by simp[hl]);rw[hx]at hΨ;simp[l2,l4,k3'];exact hΨ _ ⟨t,rfl,het⟩
 .have hX:KQ n=(0,E3 Tz,RE n 0 0):=by
   unfold KQ;rw[if_pos (by rw[←xR];exact h1),xR]
  rw[hX];generalize RE n 0 0=e at *
  have P4:=h1;refine Fj AE λΨ hΨ fr hl h0=>?_;simp[AE]at hl h0;simp[AE,hl,h0,nb,rb,hO,P4,C8,D8,K5];exact hΨ _ ⟨Tz,by rw[hz4];rfl,rfl⟩
theorem Wx (m:I6) (k:G7) (t:Tm) (hk:∀x∈k,GoodT x) (ht:GoodT t) (Bs:k.length<=1048576):pc Q JM [sl m 4 (A4 k),B9 t]=some (.bool (S7 k t).2):=by
 have hD:=ck m k t hk ht Bs;generalize S7 k t=d at *
 obtain⟨e,b⟩:=d;simp only at hD;refine N3 SD λfr hl h0 h1=>?_;simp[SD]at hl h0 h1;simp[SD,hl,h0,h1,hD]
theorem kB (m:I6) (k:G7) (hk:∀x∈k,GoodT x) (Bs:k.length<=1048576):∀(N:Nat) (t:Tm),t.size<=N->Hv t->XB t->t.size<=40->∀h:AH,
  ∃v h',rc Q N4 [sl m 4 (A4 k),B9 t] h=some (v,h')/\Yt h.fams.length false 4 (A4 (HT k N t)) v h'/\(HT k N t).length<=t.size/\(∃B,h'.boxes=h.boxes++B)/\h.fams.length<=h'.fams.length/\∀j,j<h.fams.length->h'.fams[j]?=h.fams[j]?:=by
 intro N
 induction N with
 |zero=>intro t hs;have:=t.size_pos;omega
 |succ N ih0 =>
  intro t hs hA hE h40 h;have ih:∀(t:Tm),t.size<=N->Hv t->XB t->t.size<=40->∀h:AH,∃v F',WW true h (rc Q N4 [sl m 4 (A4 k),B9 t] h)=some (v,⟨h.boxes,F'⟩)/\Yt h.fams.length false 4 (A4 (HT k N t)) v ⟨h.boxes,F'⟩/\(HT k N t).length<=t.size/\h.fams.length<=F'.length/\∀j,j<h.fams.length->F'[j]?=h.fams[j]?:=by
   intro t a b c d h;obtain⟨v,h',e1,e2,e3,e4,e5,e6⟩:=ih0 t a b c d h;exact⟨v,h'.fams,NE e1 (Mn e2.a).2.2.2 e4,e2,e3,e5,e6⟩
  clear ih0;have BJ:=(hA.good h40).ok;have hnil:∀X:AH,Yt h.fams.length false 4 (A4 []) (.vs true 0 []) X:=λX=>.inl ⟨by simp,false,rfl⟩;have hone:∀X:AH,Yt h.fams.length false 4 (A4 [t]) (sl (true,true) 4 [B9 t]) X:=λX=>.inl ⟨by simp,true,rfl⟩;have hks:=t.kids_size;have hsp:=t.size_pos;have hag:=Vk t;have q1:=GG t (bs [112,97,105,114]);have q2:=GG t (bs [115,105,103,110]);have q3:=GG t (bs [101,110,99]);have q4:=GG t (bs [97,101,110,99]);have q5:=GG t (bs [104,97,115,104]);by_cases c1:q8 t (bs [112,97,105,114])=true
  .obtain⟨a,b,BI⟩:=S0 BJ c1 (.inl rfl);rw[BI]at hks;simp only[Tm.sizes]at hks;have hx0:IZ (A4 t.kids) 0=some (B9 a):=by rw[BI];rfl
   have hx1:IZ (A4 t.kids) 1=some (B9 b):=by rw[BI];rfl
   have hB:HT k (N+1) t=HT k N a++HT k N b:=by rw[HT,if_pos c1,J0,J0,BI];rfl
   rw[hB];have am:a∈t.kids:=by rw[BI];simp
   have bm:b∈t.kids:=by rw[BI];simp
   obtain⟨bx,F⟩:=h;obtain⟨va,Fa,a1,a2,a3,a4,a5⟩:=ih a (by omega) (hA.kid am) (hE.kid am) (by omega) ⟨bx++[(B9 t).cells],F⟩;obtain⟨vb,Fb,b1,b2,b3,b4,b5⟩:=ih b (by omega) (hA.kid bm) (hE.kid bm) (by omega) ⟨bx++[(B9 t).cells],Fa⟩;simp only at a4 a5 b4 b5;have a2':Yt F.length false 4 (A4 (HT k N a)) va ⟨bx++[(B9 t).cells],Fb⟩:=qX a2 b5;obtain⟨vc,Fc,p1,p2,p3,p4⟩:=kZ (c:=D6 N4) (bytes:=56) (h:=⟨bx++[(B9 t).cells],Fb⟩) (show F.length<=_ by simp only;omega) a2' (ZV (b2.mono a4).a _) (by simp only[H3,maxLen,C9,A0c];omega);rw[show A4 (HT k N a)++A4 (HT k N b)=A4 (HT k N a++HT k N b) from by simp[C9]]at p2;rw[c1]at q1;simp only at p1;simp only[I3]at a1 b1 p1;clear q2 q3 q4 q5;refine Dm E7 λfr hl h0 h1=>?_;simp[E7]at hl h0 h1;simp[E7,hl,h0,h1,hag,q1,hx0,hx1,a1,b1,p1];exact⟨JV p2 rfl,by omega,p3,λj hj=>(p4 j hj).trans ((b5 j (by omega)).trans (a5 j hj))⟩
  have c1':q8 t (bs [112,97,105,114])=false:=by simpa using c1
  rw[c1']at q1;by_cases c2:q8 t (bs [115,105,103,110])=true
  .obtain⟨a,b,BI⟩:=S0 BJ c2 (.inr (.inr (.inr (.inl rfl))));rw[BI]at hks;simp only[Tm.sizes]at hks;have hx0:IZ (A4 t.kids) 0=some (B9 a):=by rw[BI];rfl
   have hB:HT k (N+1) t=HT k N a:=by rw[HT,if_neg c1,if_pos c2,J0,BI];rfl
   rw[hB];have am:a∈t.kids:=by rw[BI];simp
   obtain⟨bx,F⟩:=h;obtain⟨va,Fa,a1,a2,a3,a4,a5⟩:=ih a (by omega) (hA.kid am) (hE.kid am) (by omega) ⟨bx++[(B9 t).cells],F⟩;simp only at a4 a5;simp only[I3]at a1;rw[c2]at q2;clear q3 q4 q5;refine Dm E7 λfr hl h0 h1=>?_;simp[E7]at hl h0 h1;simp[E7,hl,h0,h1,hag,q1,q2,hx0,a1];exact⟨JV a2 rfl,by omega,a4,a5⟩
  have c2':q8 t (bs [115,105,103,110])=false:=by simpa using c2
  rw[c2']at q2;by_cases c3:q8 t (bs [101,110,99])=true
  .obtain⟨a,b,BI⟩:=S0 BJ c3 (.inr (.inl rfl));rw[BI]at hks;simp only[Tm.sizes]at hks;have hx0:IZ (A4 t.kids) 0=some (B9 a):=by rw[BI];rfl
   have hx1:IZ (A4 t.kids) 1=some (B9 b):=by rw[BI];rfl
   have hB:HT k (N+1) t=if (S7 k b).2=true then HT k N a else [t]:=by rw[HT,if_neg c1,if_neg c2,if_pos c3,J0,J0,BI];rfl
   rw[hB];have am:a∈t.kids:=by rw[BI];simp
   have bm:b∈t.kids:=by rw[BI];simp
   have hC:=Wx m k b hk ((hA.kid bm).good (by omega)) Bs;obtain⟨bx,F⟩:=h;obtain⟨va,Fa,a1,a2,a3,a4,a5⟩:=ih a (by omega) (hA.kid am) (hE.kid am) (by omega) ⟨bx++[(B9 t).cells],F⟩;simp only at a4 a5;simp only[I3]at a1;rw[c3]at q3;clear q4 q5;cases hd:(S7 k b).2 with
   |true =>
    rw[hd]at hC;rw[if_pos rfl];refine Dm E7 λfr hl h0 h1=>?_;simp[E7]at hl h0 h1;simp[E7,hl,h0,h1,hag,q1,q2,q3,hx0,hx1,hC,a1];exact⟨JV a2 rfl,by omega,a4,a5⟩
   |false =>
    rw[hd]at hC;rw[if_neg (by simp)];refine Dm E7 λfr hl h0 h1=>?_;simp[E7]at hl h0 h1;simp[E7,hl,h0,h1,hag,q1,q2,q3,hx1,hC,A5];exact⟨hone _,by omega⟩
  have c3':q8 t (bs [101,110,99])=false:=by simpa using c3
  rw[c3']at q3;by_cases c4:q8 t (bs [97,101,110,99])=true
  .obtain⟨a,b,BI⟩:=S0 BJ c4 (.inr (.inr (.inl rfl)));rw[BI]at hks;simp only[Tm.sizes]at hks;have am:a∈t.kids:=by rw[BI];simp
   have bm:b∈t.kids:=by rw[BI];simp
   have hb:=hE.root c4;rw[show J0 t 1=b from by rw[J0,BI];rfl]at hb;obtain⟨p1,p2⟩:=Io.1 hb;have hbok:=((hA.kid bm).good (by omega)).ok;obtain⟨c,hc⟩:=hbok.one p1 (by rw[p2];exact .inl rfl);have hsz2:=b.kids_size;rw[hc]at hsz2;simp only[Tm.sizes]at hsz2;have hx0:IZ (A4 t.kids) 0=some (B9 a):=by rw[BI];rfl
   have hx1:IZ (A4 t.kids) 1=some (B9 b):=by rw[BI];rfl
   have hy0:IZ (A4 b.kids) 0=some (B9 c):=by rw[hc];rfl
   have hB:HT k (N+1) t=if (S7 k c).2=true then HT k N a else if (S7 k a).2=true then []else [t]:=by rw[HT,if_neg c1,if_neg c2,if_neg c3,if_pos c4,J0,J0,BI,J0];simp only[BI,List.getD_cons_succ,List.getD_cons_zero,hc]
   rw[hB];have hC:=Wx m k c hk (((hA.kid bm).kid (by rw[hc];simp)).good (by omega)) Bs;have hC2:=Wx m k a hk ((hA.kid am).good (by omega)) Bs;obtain⟨bx,F⟩:=h;obtain⟨va,Fa,a1,a2,a3,a4,a5⟩:=ih a (by omega) (hA.kid am) (hE.kid am) (by omega) ⟨bx++[(B9 t).cells],F⟩;simp only at a4 a5;simp only[I3]at a1;rw[c4]at q4;clear q5;cases hd:(S7 k c).2 with
   |true =>
    rw[hd]at hC;rw[if_pos rfl];refine Dm E7 λfr hl h0 h1=>?_;simp[E7]at hl h0 h1;simp[E7,hl,h0,h1,hag,q1,q2,q3,q4,hx0,hx1,hy0,hC,a1];exact⟨JV a2 rfl,by omega,a4,a5⟩
   |false =>
    rw[hd]at hC;rw[if_neg (by simp)];cases hd2:(S7 k a).2 with
    |true =>
     rw[hd2]at hC2;rw[if_pos rfl];refine Dm E7 λfr hl h0 h1=>?_;simp[E7]at hl h0 h1;simp[E7,hl,h0,h1,hag,q1,q2,q3,q4,hx0,hx1,hy0,hC,hC2];exact hnil _
    |false =>
     rw[hd2]at hC2;rw[if_neg (by simp)];refine Dm E7 λfr hl h0 h1=>?_;simp[E7]at hl h0 h1;simp[E7,hl,h0,h1,hag,q1,q2,q3,q4,hx0,hx1,hy0,hC,hC2,A5];exact⟨hone _,by omega⟩
  have c4':q8 t (bs [97,101,110,99])=false:=by simpa using c4
  rw[c4']at q4;by_cases c5:q8 t (bs [104,97,115,104])=true
  .obtain⟨p1,p2⟩:=Io.1 c5;obtain⟨a,BI⟩:=BJ.one p1 (by rw[p2];exact .inr (.inl rfl));rw[BI]at hks;simp only[Tm.sizes]at hks;have hx0:IZ (A4 t.kids) 0=some (B9 a):=by rw[BI];rfl
   have hB:HT k (N+1) t=if (S7 k a).2=true then []else [t]:=by rw[HT,if_neg c1,if_neg c2,if_neg c3,if_neg c4,if_pos c5,J0,BI];rfl
   rw[hB];have am:a∈t.kids:=by rw[BI];simp
   have hC:=Wx m k a hk ((hA.kid am).good (by omega)) Bs;rw[c5]at q5;cases hd:(S7 k a).2 with
   |true =>
    rw[hd]at hC;rw[if_pos rfl];refine Dm E7 λfr hl h0 h1=>?_;simp[E7]at hl h0 h1;simp[E7,hl,h0,h1,hag,q1,q2,q3,q4,q5,hx0,hC];exact hnil _
   |false =>
    rw[hd]at hC;rw[if_neg (by simp)];refine Dm E7 λfr hl h0 h1=>?_;simp[E7]at hl h0 h1;simp[E7,hl,h0,h1,hag,q1,q2,q3,q4,q5,hx0,hC,A5];exact⟨hone _,by omega⟩
  have c5':q8 t (bs [104,97,115,104])=false:=by simpa using c5
  rw[c5']at q5;have hB:HT k (N+1) t=[]:=by rw[HT,if_neg c1,if_neg c2,if_neg c3,if_neg c4,if_neg c5]
  rw[hB];refine Dm E7 λfr hl h0 h1=>?_;simp[E7]at hl h0 h1;simp[E7,hl,h1,hag,q1,q2,q3,q4,q5];exact hnil _
theorem pr (m:I6) (k:G7) (hk:∀x∈k,GoodT x) (Bs:k.length<=1048576) (t:Tm) (hA:Hv t) (hE:XB t) (h40:t.size<=40) (bx:List (List AV)) (F:List Fam) :
  ∃v F',WW true ⟨bx,F⟩ (rc Q N4 [sl m 4 (A4 k),B9 t] ⟨bx,F⟩)=some (v,⟨bx,F'⟩)/\KM false 4 (A4 (dy k t)) v ⟨bx,F'⟩/\(dy k t).length<=40:=by
 obtain⟨v,h',e1,e2,e3,e4,-,-⟩:=kB m k hk Bs t.size t (A0Z _) hA hE h40 ⟨bx,F⟩;exact⟨v,h'.fams,NE e1 (Mn e2.a).2.2.2 e4,I2 e2.a rfl,by unfold dy;omega⟩
theorem uh {r n:Nar} (hR:Right n) (he:Py r=CA (J9 (B5 n) (G2 n)) n) {i:Nat} (hi:i<r.steps.length) :
  r.steps[i].to∈r.roles/\∀e,e∈(dy (bn (false,true) r r.steps[i].to (Kr r.roles r.steps[i].to) (i+1)) r.steps[i].msg).map E3↔e∈(KP n i).map E3:=by
 obtain⟨e2,e3,e5⟩:=GY he;have hq:(n.steps.map (CB (J9 (B5 n) (G2 n))))[i]?=some (Mz r.steps[i]):=by
  rw[←(t7 he).2.2.2.2.1,List.getElem?_map,A0a hi];rfl
 have hto:r.steps[i].to∈n.roles:=by
  obtain⟨s',hs',e⟩:=A0h.1 (List.mem_of_getElem? hq);unfold Mz CB at e;injection e with _ e _ _
  rw[←e];exact(Ks (hR.steps s' hs')).2.1
 refine⟨by rw[e2];exact hto,?_⟩;unfold KP;rw[hq];simp only[Mz];have:(dy (bn (false,true) r r.steps[i].to (Kr r.roles r.steps[i].to) (i+1)) r.steps[i].msg).map E3=(dy (Sv (J9 (B5 n) (G2 n)) n r.steps[i].to (Kr n.roles r.steps[i].to) (i+1)) (E3 r.steps[i].msg)).map E3:=by
  refine qk ?_ (Zi _).symm;rw[e2,VQ hR.dec he (QR hto).1];exact bo he _
 rw[this];exact λ_=>Iff.rfl
theorem sE (r na:Nar) (hR:Right na) (he:Py r=CA (J9 (B5 na) (G2 na)) na) (C0:G6) (hstl:r.steps.length<=1000) (fr:Fr) (h:AH) (hh:h.boxes=[C0,(G4 r).cells]) (hl:fr.length=41) (h3:A0 fr 3=.ptr 1 0) (h5:A0 fr 5=.int .i64 0) :
  B6 (lp (A2 (K8 Q) (D6 LS) Cs) (fr,h)) λe C3 h'=>Kp Cs.wr fr C3/\((e=.exit 0/\(∀j,j<r.steps.length->KP na j=[]))\/(e=.ret/\A0 C3 2=.bool false/\∃j,j<r.steps.length/\KP na j≠[])):=by
 refine A9 rfl fr (λn fr h'=>∃(i:Nat),i+n=r.steps.length/\A0 fr 5=.int .i64 (i:Nat)/\h'.boxes=[C0,(G4 r).cells]/\(∀j,j<i->KP na j=[])) ?_ r.steps.length h ⟨0,by omega,h5,hh,λj h=>absurd h (Nat.not_lt_zero j)⟩;rintro J Φ hJ hΦ n D4 H1 K ⟨i,hi,k5,hr⟩;have A6:=K.1.trans hl;have k3:=A8 K 3 h3;clear K;by_cases A7:i<r.steps.length
 .have L3:=C6 i (by omega);obtain⟨hB,hr⟩:=hr;obtain⟨bx,fams⟩:=H1;simp only at hB;subst hB;have rb:=E5 r;have hx:=G1 (f:=EP) (A0a A7);have HW:=A0i A7;obtain⟨hmA,hmS⟩:=UU hR he HW;have hmE:=sJ hR he HW;obtain⟨-,hsm⟩:=Iu hR.nar he;obtain⟨e2,e3,e5⟩:=GY he;have hrl:=hsm.roles;obtain⟨hto,uM⟩:=uh hR he A7;generalize r.steps[i]=s at *
  obtain⟨x1,x2⟩:=QR hto;have hrole:=aX r s.to (by omega);rw[x2]at hrole;obtain⟨mk,hK⟩:=YA r hsm (Kr r.roles s.to) s.to x1 (i+1) (by omega);have hmn:na.roles[Kr r.roles s.to]?=some s.to:=by rw[←e2];exact x1
  have Dt:∀x∈bn (false,true) r s.to (Kr r.roles s.to) (i+1),GoodT x:=λx hx=>by
   obtain⟨h1,h2⟩:=eZ hR he hmn hx;exact h1.good h2
  have Bs:=lN hR he hmn (i+1);generalize TE:bn (false,true) r s.to (Kr r.roles s.to) (i+1)=kk at *
  obtain⟨v,F',hH,hg,h40⟩:=pr mk kk Dt (by omega) s.msg hmA hmE hmS [C0,(G4 r).cells] fams;have B8:=uV hg;rw[show ((i+1:Nat):Int)=(i:Int)+1 from rfl]at hK;have hnil:dy kk s.msg=[]↔KP na i=[]:=by
   constructor
   .intro h;rw[h]at uM;exact A0f.1 (A0b.2 λe he=>nomatch (uM e).2 he)
   .intro h;rw[h]at uM;exact A0f.1 (A0b.2 λe he=>nomatch (uM e).1 he)
  rw[C9,A0c]at B8;rw[rb]at hH;by_cases hb:dy kk s.msg=[]
  .rw[hb]at B8;simp only[List.length_nil]at B8;simp[Cs,A6,k3,k5,A7,L3,rb,hx,hrole,hK,hH,B8];exact⟨n-1,by omega,hJ _ _ _ ⟨i+1,by omega,by simp[A6],by rw[rb],λj hj=>by
    rcases Nat.lt_or_eq_of_le (Nat.lt_succ_iff.1 hj)with h|rfl
    .exact hr j h
    .exact hnil.1 hb⟩⟩
  .have L8:(0:Int)<((dy kk s.msg).length:Int):=by
    have:=List.length_pos_iff.2 hb;omega
   generalize ((dy kk s.msg).length:Int)=L at *
   simp[Cs,A6,k3,k5,A7,L3,rb,hx,hrole,hK,hH,B8,L8];exact hΦ _ _ _ (.inr ⟨rfl,by simp[A6],i,A7,λh=>hb (hnil.2 h)⟩)
 .obtain⟨hB,hr⟩:=hr;obtain⟨bx,fams⟩:=H1;simp only at hB;subst hB;have rb:=E5 r;simp[Cs,A6,k3,k5,A7,rb];exact hΦ _ _ _ (.inl ⟨rfl,λj hj=>hr j (by omega)⟩)
theorem pQ (n:Nar) (F:Fine n) (S:Lens n):pc Q LS [G4 n]=some (.bool (Tv n)):=by
 obtain⟨r,hO,hE⟩:=WH n F S 0 0;have nb:=E5 n;have rb:=E5 r;rw[xR]at hO hE;by_cases h1:(Y0 n).2=0
 .have he:=hE h1;obtain⟨-,hR⟩:=GH h1;obtain⟨-,hsm⟩:=Iu hR.nar he;obtain⟨e2,-,e5⟩:=GY he;have hT:Tv n=(A0j n.steps.length).all λi=>(KP n i).isEmpty:=by unfold Tv;simp[h1]
  rw[h1]at hO;rw[hT];refine H6 GO λfr hl h0=>?_;simp[GO]at hl h0;simp[GO,hl,h0,nb,rb,hO];refine B6.mono (sE r n hR he (G4 n).cells hsm.steps _ _ ?_ ?_ ?_ ?_) ?_<;>first|(simp[hl,nb,rb];done)|skip
  rintro e D4 ⟨bx,F1⟩ ⟨K,⟨rfl,hn⟩|⟨rfl,l2,j,hj,hn⟩⟩
  .have A6:D4.length=41:=K.1.trans (by simp[hl]);have hA:(A0j n.steps.length).all (λi=>(KP n i).isEmpty)=true:=by
    rw[List.all_eq_true];intro i hi;rw[hn i (by rw[e5];exact A0k.1 hi)];rfl
   simp[A6,hA]
  .have hA:(A0j n.steps.length).all (λi=>(KP n i).isEmpty)=false:=by
    rw[List.all_eq_false];exact⟨j,A0k.2 (by omega),by simpa using hn⟩
   simp[l2,hA]
 .have hT:Tv n=false:=by unfold Tv;simp[h1]
  rw[hT];generalize (Y0 n).2=e at *
  have P4:=h1;refine H6 GO λfr hl h0=>?_;simp[GO]at hl h0;simp[GO,hl,h0,nb,rb,hO,P4]
theorem gr {k:G7} {i:Int}:∀{l:G7} {x:Int×Tm×Int},Gj k i l=some x->x.2.1=Tz\/x.2.1∈l
 | [],x,h=>by rw[Gj]at h;cases h
 |t::l,x,h=>by
  rw[Gj]at h;split at h
  .cases h;exact .inl rfl
  .split at h
   .rcases gr h with h|h
    .exact .inl h
    .exact .inr (A0e _ h)
   .cases h;exact .inr A0g
theorem lG {kf:ByteArray->Nat->List Tm}:∀{l:List Ste} {i:Nat},(SX kf i l).2.1=Tz\/∃s∈l,(SX kf i l).2.1∈NY s.msg
 | [],i=>.inl rfl
 |s::l,i=>by
  have ih:=lG (kf:=kf) (l:=l) (i:=i+1);have ih':(SX kf (i+1) l).2.1=Tz\/∃s'∈s::l,(SX kf (i+1) l).2.1∈NY s'.msg:=by
   rcases ih with h|⟨s',h1,h2⟩
   .exact .inl h
   .exact .inr ⟨s',A0e _ h1,h2⟩
  rw[SX];split
  .exact .inl rfl
  .split
   .exact ih'
   .cases hq:Gj (kf s.frm i) (i:Int) (NY s.msg)with
    |none=>exact ih'
    |some x =>
     rcases gr hq with h|h
     .exact .inl h
     .exact .inr ⟨s,A0g,h⟩
theorem qL {t x:Tm} (h:x∈NY t):x.size<=t.size:=by
 unfold NY at h;split at h
 .rename_i hx;obtain⟨y,hy,e⟩:=SS hx.choose_spec h;rw[alls,alls,List.append_nil]at hy;have:=dv _ t (A0Z _) y hy;have h3:x.size=y.size:=by rw[←CK _ x (A0Z _),←e,CK _ y (A0Z _)]
  omega
 .cases h
theorem rB (n:Nar):(KQ n).2.1.size<=100:=by
 unfold KQ;split
 .exact(by decide:(E3 Tz).size<=100)
 .rename_i h0;have hz:(Y0 n).2=0:=Classical.byContradiction λh=>h0 h;obtain⟨-,hR⟩:=GH hz;obtain⟨h1,h2,h3⟩:=GF hR.nar;generalize hkf:(λ(me:ByteArray) (i:Nat)=>Sv (J9 (B5 n) (G2 n)) n me (Kr n.roles me) i)=kf;have hm:=lG (kf:=kf) (l:=n.steps.map (CB (J9 (B5 n) (G2 n)))) (i:=0);generalize SX kf 0 (n.steps.map (CB (J9 (B5 n) (G2 n))))=x at *
  unfold WU;simp only;rw[CK _ _ (A0Z _)];rcases hm with h|⟨s,hs,h⟩
  .rw[h];exact(by decide:Tz.size<=100)
  .have:=qL h;obtain⟨s',hs',rfl⟩:=A0h.1 hs;have h4:=UV (QY (h2 s' hs'));have h5:=Yj (J9 (B5 n) (G2 n)) _ s'.msg (A0Z _);unfold CB at this;simp only at this;omega
theorem Ue (n:Nar) (F:Fine n) (S:Lens n) (hS:Oq n.steps+RR n.goals<=1099511627776):pc Q QI [G4 n]=some (.bool true):=by
 obtain⟨b,hF⟩:=yQ n F hS;have hA:=sd;obtain⟨t,g1,e1⟩:=cV n F S;obtain⟨u,g2,e2⟩:=sy n F S;have g3:=YC n F S;have g4:=pQ n F S;have J4:=rB n;have ht:t.size<=100:=by rw[←CK _ t (A0Z _),e1];exact J4
 have hu:u.size<=100:=by rw[←CK _ u (A0Z _),e2];exact J4
 have hSm:=Wv t u (by omega) (by omega);rw[bZ (e1.trans e2.symm)]at hSm;have nb:=E5 n;generalize (KQ n).1=a at *
 generalize (KQ n).2.2=c at *
 generalize Tv n=ty at *
 cases b with
 |false =>
  refine H6 V2 λfr hl h0=>?_;simp[V2]at hl h0;simp[V2,hl,h0,nb,hA,hF]
 |true =>
  refine H6 V2 λfr hl h0=>?_;simp[V2]at hl h0;simp[V2,hl,h0,nb,hA,hF,g1,g2,g3,g4,hSm]
end Go.Abs.Q
