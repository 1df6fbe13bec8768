/- A part of the proof. -/
import Derived.Test.YtohjdamplbhdpaaGreatDoorSO20
import Derived.KernelRfl
set_option linter.all false
open List renaming getElem?_eq_getElem->A0Q,mem_cons_self->A0R,length_append->A0S,eq_nil_of_length_eq_zero->A0T,length_map->A0U,cons_append->A0V,mem_map->A0Y,length_cons->A0Z,mem_cons_of_mem->A0a,mem_map_of_mem->A0b,drop_eq_nil_of_le->A0d,all_eq_true->A0f,getElem_mem->A0g,length_replicate->A0h,map_append->A0i,mem_of_getElem?->A0j,nil_append->A0k,mem_range->A0l,getD_eq_getElem?_getD->A0m,append_assoc->A0n,drop_eq_getElem_cons->A0o,getElem?_eq_some_iff->A0p,not_mem_nil->A0q,mem_append->A0r,append_eq_nil_iff->A0s,length_singleton->A0t,mem_append_left->A0u,range->A0v,mem_cons->A0w,mem_singleton->A0y,all_eq_false->A0z,getElem?_map->A00,length->A01,mem_flatMap->A03,nodup_cons->A04,replicate->A06,map_map->A08
open Nat renaming le_refl->A0W,zero_le->A02,le_trans->A09
open Int renaming toNat_natCast->A0X,eq_ofNat_of_zero_le->A0c
open Bool renaming and_eq_true->A0e,false_eq_true->A0x,true_and->A07
open Option renaming map_some->A05
namespace Go.Abs.Q
open Go.Proofs
attribute [local simp] E1 E5 fin J7 G4 O2 L3 P2 P1
theorem rW (r na:Nar) (F:Fine na) (S:Lens na) (hz:(l8 na).2=0) (hR:Right na) (he:Qn r=DI (L0 (B5 na) (G6 na)) na) (C0 Z:G3) (hZ:Z.length=4) (hZm:Es Z=false) (hstl:r.steps.length<=1000) (fr:Fr) (h:AH) (B0:List (List AV)) (hB0:h.boxes=C0::Z::(HU r na).cells::B0) (hl:fr.length=83) (h3:A0 fr 3=.ptr 1 0) (h5:A0 fr 5=.ptr 2 0) (h27:A0 fr 27=sl r.sm 7 (r.steps.map El)) (h28:A0 fr 28=.int .i64 r.steps.length) (h29:A0 fr 29=.int .i64 0) :
  B7 (lp (A2 (K8 Q) (D6 j6) V9) (fr,h)) λe C4 h'=>Kp V9.wr fr C4/\((e=.exit 0/\Yl (λme i=>Pt (true,true) r na me (Qi r.roles me) i) 0 r.steps=(0,gt,0)/\∃B,h'.boxes=C0::Z::(HU r na).cells::B)\/(e=.ret/\∃(x:Int×Tm×Int) (t:Tm),bN (Yl (λme i=>Pt (true,true) r na me (Qi r.roles me) i) 0 r.steps)=bN x/\E3 t=E3 x.2.1/\A0 C4 2=.int .i64 x.1/\A0 C4 4=.int .i64 x.2.2/\∃B,h'.boxes=C0::(B9 t).cells::(HU r na).cells::B)):=by
 refine B4 rfl fr (λn fr h'=>∃(i:Nat),i+n=r.steps.length/\A0 fr 29=.int .i64 (i:Nat)/\(∃B,h'.boxes=C0::Z::(HU r na).cells::B)/\Yl (λme i=>Pt (true,true) r na me (Qi r.roles me) i) i (r.steps.drop i)=Yl (λme i=>Pt (true,true) r na me (Qi r.roles me) i) 0 r.steps) ?_ r.steps.length h ⟨0,by omega,h29,⟨_,hB0⟩,rfl⟩;rintro J Φ hJ hΦ n D5 H1 K ⟨i,hi,k29,hr⟩;have A6:=K.1.trans hl;have k3:=A8 K 3 h3;have k5:=A8 K 5 h5;have k27:=A8 K 27 h27;have k28:=A8 K 28 h28;clear K;by_cases A7:i<r.steps.length
 .have L4:=C6 i (by omega);obtain⟨⟨B,hB⟩,hr⟩:=hr;obtain⟨bx,fams⟩:=H1;simp only at hB;subst hB;have sb:=Bu r na;have hx:=G2 (f:=El) (A0Q A7);have KI:=A0g A7;rw[A0o A7,Yl]at hr;obtain⟨hmA,hmS⟩:=fC hR he KI;obtain⟨hsm,-⟩:=LN hR.nar he;obtain⟨e2,e3,e5⟩:=JS he;have hrl:=hsm.roles;have hfr:r.steps[i].frm∈r.roles:=by
   have hm:Oz r.steps[i]∈na.steps.map (Ek (L0 (B5 na) (G6 na))):=by rw[←(BE he).2.2.2.2.1];exact A0b KI
   obtain⟨s',hs',e⟩:=A0Y.1 hm;unfold Oz Ek at e;injection e with e _ _ _
   rw[←e,e2];exact(QK (hR.steps s' hs')).1
  generalize r.steps[i]=s at *
  obtain⟨x1,x2⟩:=VO hfr;have hrole:=ft r na hrl s.frm;rw[x2]at hrole;obtain⟨mk,hK⟩:=US r na F S hz hsm e2 (Qi r.roles s.frm) s.frm x1 i (by omega);have Ds:∀x∈Pt (true,true) r na s.frm (Qi r.roles s.frm) i,GoodT x:=λx hx=>by
   obtain⟨h1,h2⟩:=RQ hR he (by rw[←e2];exact hfr) hx;exact h1.good h2
  have Do:=UH (m:=(true,true)) (me:=s.frm) (role:=Qi r.roles s.frm) (q:=i) hsm;generalize Tp:Pt (true,true) r na s.frm (Qi r.roles s.frm) i=kk at *
  have hD:=cA mk kk s.msg Ds (hmA.good hmS) (by omega);obtain⟨R,mr,hSub,hSet,hRl⟩:=Vs (true,true) [s.msg] (by simp only[Tm.sizes];omega);rw[show A4 [s.msg]=[B9 s.msg] from rfl]at hSub;simp only[Tm.sizes]at hRl;have hRg:=tg hSet hmA hmS;have hse:=Wj (k:=kk) (k':=kk) rfl (i:Int) (Wi hSet rfl);generalize hd:s7 kk s.msg=d at *
  obtain⟨de,db⟩:=d;simp only at hD hr;by_cases hde:de=0
  .subst hde;rw[if_neg (by simp)]at hr;cases db with
   |true =>
    simp only[if_true]at hr;simp[V9,A6,k5,k27,k28,k29,A7,L4,sb,hx,hrole,hK,hD];exact E9 hJ ⟨i+1,by omega,by simp[A6],⟨B++[(El s).cells],by rw[sb];simp⟩,hr⟩
   |false =>
    simp only[A0x,if_false]at hr;simp[V9,A6,k5,k27,k28,k29,A7,sb,hx,hrole,hK,hD,A5,hSub];refine B7.mono (rV R kk mr mk (by omega) (λx hx=>by obtain⟨h1,h2⟩:=hRg x hx;exact⟨h1.good h2,by omega⟩) Ds Do (i:Int) C0 Z (HU r na).cells hZ hZm _ _ (B++[(El s).cells]) ?_ ?_ ?_ ?_ ?_ ?_ ?_ ?_) ?_<;>first|(simp[A6,k3,sb];done)|skip
    rintro e R1 ⟨bx2,F2⟩ ⟨K,⟨rfl,hn,B2,hB2⟩|⟨rfl,a,c,t,t',hso,het,l2,l4,B2,hB2⟩⟩
    .simp only at hB2;subst hB2;have CK:R1.length=83:=K.1.trans (by simp[A6]);have k29':A0 R1 29=.int .i64 (i:Nat):=A8 K 29 (by simp[k29]);have k3':A0 R1 3=.ptr 1 0:=A8 K 3 (by simp[k3]);have k5':A0 R1 5=.ptr 2 0:=A8 K 5 (by simp[k5]);have k27':=A8 K 27 (by simp[k27]:_=sl r.sm 7 (r.steps.map El));have k28':=A8 K 28 (by simp[k28]:_=AV.int .i64 r.steps.length);clear K;rw[hn]at hse;have hnone:Nr kk (i:Int) (Ud s.msg)=none:=by
      cases hq:Nr kk (i:Int) (Ud s.msg)with
      |none=>rfl
      |some x=>rw[hq]at hse;simp at hse
     rw[hnone]at hr;simp only at hr;simp[CK,k29',L4];exact E9 hJ ⟨i+1,by omega,by simp[CK],⟨B2,rfl⟩,hr⟩
    .simp only at hB2;subst hB2;rw[hso]at hse;obtain⟨y,hy,hye⟩:∃y,Nr kk (i:Int) (Ud s.msg)=some y/\bN (a,t',c)=bN y:=by
      cases hq:Nr kk (i:Int) (Ud s.msg)with
      |none=>rw[hq]at hse;simp at hse
      |some y=>rw[hq]at hse;exact⟨y,rfl,by simpa using hse⟩
     rw[hy]at hr;simp only at hr;simp;exact hΦ _ _ _ (.inr ⟨rfl,(a,t',c),t,by rw[←hr,hye],het,l2,l4,B2,by simp⟩)
  .rw[if_pos hde]at hr;have hZd:Z.drop 4=[]:=A0d (by omega);simp[V9,A6,k3,k5,k27,k28,k29,A7,sb,hx,hrole,hK,hD,hde,D2,E6,hZ,hZm,M5];refine hΦ _ _ _ (.inr ⟨rfl,(0,gt,de),gt,by rw[←hr],rfl,by simp[A6],by simp[A6],B++[(El s).cells],?_⟩);simp[gt,Tm.kind,Tm.name,Tm.sort,Tm.cm,Tm.kids,A4,hZd,sb];exact Il 4
 .obtain⟨⟨B,hB⟩,hr⟩:=hr;rw[A0d (by omega),Yl]at hr;simp[V9,A6,k28,k29,A7];exact hΦ _ _ _ (.inl ⟨rfl,hr.symm,B,hB⟩)
noncomputable def UD (n:Nar):Int×Tm×Int :=
 if (l8 n).2≠0 then (0,E3 gt,(l8 n).2)else bN (Yl (λme i=>RP (L0 (B5 n) (G6 n)) n me (Qi n.roles me) i) 0 (n.steps.map (Ek (L0 (B5 n) (G6 n)))))
theorem TZ {f:ByteArray->Int} {n:Nar} {me:J2} {role q:Nat} (hd:Hx n=0) {r:Nar} (he:Qn r=DI f n) (hme:n.roles[role]?=some me):(RP f n me role q).map E3=RP f n me role q:=by
 rw[←OU (m:=(true,true)) hd he hme q,A08];congr 1;funext x;exact eB x
theorem wG {l l':List Ste} {f:ByteArray->Int} (h:l.map Oz=l'.map (Ek f)):l.map Oz=(l'.map (Ek f)).map Oz:=by
 have:=congrArg (List.map Oz) h;rw[←this,A08];congr 1;funext s;simp only[Function.comp,Oz,eB s.msg]
theorem uu {r n:Nar} (hR:Right n) (he:Qn r=DI (L0 (B5 n) (G6 n)) n) (kf:ByteArray->Nat->List Tm) (hk:∀me∈n.roles,∀q,(kf me q).map E3=RP (L0 (B5 n) (G6 n)) n me (Qi n.roles me) q):bN (Yl kf 0 r.steps)=bN (Yl (λme i=>RP (L0 (B5 n) (G6 n)) n me (Qi n.roles me) i) 0 (n.steps.map (Ek (L0 (B5 n) (G6 n))))):=by
 refine qp 0 (λs hs j _=>?_) (wG (BE he).2.2.2.2.1);have hm:Oz s∈n.steps.map (Ek (L0 (B5 n) (G6 n))):=by rw[←(BE he).2.2.2.2.1];exact A0b hs
 obtain⟨s',hs',e⟩:=A0Y.1 hm;unfold Oz Ek at e;injection e with e _ _ _
 have hfr:s.frm∈n.roles:=by rw[←e];exact(QK (hR.steps s' hs')).1
 rw[hk s.frm hfr j,TZ hR.dec he (VO hfr).1]
theorem lS (n:Nar) (F:Fine n) (S:Lens n):∃t,pc Q j6 [G8 n]=some (.tup [.int .i64 (UD n).1,B9 t,.int .i64 (UD n).2.2])/\E3 t=(UD n).2.1:=by
 suffices hq:∃v,pc Q j6 [G8 n]=some v/\∃t,v=.tup [.int .i64 (UD n).1,B9 t,.int .i64 (UD n).2.2]/\E3 t=(UD n).2.1 by
  obtain⟨v,h1,t,rfl,h2⟩:=hq;exact⟨t,h1,h2⟩
 obtain⟨r,hO,hE⟩:=cO n F S;have nb:=E7 n;have sb:=Bu r n;have hz4:B9 gt=.agg [.int .i64 0,.str (bs []),.int .i64 0,.vs true 0 []]:=by rw[Il 4];rfl
 by_cases h1:(l8 n).2=0
 .have he:=hE h1;obtain⟨-,hR⟩:=JE h1;obtain⟨hsm,-⟩:=LN hR.nar he;obtain⟨e2,-,-⟩:=JS he;rw[h1]at hO;have hX:UD n=bN (Yl (λme i=>Pt (true,true) r n me (Qi r.roles me) i) 0 r.steps):=by
   unfold UD;rw[if_neg (by simp[h1])];refine(uu hR he _ λme hme q=>?_).symm;rw[e2];exact OU hR.dec he (VO hme).1 q
  rw[hX];refine GU Ar λΨ hΨ fr hl h0=>?_;simp[Ar]at hl h0;simp[Ar,hl,h0,nb,sb,hO];refine B7.mono (rW r n F S h1 hR he (G8 n).cells [.int .i64 0,.str (bs []),.int .i64 0,.vs true 0 []] rfl rfl hsm.steps _ _ [] ?_ ?_ ?_ ?_ ?_ ?_ ?_) ?_<;>first|(simp[hl,nb,sb];done)|skip
  rintro e D5 ⟨bx,F1⟩ ⟨K,⟨rfl,hn,B2,hB2⟩|⟨rfl,x,t,hx,het,l2,l4,B2,hB2⟩⟩
  .simp only at hB2;subst hB2;have A6:D5.length=83:=K.1.trans (by simp[hl]);have k3':A0 D5 3=.ptr 1 0:=A8 K 3 (by simp[hl]);rw[hn]at hΨ;simp[A6,k3',D2,E6,M5];exact hΨ _ ⟨gt,by rw[hz4];rfl,rfl⟩
  .simp only at hB2;subst hB2;have A6:D5.length=83:=K.1.trans (by simp[hl]);have k3':A0 D5 3=.ptr 1 0:=A8 K 3 (by simp[hl]);rw[hx]at hΨ;simp[l2,l4,k3'];exact hΨ _ ⟨t,rfl,het⟩
 .have hX:UD n=(0,E3 gt,(l8 n).2):=by unfold UD;rw[if_pos h1]
  rw[hX];generalize (l8 n).2=e at *
  have P0:=h1;refine GU Ar λΨ hΨ fr hl h0=>?_;simp[Ar]at hl h0;simp[Ar,hl,h0,nb,sb,hO,P0,D2,E6,M5];exact hΨ _ ⟨gt,by rw[hz4];rfl,rfl⟩
end Go.Abs.Q
namespace Go.Abs
def dR (L:Nat) (wr:Bool) (sz:Nat) (xs:List AV) (v:AV) (h:AH):Prop:=(xs.length<=1/\∃b,v=sl (true,b) sz xs)\/(xs≠[]/\∃k,L<=k/\v=.sl k xs.length 0 xs.length/\h.fams[k]?=some ⟨xs,sz,wr⟩)
theorem dR.a {L:Nat} {wr:Bool} {sz:Nat} {xs:G3} {v:AV} {h:AH} (hg:dR L wr sz xs v h):KL wr sz xs v h:=by
 rcases hg with hg|⟨h1,k,_,h2,h3⟩
 .exact .inl hg.2
 .exact .inr ⟨h1,k,h2,h3⟩
theorem Qq {L:Nat} {wr:Bool} {sz:Nat} {xs:G3} {v:AV} {h h':AH} (hg:dR L wr sz xs v h) (e:h'.fams=h.fams):dR L wr sz xs v h':=by
 rcases hg with hg|⟨h1,k,h0,h2,h3⟩
 .exact .inl hg
 .exact .inr ⟨h1,k,h0,h2,by rw[e];exact h3⟩
theorem dR.mono {L L':Nat} {wr:Bool} {sz:Nat} {xs:G3} {v:AV} {h:AH} (hg:dR L wr sz xs v h) (hL:L'<=L):dR L' wr sz xs v h:=by
 rcases hg with hg|⟨h1,k,h0,h2,h3⟩
 .exact .inl hg
 .exact .inr ⟨h1,k,by omega,h2,h3⟩
theorem wx {L:Nat} {wr:Bool} {sz:Nat} {xs:G3} {v:AV} {h h':AH} (hg:dR L wr sz xs v h) (e:∀j,j<h.fams.length->h'.fams[j]?=h.fams[j]?):dR L wr sz xs v h':=by
 rcases hg with hg|⟨h1,k,h0,h2,h3⟩
 .exact .inl hg
 .exact .inr ⟨h1,k,h0,h2,by rw[e _ (A0p.1 h3).1];exact h3⟩
theorem uM {c:Ctx} {L sz bytes:Nat} {xs ys:G3} {v x:AV} {h:AH} (hL:L<=h.fams.length) (hg:dR L c.mutApp sz xs v h) (hx:AR h sz x=some ys) (hb:(xs.length+ys.length)*bytes<=H2/\xs.length+ys.length<=maxLen) :
  ∃v' F',K1 c h sz bytes v x=some (v',⟨h.boxes,F'⟩)/\dR L c.mutApp sz (xs++ys) v' ⟨h.boxes,F'⟩/\L<=F'.length/\∀j,j<L->F'[j]?=h.fams[j]?:=by
 rcases hg with ⟨hx1,b,rfl⟩|⟨P0,k,hk0,rfl,hk⟩
 .simp only[sl,K1,hx];by_cases hy:ys.length=0
  .rw[if_pos hy];have:ys=[]:=A0T hy;subst this;exact⟨_,h.fams,rfl,.inl ⟨by simpa using hx1,b,by simp[sl]⟩,hL,λ_ _=>rfl⟩
  .rw[if_neg hy];have hc:((if (xs.isEmpty&&!b)=true then 0 else sz)=sz\/xs.length=0)/\(xs.length+ys.length)*bytes<=H2/\xs.length+ys.length<=maxLen:=by
    refine⟨?_,hb⟩;cases xs with
    |nil=>exact .inr rfl
    |cons a l=>exact .inl rfl
   rw[if_pos hc];refine⟨_,_,rfl,.inr ⟨by intro e;rw[A0s]at e;rw[e.2]at hy;exact hy rfl,h.fams.length,hL,by rw[A0S],by simp⟩,by simp;omega,λj hj=>List.getElem?_append_left (by omega)⟩
 .simp only[K1,hx,hk];rw[if_pos ⟨trivial,trivial,by omega,hb.1,hb.2⟩];have Do:=(A0p.1 hk).1;refine⟨_,_,rfl,.inr ⟨by intro e;rw[A0s]at e;exact P0 e.1,k,hk0,by rw[A0S],by simp[Do]⟩,by simpa using hL,λj hj=>?_⟩;exact List.getElem?_set_ne (by omega)
end Go.Abs
namespace Go.Abs.Q
open Go.Proofs
attribute [local simp] E1 E5 fin J7 G4 O2 L3 P2 P1
noncomputable def OC (k:List Tm):Nat->Tm->List Tm
 |0,_=>[]
 |n+1,t =>
  if AP t (bs [112,97,105,114])=true then OC k n (J9 t 0)++OC k n (J9 t 1)
  else if AP t (bs [115,105,103,110])=true then OC k n (J9 t 0)
  else if AP t (bs [101,110,99])=true then (if (s7 k (J9 t 1)).2=true then OC k n (J9 t 0)else [t])
  else if AP t (bs [97,101,110,99])=true then (if (s7 k (J9 (J9 t 1) 0)).2=true then OC k n (J9 t 0)else if (s7 k (J9 t 0)).2=true then []else [t])
  else if AP t (bs [104,97,115,104])=true then (if (s7 k (J9 t 0)).2=true then []else [t])else []
def ZH (t:Tm):Prop:=∀x∈Cu t,AP x (bs [97,101,110,99])=true->AP (J9 x 1) (bs [112,107])=true
theorem ZH.kid {t x:Tm} (h:ZH t) (hx:x∈t.kids):ZH x:=λy hy=>h y (by
 rw[AD,G0];exact A0a _ (A03.2 ⟨x,hx,hy⟩))
theorem ZH.root {t:Tm} (h:ZH t):AP t (bs [97,101,110,99])=true->AP (J9 t 1) (bs [112,107])=true:=h t (by rw[AD];exact A0R)
theorem cL (m:I7) (k:G7) (t:Tm) (hk:∀x∈k,GoodT x) (ht:GoodT t) (Do:k.length<=1048576):pc Q Kd [sl m 4 (A4 k),B9 t]=some (.bool (s7 k t).2):=by
 have hD:=cA m k t hk ht Do;have hT:(s7 k t).2=true->(s7 k t).1=0:=λh=>(md h).1;generalize s7 k t=d at *
 obtain⟨e,b⟩:=d;simp only at hD hT;cases b with
 |false =>
  refine O9 LB λfr hl h0 h1=>?_;simp[LB]at hl h0 h1;simp[LB,hl,h0,h1,hD]
 |true =>
  have hT0:=hT rfl;subst hT0;refine O9 LB λfr hl h0 h1=>?_;simp[LB]at hl h0 h1;simp[LB,hl,h0,h1,hD]
theorem dg:bs [112,97,105,114]≠bs [115,105,103,110]/\bs [112,97,105,114]≠bs [101,110,99]/\bs [112,97,105,114]≠bs [97,101,110,99]/\bs [112,97,105,114]≠bs [104,97,115,104]/\bs [115,105,103,110]≠bs [112,97,105,114]/\bs [115,105,103,110]≠bs [101,110,99]/\bs [115,105,103,110]≠bs [97,101,110,99]/\bs [115,105,103,110]≠bs [104,97,115,104]/\bs [101,110,99]≠bs [112,97,105,114]/\bs [101,110,99]≠bs [115,105,103,110]/\bs [101,110,99]≠bs [97,101,110,99]/\bs [101,110,99]≠bs [104,97,115,104]/\bs [97,101,110,99]≠bs [112,97,105,114]/\bs [97,101,110,99]≠bs [115,105,103,110]/\bs [97,101,110,99]≠bs [101,110,99]/\bs [97,101,110,99]≠bs [104,97,115,104]/\bs [104,97,115,104]≠bs [112,97,105,114]/\bs [104,97,115,104]≠bs [115,105,103,110]/\bs [104,97,115,104]≠bs [101,110,99]/\bs [104,97,115,104]≠bs [97,101,110,99]:=by decide
theorem pf (m:I7) (k:G7) (hk:∀x∈k,GoodT x) (Do:k.length<=1048576):∀(N:Nat) (t:Tm),t.size<=N->JH t->ZH t->t.size<=40->∀h:AH,
  ∃v h',rc Q R6 [sl m 4 (A4 k),B9 t] h=some (v,h')/\dR h.fams.length true 4 (A4 (OC k N t)) v h'/\(OC k N t).length<=t.size/\(∃B,h'.boxes=h.boxes++B)/\h.fams.length<=h'.fams.length/\∀j,j<h.fams.length->h'.fams[j]?=h.fams[j]?:=by
 intro N
 induction N with
 |zero=>intro t hs;have:=t.size_pos;omega
 |succ N ih0 =>
  intro t hs hA hE h40 h;have ih:∀(t:Tm),t.size<=N->JH t->ZH t->t.size<=40->∀h:AH,∃v F',XQ true h (rc Q R6 [sl m 4 (A4 k),B9 t] h)=some (v,⟨h.boxes,F'⟩)/\dR h.fams.length true 4 (A4 (OC k N t)) v ⟨h.boxes,F'⟩/\(OC k N t).length<=t.size/\h.fams.length<=F'.length/\∀j,j<h.fams.length->F'[j]?=h.fams[j]?:=by
   intro t a b c d h;obtain⟨v,h',e1,e2,e3,e4,e5,e6⟩:=ih0 t a b c d h;exact⟨v,h'.fams,RR e1 (SJ e2.a).2.2.2 e4,e2,e3,e5,e6⟩
  clear ih0;have Bf:=(hA.good h40).ok;have hnil:∀X:AH,dR h.fams.length true 4 (A4 []) (.vs true 0 []) X:=λX=>.inl ⟨by simp,false,rfl⟩;have hone:∀X:AH,dR h.fams.length true 4 (A4 [t]) (sl (true,true) 4 [B9 t]) X:=λX=>.inl ⟨by simp,true,rfl⟩;have hks:=t.kids_size;have hsp:=t.size_pos;by_cases hK:t.kind=3
  .have hname:∀nm,t.name=nm->AP t nm=true:=λnm h=>LI.2 ⟨hK,h⟩;have hname':∀nm,t.name≠nm->AP t nm=false:=λnm h=>by
    cases hq:AP t nm with
    |false=>rfl
    |true=>exact absurd (LI.1 hq).2 h
   by_cases c1:t.name=bs [112,97,105,114]
   .obtain⟨a,b,HH⟩:=X2 Bf (hname _ c1) (.inl rfl);rw[HH]at hks;simp only[Tm.sizes]at hks;have hx0:KN (A4 t.kids) 0=some (B9 a):=by rw[HH];rfl
    have hx1:KN (A4 t.kids) 1=some (B9 b):=by rw[HH];rfl
    have hB:OC k (N+1) t=OC k N a++OC k N b:=by rw[OC,if_pos (hname _ c1),J9,J9,HH];rfl
    rw[hB];have am:a∈t.kids:=by rw[HH];simp
    have bm:b∈t.kids:=by rw[HH];simp
    obtain⟨bx,F⟩:=h;obtain⟨va,Fa,a1,a2,a3,a4,a5⟩:=ih a (by omega) (hA.kid am) (hE.kid am) (by omega) ⟨bx++[(B9 t).cells],F⟩;obtain⟨vb,Fb,b1,b2,b3,b4,b5⟩:=ih b (by omega) (hA.kid bm) (hE.kid bm) (by omega) ⟨bx++[(B9 t).cells],Fa⟩;simp only at a4 a5 b4 b5;have a2':dR F.length true 4 (A4 (OC k N a)) va ⟨bx++[(B9 t).cells],Fb⟩:=wx a2 b5;obtain⟨vc,Fc,p1,p2,p3,p4⟩:=uM (c:=D6 R6) (bytes:=56) (h:=⟨bx++[(B9 t).cells],Fb⟩) (show F.length<=_ by simp only;omega) a2' (mB (b2.mono a4).a _) (by simp only[H2,maxLen,D0,A0U];omega);rw[show A4 (OC k N a)++A4 (OC k N b)=A4 (OC k N a++OC k N b) from by simp[D0]]at p2;simp only at p1;simp only[I1,hK,c1]at a1 b1 p1;refine Hl E8 λfr hl h0 h1=>?_;simp[E8]at hl h0 h1;simp[E8,hl,h0,h1,hK,c1,hx0,hx1,a1,b1,p1];exact⟨Qq p2 rfl,by omega,p3,λj hj=>(p4 j hj).trans ((b5 j (by omega)).trans (a5 j hj))⟩
   by_cases c2:t.name=bs [115,105,103,110]
   .obtain⟨a,b,HH⟩:=X2 Bf (hname _ c2) (.inr (.inr (.inr (.inl rfl))));rw[HH]at hks;simp only[Tm.sizes]at hks;have hx0:KN (A4 t.kids) 0=some (B9 a):=by rw[HH];rfl
    have hB:OC k (N+1) t=OC k N a:=by rw[OC,hname' _ c1,hname _ c2,J9,HH];rfl
    rw[hB];have am:a∈t.kids:=by rw[HH];simp
    obtain⟨bx,F⟩:=h;obtain⟨va,Fa,a1,a2,a3,a4,a5⟩:=ih a (by omega) (hA.kid am) (hE.kid am) (by omega) ⟨bx++[(B9 t).cells],F⟩;simp only at a4 a5;simp only[I1,hK,c2]at a1;refine Hl E8 λfr hl h0 h1=>?_;simp[E8]at hl h0 h1;simp[E8,hl,h0,h1,dg,hK,c2,hx0,a1];exact⟨Qq a2 rfl,by omega,a4,a5⟩
   by_cases c3:t.name=bs [101,110,99]
   .have hag:AV.agg [.int .i64 3,.str (bs [101,110,99]),.int .i64 t.sort,sl t.cm 4 (A4 t.kids)]=B9 t:=by rw[←hK,←c3];cases t;rfl
    obtain⟨a,b,HH⟩:=X2 Bf (hname _ c3) (.inr (.inl rfl));rw[HH]at hks;simp only[Tm.sizes]at hks;have hx0:KN (A4 t.kids) 0=some (B9 a):=by rw[HH];rfl
    have hx1:KN (A4 t.kids) 1=some (B9 b):=by rw[HH];rfl
    have hB:OC k (N+1) t=if (s7 k b).2=true then OC k N a else [t]:=by rw[OC,hname' _ c1,hname' _ c2,hname _ c3,J9,J9,HH];rfl
    rw[hB];have am:a∈t.kids:=by rw[HH];simp
    have bm:b∈t.kids:=by rw[HH];simp
    have hC:=cL m k b hk ((hA.kid bm).good (by omega)) Do;obtain⟨bx,F⟩:=h;obtain⟨va,Fa,a1,a2,a3,a4,a5⟩:=ih a (by omega) (hA.kid am) (hE.kid am) (by omega) ⟨bx++[(B9 t).cells],F⟩;simp only at a4 a5;simp only[I1,hK,c3]at a1;cases hd:(s7 k b).2 with
    |true =>
     rw[hd]at hC;rw[if_pos rfl];refine Hl E8 λfr hl h0 h1=>?_;simp[E8]at hl h0 h1;simp[E8,hl,h0,h1,dg,hK,c3,hx0,hx1,hC,a1];exact⟨Qq a2 rfl,by omega,a4,a5⟩
    |false =>
     rw[hd]at hC;rw[if_neg (by simp)];refine Hl E8 λfr hl h0 h1=>?_;simp[E8]at hl h0 h1;simp[E8,hl,h0,h1,dg,hK,c3,hx1,hC,hag,A5];exact⟨hone _,by omega⟩
   by_cases c4:t.name=bs [97,101,110,99]
   .have hag:AV.agg [.int .i64 3,.str (bs [97,101,110,99]),.int .i64 t.sort,sl t.cm 4 (A4 t.kids)]=B9 t:=by rw[←hK,←c4];cases t;rfl
    obtain⟨a,b,HH⟩:=X2 Bf (hname _ c4) (.inr (.inr (.inl rfl)));rw[HH]at hks;simp only[Tm.sizes]at hks;have am:a∈t.kids:=by rw[HH];simp
    have bm:b∈t.kids:=by rw[HH];simp
    have hb:=hE.root (hname _ c4);rw[show J9 t 1=b from by rw[J9,HH];rfl]at hb;obtain⟨p1,p2⟩:=LI.1 hb;have hbok:=((hA.kid bm).good (by omega)).ok;obtain⟨c,hc⟩:=hbok.one p1 (by rw[p2];exact .inl rfl);have hsz2:=b.kids_size;rw[hc]at hsz2;simp only[Tm.sizes]at hsz2;have hx0:KN (A4 t.kids) 0=some (B9 a):=by rw[HH];rfl
    have hx1:KN (A4 t.kids) 1=some (B9 b):=by rw[HH];rfl
    have hy0:KN (A4 b.kids) 0=some (B9 c):=by rw[hc];rfl
    have hB:OC k (N+1) t=if (s7 k c).2=true then OC k N a else if (s7 k a).2=true then []else [t]:=by rw[OC,hname' _ c1,hname' _ c2,hname' _ c3,hname _ c4,J9,J9,HH,J9];simp only[List.getD_cons_succ,List.getD_cons_zero,hc];rfl
    rw[hB];have hC:=cL m k c hk (((hA.kid bm).kid (by rw[hc];simp)).good (by omega)) Do;have hC2:=cL m k a hk ((hA.kid am).good (by omega)) Do;obtain⟨bx,F⟩:=h;obtain⟨va,Fa,a1,a2,a3,a4,a5⟩:=ih a (by omega) (hA.kid am) (hE.kid am) (by omega) ⟨bx++[(B9 t).cells],F⟩;simp only at a4 a5;simp only[I1,hK,c4]at a1;cases hd:(s7 k c).2 with
    |true =>
     rw[hd]at hC;rw[if_pos rfl];refine Hl E8 λfr hl h0 h1=>?_;simp[E8]at hl h0 h1;simp[E8,hl,h0,h1,dg,hK,c4,hx0,hx1,hy0,hC,a1];exact⟨Qq a2 rfl,by omega,a4,a5⟩
    |false =>
     rw[hd]at hC;rw[if_neg (by simp)];cases hd2:(s7 k a).2 with
     |true =>
      rw[hd2]at hC2;rw[if_pos rfl];refine Hl E8 λfr hl h0 h1=>?_;simp[E8]at hl h0 h1;simp[E8,hl,h0,h1,dg,hK,c4,hx0,hx1,hy0,hC,hC2];exact hnil _
     |false =>
      rw[hd2]at hC2;rw[if_neg (by simp)];refine Hl E8 λfr hl h0 h1=>?_;simp[E8]at hl h0 h1;simp[E8,hl,h0,h1,dg,hK,c4,hx0,hx1,hy0,hC,hC2,hag,A5];exact⟨hone _,by omega⟩
   by_cases c5:t.name=bs [104,97,115,104]
   .have hag:AV.agg [.int .i64 3,.str (bs [104,97,115,104]),.int .i64 t.sort,sl t.cm 4 (A4 t.kids)]=B9 t:=by rw[←hK,←c5];cases t;rfl
    obtain⟨a,HH⟩:=Bf.one hK (by rw[c5];exact .inr (.inl rfl));rw[HH]at hks;simp only[Tm.sizes]at hks;have hx0:KN (A4 t.kids) 0=some (B9 a):=by rw[HH];rfl
    have hB:OC k (N+1) t=if (s7 k a).2=true then []else [t]:=by rw[OC,hname' _ c1,hname' _ c2,hname' _ c3,hname' _ c4,hname _ c5,J9,HH];rfl
    rw[hB];have am:a∈t.kids:=by rw[HH];simp
    have hC:=cL m k a hk ((hA.kid am).good (by omega)) Do;cases hd:(s7 k a).2 with
    |true =>
     rw[hd]at hC;rw[if_pos rfl];refine Hl E8 λfr hl h0 h1=>?_;simp[E8]at hl h0 h1;simp[E8,hl,h0,h1,dg,hK,c5,hx0,hC];exact hnil _
    |false =>
     rw[hd]at hC;rw[if_neg (by simp)];refine Hl E8 λfr hl h0 h1=>?_;simp[E8]at hl h0 h1;simp[E8,hl,h0,h1,dg,hK,c5,hx0,hC,hag,A5];exact⟨hone _,by omega⟩
   have hB:OC k (N+1) t=[]:=by rw[OC,hname' _ c1,hname' _ c2,hname' _ c3,hname' _ c4,hname' _ c5];rfl
   rw[hB];refine Hl E8 λfr hl h0 h1=>?_;simp[E8]at hl h0 h1;simp[E8,hl,h1,hK,c1,c2,c3,c4,c5];exact hnil _
  .obtain⟨bx,F⟩:=h;have hB:OC k (N+1) t=[]:=by
    have hn:∀nm,AP t nm=false:=λnm=>by simp[AP,hK]
    rw[OC];simp[hn]
   rw[hB];refine Hl E8 λfr hl h0 h1=>?_;simp[E8]at hl h0 h1;simp[E8,hl,h1,hK];exact hnil _
end Go.Abs.Q
namespace Go.Abs.Q
open Go.Proofs
attribute [local simp] E1 E5 fin J7 G4 O2 L3 P2 P1
theorem tK (h:AH) (b:Bool) (xs:G3) (hx:xs.length<=1):rc Q D9 [sl (true,b) 4 xs,.fn C3 []] h=some (C5,h):=by
 refine ON (s:=aX 4) rfl rfl ?_;show (if xs.length<=1 then some (C5,h)else none)=_
 rw[if_pos hx]
theorem gG (g:FuncId) (h:AH) (b:Bool) (xs:G3) (hx:xs.length<=1):rc Q D4 [sl (true,b) 4 xs,.fn g []] h=some (sl (true,b) 4 xs,h):=by
 suffices hq:∃v h',rc Q D4 [sl (true,b) 4 xs,.fn g []] h=some (v,h')/\(v=sl (true,b) 4 xs/\h'=h) by
  obtain⟨v,h',h1,rfl,rfl⟩:=hq;exact h1
 have h2:(xs.length:Int)<2:=by omega
 refine Hl I3 λfr hl h0 h1=>?_;simp[I3]at hl h0 h1;simp[I3,hl,h0,h2]
theorem ZN (l:G7) (h:l.length<=1):K7 l l:=by
 refine⟨?_,λ_=>Iff.rfl⟩
 match l,h with
 | [],_=>exact List.Pairwise.nil
 | [a],_=>exact List.pairwise_singleton _ _
theorem rc_sc (g:FuncId) (L:Nat) (l:G7) (v:AV) (B:List (List AV)) (F:List Fam) (hg:dR L true 4 (A4 l) v ⟨B,F⟩) (hcm:∀l':List Tm,(∀x∈l',x∈l)->VZ g l') (J4:∀t∈l,t.size<=1099511627776) (B8:l.length<=1048576) :
  ∃F1 v2 F2 R,XQ true ⟨B,F⟩ (rc Q D9 [v,.fn C3 []] ⟨B,F⟩)=some (C5,⟨B,F1⟩)/\rc Q D4 [v,.fn g []] ⟨B,F1⟩=some (v2,⟨B,F2⟩)/\K7 R l/\(∀x∈R,x∈l)/\R.length<=l.length/\v2.isTup=false/\v2.cells=[v2]/\∃m,DX ⟨B,F2⟩ v2=some (sl m 4 (A4 R)):=by
 rcases hg with ⟨hx,b,rfl⟩|⟨P0,k,hk0,rfl,hk⟩
 .have A6:l.length<=1:=by simpa using hx
  exact⟨F,_,F,l,by rw[tK _ _ _ hx];exact kpB_s _ _,gG _ _ _ _ hx,ZN l A6,λ_ h=>h,A0W _,rfl,rfl,(true,b),rfl⟩
 .have hne':l≠[]:=by rintro rfl;exact P0 rfl
  have Do:=H3 hk;have hlv:(A4 l).length=l.length:=by simp
  obtain⟨l',hp,hsort,hS⟩:=UU k ⟨B,F⟩ l hk hne' J4 (by omega);have hl':l'.length=l.length:=hp.length_eq;have hcm:=hcm l' (λx hx=>hp.mem_iff.1 hx);obtain⟨Z,hZ,hZR,hK⟩:=NJ g l' hcm k ⟨B,F.set k ⟨A4 l',4,true⟩⟩ (by simp only at Do;simp[Do]) (by omega);obtain⟨s1,s2,s3⟩:=Pm l' hsort;rw[hl']at hK hZ;generalize S5 l'=R at *
  simp only[List.set_set]at hK hS Do;have e1:(A4 Z).length=l.length:=by rw[D0,A0U,hZ]
  have e2:(A4 Z).take R.length=A4 R:=by rw[←VW,hZR]
  have e3:R.length<=l.length:=by omega
  rw[hlv];refine⟨_,_,_,R,by rw[hS];exact rK _ _ _,hK,⟨s1.1,λe=>(s1.2 e).trans (by simp only[A0Y,hp.mem_iff])⟩,λx hx=>hp.mem_iff.1 (s2 x hx),e3,rfl,rfl,(false,true),?_⟩;rw[Ld,CS];simp[Do,e1,e2,e3]
theorem fP (a b:Tm) (h:a.size<=1099511627776) (h':b.size<=1099511627776):pc Q BM [B9 a,B9 b]=some (.bool (decide (H6 a b=0))):=by
 have hC:=j7 _ a b (A0W _) h h';refine O9 FM λfr hl h0 h1=>?_;simp[FM]at hl h0 h1;simp[FM,hl,h0,h1,hC]
noncomputable def xH (k:List Tm) (t:Tm):List Tm:=OC k t.size t
theorem xJ (k:G7):∀(N:Nat) (t:Tm),∀x∈OC k N t,x.size<=t.size:=by
 intro N
 induction N with
 |zero=>intro t x hx;exact absurd hx A0q
 |succ N ih =>
  intro t x hx;have hkid:∀i,(J9 t i).size<=t.size:=λi=>by
   unfold J9;rw[A0m];cases h:t.kids[i]? with
   |none=>have:=t.size_pos;simp[gr,Tm.size,Tm.sizes];omega
   |some y=>have h1:=Tm.size_le (A0j h);have h2:=t.kids_size;simp only[Option.getD_some];omega
  have h0:∀i,∀x∈OC k N (J9 t i),x.size<=t.size:=λi x hx=>A09 (ih _ x hx) (hkid i);have h1:∀x∈[t],x.size<=t.size:=λx hx=>by rw[A0y.1 hx];exact A0W _
  have h2:∀x∈([]:List Tm),x.size<=t.size:=λx hx=>absurd hx A0q;rw[OC]at hx
  repeat' split at hx
  all_goals first|exact h0 _ x hx|exact h1 x hx|exact h2 x hx|skip
  rcases A0r.1 hx with hx|hx<;>exact h0 _ x hx
theorem jc (r n:Nar) (F:Fine n) (S:Lens n) (hz:(l8 n).2=0) (hR:Right n) (he:Qn r=DI (L0 (B5 n) (G6 n)) n) (i:Nat) (hi:i<r.steps.length) (hAe:ZH r.steps[i].msg) :
  ∃m R,pc Q Y8 [HU r n,.int .i64 (i:Nat)]=some (sl m 4 (A4 R))/\K7 R (xH (Pt (true,true) r n r.steps[i].to (Qi r.roles r.steps[i].to) (i+1)) r.steps[i].msg)/\Tm.sizes R<=10000/\R.length<=40:=by
 have sb:=Bu r n;have hx:=G2 (f:=El) (A0Q hi);have KI:=A0g hi;obtain⟨hmA,hmS⟩:=fC hR he KI;obtain⟨hsm,-⟩:=LN hR.nar he;obtain⟨e2,e3,e5⟩:=JS he;have hrl:=hsm.roles;have hstl:=hsm.steps;have hto:r.steps[i].to∈r.roles:=by
  have hm:Oz r.steps[i]∈n.steps.map (Ek (L0 (B5 n) (G6 n))):=by rw[←(BE he).2.2.2.2.1];exact A0b KI
  obtain⟨s',hs',e⟩:=A0Y.1 hm;unfold Oz Ek at e;injection e with _ e _ _
  rw[←e,e2];exact(QK (hR.steps s' hs')).2.1
 generalize r.steps[i]=s at *
 obtain⟨x1,x2⟩:=VO hto;have hrole:=ft r n hrl s.to;rw[x2]at hrole;obtain⟨mk,hK⟩:=US r n F S hz hsm e2 (Qi r.roles s.to) s.to x1 (i+1) (by omega);have Ds:∀x∈Pt (true,true) r n s.to (Qi r.roles s.to) (i+1),GoodT x:=λx hx=>by
  obtain⟨h1,h2⟩:=RQ hR he (by rw[←e2];exact hto) hx;exact h1.good h2
 have Do:=UH (m:=(true,true)) (me:=s.to) (role:=Qi r.roles s.to) (q:=i+1) hsm;generalize Tp:Pt (true,true) r n s.to (Qi r.roles s.to) (i+1)=kk at *
 obtain⟨v,h',b1,b2,b3,⟨B,b4⟩,-⟩:=pf mk kk Ds (by omega) _ s.msg (A0W _) hmA hAe hmS ⟨[(HU r n).cells,(El s).cells],[]⟩;have b5:=RR b1 (SJ b2.a).2.2.2 ⟨B,b4⟩;obtain⟨bx,Fb⟩:=h';have J4:∀t∈OC kk s.msg.size s.msg,t.size<=40:=λt ht=>A09 (xJ kk _ _ t ht) hmS;obtain⟨F1,v2,F2,R,c1,c2,c3,c4,c5,c6,c7,m,c8⟩:=rc_sc BM _ _ v [(HU r n).cells,(El s).cells] Fb (Qq b2 rfl) (λl' hl'=>⟨rfl,λa ha b hb=>fP a b (by have:=J4 a (hl' a ha);omega) (by have:=J4 b (hl' b hb);omega)⟩) (λt ht=>by have:=J4 t ht;omega) (by omega)
 suffices hq:∃w,pc Q Y8 [HU r n,.int .i64 (i:Nat)]=some w/\w=sl m 4 (A4 R) by
  obtain⟨w,hw,rfl⟩:=hq;exact⟨m,R,hw,c3,by have:=tT λx hx=>J4 x (c4 x hx);have:R.length*40<=40*40:=Nat.mul_le_mul_right 40 (by omega);omega,by omega⟩
 have hw:=C6 i (by omega);rw[show ((i+1:Nat):Int)=(i:Int)+1 from by omega]at hK;have ss:(El s).cells=[.str s.frm,.str s.to,.int .i64 s.msg.kind,.str s.msg.name,.int .i64 s.msg.sort,sl s.msg.cm 4 (A4 s.msg.kids),.int .i64 s.line]:=by
  show [.str s.frm,.str s.to]++(B9 s.msg).cells++[.int .i64 s.line]=_;rw[I1];rfl
 simp only[sb,ss]at b5 c1 c2 c8;refine Sp HC λΨ hΨ fr hl h0 h1=>?_;simp[HC]at hl h0 h1;simp[HC,hl,h0,h1,sb,hx,hw,hrole,hK,b5,c1,c2,c8];exact hΨ _ rfl
theorem qZ {k k':G7} (hk:k.map E3=k'.map E3):∀(N:Nat) {t t':Tm},E3 t=E3 t'->(OC k N t).map E3=(OC k' N t').map E3:=by
 intro N
 induction N with
 |zero=>intro t t' _;rfl
 |succ N ih =>
  intro t t' h;have hd:∀i,(s7 k (J9 t i)).2=(s7 k' (J9 t' i)).2:=λi=>by rw[SO hk (Et h i)]
  have hd2:(s7 k (J9 (J9 t 1) 0)).2=(s7 k' (J9 (J9 t' 1) 0)).2:=by rw[SO hk (Et (Et h 1) 0)]
  have hone:[t].map E3=[t'].map E3:=by simp[h]
  rw[OC,OC,Lr h,Lr h,Lr h,Lr h,Lr h,hd,hd,hd2];split
  .rw[A0i,A0i,ih (Et h 0),ih (Et h 1)]
  .split
   .exact ih (Et h 0)
   .split
    .split
     .exact ih (Et h 0)
     .exact hone
    .split
     .split
      .exact ih (Et h 0)
      .split
       .rfl
       .exact hone
     .split
      .split
       .rfl
       .exact hone
      .rfl
theorem xI {k k':G7} (hk:k.map E3=k'.map E3) {t t':Tm} (h:E3 t=E3 t'):(xH k t).map E3=(xH k' t').map E3:=by
 have hs:t.size=t'.size:=by rw[←HF _ t (A0W _),←HF _ t' (A0W _),h]
 unfold xH;rw[hs];exact qZ hk _ h
theorem mE {R l l':G7} (h:K7 R l) (e:l.map E3=l'.map E3):K7 R l':=⟨h.1,λx=>by rw[←e];exact h.2 x⟩
theorem lG {α:Type}:∀{a b:List α},a.Nodup->(∀x∈a,x∈b)->a.length<=b.length
 | [],_,_,_=>A02 _
 |x::a,b,hn,hs=>by
  obtain⟨s,t,rfl⟩:=List.append_of_mem (hs x A0R);obtain⟨h1,h2⟩:=A04.1 hn;have:=lG (b:=s++t) h2 λy hy=>by
   have h3:=hs y (A0a _ hy);have P0:y≠x:=λe=>h1 (e ▸ hy);rcases A0r.1 h3 with h|h
   .exact A0u _ h
   .rcases A0w.1 h with h|h
    .exact absurd h P0
    .exact List.mem_append_right _ h
  simp only[A0S,A0Z]at this ⊢;omega
theorem dX {R l:G7} (h:K7 R l):(R.map E3).Nodup:=by
 have h1:=h.1;clear h
 induction R with
 |nil=>exact List.nodup_nil
 |cons a R ih =>
  obtain⟨p,q⟩:=List.pairwise_cons.1 h1;rw[List.map_cons];refine A04.2 ⟨λhm=>?_,ih q⟩;obtain⟨x,hx,e⟩:=A0Y.1 hm;have:=p x hx;rw[V0.2 e.symm]at this;omega
theorem Wn {R l:G7} (h:K7 R l):R.length<=l.length:=by
 have:=lG (dX h) λx hx=>(h.2 x).1 hx;simpa using this
theorem ZK {R l:G7} (h:K7 R l):R=[]↔l=[]:=by
 constructor
 .rintro rfl;cases l with
  |nil=>rfl
  |cons a l=>exact absurd ((h.2 (E3 a)).2 (by simp)) (by simp)
 .rintro rfl;have:=Wn h;exact A0T (by simpa using this)
theorem uc (k:G7) (t:Tm):dn k t<=(alls (k++[t])).length:=by
 unfold dn;split
 .rename_i h;exact Wn h.choose_spec
 .exact A02 _
theorem wo {t t':Tm} (h:ZH t') (e:E3 t=E3 t'):ZH t:=λx hx hi=>by
 obtain⟨y,hy,e1⟩:=bA e hx;rw[Lr (Et e1.symm 1)];exact h y hy (by rw[←Lr e1.symm];exact hi)
theorem gu {t:Tm} (h:AP t (bs [97,101,110,99])=true->AP (J9 t 1) (bs [112,107])=true) (hk:∀x∈t.kids,ZH x):ZH t:=λy hy=>by
 rw[AD,G0]at hy;rcases A0w.1 hy with rfl|hy
 .exact h
 .obtain⟨x,hx,hy⟩:=A03.1 hy;exact hk x hx y hy
theorem Tq (a:J2) (s:Int) (m:I7):ZH (.mk 2 a s m []):=gu (λh=>absurd (LI.1 h).1 (by simp[Tm.kind])) λx hx=>nomatch hx
theorem Pb {nm:J2} {m:I7} {l:G7} (h:nm≠bs [97,101,110,99]) (hl:∀x∈l,ZH x):ZH (.mk 3 nm 0 m l):=gu (λq=>absurd (LI.1 q).2 h) hl
theorem qG (a:J2):ZH (pw a):=Pb (l:=[E3 (Hv a)]) (by decide) (uT (Tq _ _ _))
theorem qF (a:J2):ZH (gq a):=Pb (l:=[pw a]) (by decide) (uT (qG a))
theorem wq (a b:J2):ZH (pu a b):=Pb (l:=[E3 (Hv a),E3 (Hv b)]) (by decide) (az (Tq _ _ _) (Tq _ _ _))
theorem Wt.aeN {ro:ByteArray->Prop} {ok:ByteArray->Int->Prop} {t:Tm} (h:Wt ro ok t):ZH t:=by
 induction h with
 |atom a s h=>exact Tq _ _ _
 |pair x y _ _ ix iy=>exact Pb (by decide) (az ix iy)
 |enc x y _ _ ix iy=>exact Pb (by decide) (az ix iy)
 |hash x _ ix=>exact Pb (by decide) (uT ix)
 |aenc x r _ h ix=>exact gu (λ_=>rfl) (az ix (qF r))
 |sign x r _ h ix=>exact Pb (by decide) (az ix (qG r))
 |pk r h=>exact qF r
 |shk a b h h' _=>exact wq a b
theorem xm {r n:Nar} (hR:Right n) (he:Qn r=DI (L0 (B5 n) (G6 n)) n) {s:Ste} (hs:s∈r.steps):ZH s.msg:=by
 have hm:Oz s∈n.steps.map (Ek (L0 (B5 n) (G6 n))):=by rw[←(BE he).2.2.2.2.1];exact A0b hs
 obtain⟨s',hs',e⟩:=A0Y.1 hm;unfold Oz Ek at e;injection e with _ _ e _
 exact wo (hR.msg hs').1.aeN (by rw[e,eB])
noncomputable def Pl (n:Nar) (i:Nat):List Tm :=
 match (n.steps.map (Ek (L0 (B5 n) (G6 n))))[i]? with
 |some s=>xH (RP (L0 (B5 n) (G6 n)) n s.to (Qi n.roles s.to) (i+1)) s.msg
 |none=>[]
theorem sP (r n:Nar) (F:Fine n) (S:Lens n) (hz:(l8 n).2=0) (hR:Right n) (he:Qn r=DI (L0 (B5 n) (G6 n)) n) (i:Nat) (hi:i<r.steps.length) :
  ∃m R,pc Q Y8 [HU r n,.int .i64 (i:Nat)]=some (sl m 4 (A4 R))/\K7 R (Pl n i)/\Tm.sizes R<=10000/\R.length<=40:=by
 have KI:=A0g hi;obtain⟨m,R,h1,h2,h3,h4⟩:=jc r n F S hz hR he i hi (xm hR he KI);refine⟨m,R,h1,mE h2 ?_,h3,h4⟩;obtain⟨e2,e3,e5⟩:=JS he;have hq:(n.steps.map (Ek (L0 (B5 n) (G6 n))))[i]?=some (Oz r.steps[i]):=by
  rw[←(BE he).2.2.2.2.1,A00,A0Q hi];rfl
 have hto:r.steps[i].to∈n.roles:=by
  obtain⟨s',hs',e⟩:=A0Y.1 (A0j hq);unfold Oz Ek at e;injection e with _ e _ _
  rw[←e];exact(QK (hR.steps s' hs')).2.1
 unfold Pl;rw[hq];simp only[Oz];refine xI ?_ (eB _).symm;rw[e2,TZ hR.dec he (VO hto).1];exact OU hR.dec he (VO hto).1 _
noncomputable def dC (n:Nar):Bool:=decide ((l8 n).2=0)&&(A0v n.steps.length).all λi=>(Pl n i).isEmpty
theorem vO (r na:Nar) (F:Fine na) (S:Lens na) (hz:(l8 na).2=0) (hR:Right na) (he:Qn r=DI (L0 (B5 na) (G6 na)) na) (C0:G3) (hstl:r.steps.length<=1000) (fr:Fr) (h:AH) (B0:List (List AV)) (hB0:h.boxes=C0::(HU r na).cells::B0) (hl:fr.length=26) (h3:A0 fr 3=.ptr 1 0) (h16:A0 fr 16=.int .i64 r.steps.length) (h17:A0 fr 17=.int .i64 0) :
  B7 (lp (A2 (K8 Q) (D6 Jk) Eh) (fr,h)) λe C4 h'=>Kp Eh.wr fr C4/\((e=.exit 0/\(∀j,j<r.steps.length->Pl na j=[]))\/(e=.ret/\A0 C4 2=.bool false/\∃j,j<r.steps.length/\Pl na j≠[])):=by
 refine B4 rfl fr (λn fr h'=>∃(i:Nat),i+n=r.steps.length/\A0 fr 17=.int .i64 (i:Nat)/\(∃B,h'.boxes=C0::(HU r na).cells::B)/\(∀j,j<i->Pl na j=[])) ?_ r.steps.length h ⟨0,by omega,h17,⟨_,hB0⟩,λj h=>absurd h (Nat.not_lt_zero j)⟩;rintro J Φ hJ hΦ n D5 H1 K ⟨i,hi,k17,hr⟩;have A6:=K.1.trans hl;have k3:=A8 K 3 h3;have k16:=A8 K 16 h16;clear K;by_cases A7:i<r.steps.length
 .have L4:=C6 i (by omega);obtain⟨⟨B,hB⟩,hr⟩:=hr;obtain⟨bx,fams⟩:=H1;simp only at hB;subst hB;have sb:=Bu r na;obtain⟨m,R,hb1,hb2,-,hb4⟩:=sP r na F S hz hR he i A7;have hnil:=ZK hb2;cases R with
  |nil =>
   simp[Eh,A6,k3,k16,k17,A7,L4,sb,hb1];exact⟨n-1,by omega,hJ _ _ _ ⟨i+1,by omega,by simp[A6],⟨B,by rw[sb]⟩,λj hj=>by
    rcases Nat.lt_or_eq_of_le (Nat.lt_succ_iff.1 hj)with h|rfl
    .exact hr j h
    .exact hnil.1 rfl⟩⟩
  |cons a R =>
   have M2:(0:Int)<((A4 (a::R)).length:Int):=by simp only[D0,A0U,A0Z];omega
   simp[Eh,A6,k3,k16,k17,A7,sb,hb1];exact hΦ _ _ _ (.inr ⟨rfl,by simp[A6],i,A7,λh=>nomatch hnil.2 h⟩)
 .obtain⟨⟨B,hB⟩,hr⟩:=hr;simp[Eh,A6,k16,k17,A7];exact hΦ _ _ _ (.inl ⟨rfl,λj hj=>hr j (by omega)⟩)
theorem fO (n:Nar) (F:Fine n) (S:Lens n):pc Q Jk [G8 n]=some (.bool (dC n)):=by
 obtain⟨r,hO,hE⟩:=cO n F S;have nb:=E7 n;have sb:=Bu r n;by_cases h1:(l8 n).2=0
 .have he:=hE h1;obtain⟨-,hR⟩:=JE h1;obtain⟨hsm,-⟩:=LN hR.nar he;obtain⟨e2,-,e5⟩:=JS he;have hT:dC n=(A0v n.steps.length).all λi=>(Pl n i).isEmpty:=by unfold dC;simp[h1]
  rw[h1]at hO;rw[hT];refine H5 He λfr hl h0=>?_;simp[He]at hl h0;simp[He,hl,h0,nb,sb,hO];refine B7.mono (vO r n F S h1 hR he (G8 n).cells hsm.steps _ _ [] ?_ ?_ ?_ ?_ ?_) ?_<;>first|(simp[hl,nb,sb];done)|skip
  rintro e D5 ⟨bx,F1⟩ ⟨K,⟨rfl,hn⟩|⟨rfl,l2,j,hj,hn⟩⟩
  .have A6:D5.length=26:=K.1.trans (by simp[hl]);have hA:(A0v n.steps.length).all (λi=>(Pl n i).isEmpty)=true:=by
    rw[A0f];intro i hi;rw[hn i (by rw[e5];exact A0l.1 hi)];rfl
   simp[A6,hA]
  .have hA:(A0v n.steps.length).all (λi=>(Pl n i).isEmpty)=false:=by
    rw[A0z];exact⟨j,A0l.2 (by omega),by simpa using hn⟩
   simp[l2,hA]
 .have hT:dC n=false:=by unfold dC;simp[h1]
  rw[hT];generalize (l8 n).2=e at *
  have P0:=h1;refine H5 He λfr hl h0=>?_;simp[He]at hl h0;simp[He,hl,h0,nb,sb,hO,P0]
def iI (n:Nar) (role step:Int):Int:=if Pk n role step≠0 then Pk n role step else match n.steps[step.toNat]? with
 |some s=>if some s.to=n.roles[role.toNat]? then 0 else 7
 |none=>7
theorem pS (n:Nar) (F:Fine n) (S:Lens n) (role step:Int):∃(m:I7) (l:G7),pc Q Mb [G8 n,.int .i64 role,.int .i64 step]=some (.tup [sl m 4 (A4 l),.int .i64 (iI n role step)])/\(iI n role step=0->K7 l (Pl n step.toNat)/\Tm.sizes l<=10000/\l.length<=40)/\(iI n role step≠0->l=[]):=by
 suffices hq:∃v,pc Q Mb [G8 n,.int .i64 role,.int .i64 step]=some v/\∃(m:Bool×Bool) (l:List Tm),v=.tup [sl m 4 (A4 l),.int .i64 (iI n role step)]/\(iI n role step=0->K7 l (Pl n step.toNat)/\Tm.sizes l<=10000/\l.length<=40)/\(iI n role step≠0->l=[]) by
  obtain⟨v,h1,m,l,rfl,h2⟩:=hq;exact⟨m,l,h1,h2⟩
 obtain⟨r,n',hO,hE⟩:=sN n F S role step;have nb:=E7 n;have sb:=Bu r n';have hz4:sl (true,false) 4 (A4 [])=.vs true 0 []:=rfl;by_cases hat:Pk n role step=0
 .obtain⟨rfl,he⟩:=hE hat;obtain⟨hs0,g1,g2,g3,g4⟩:=Qy hat;obtain⟨-,hR⟩:=JE hs0;obtain⟨hsm,-⟩:=LN hR.nar he;obtain⟨e2,-,e5⟩:=JS he;obtain⟨role,rfl⟩:=A0c g1;obtain⟨step,rfl⟩:=A0c g3;simp only[A0X]at g2 g4 ⊢;rw[hat]at hO;by_cases h2:step=n'.steps.length
  .have hB:iI n' role step=7:=by unfold iI;rw[if_neg (by simp[hat])];simp only[A0X];rw[List.getElem?_eq_none (by omega)]
   rw[hB];obtain rfl:step=r.steps.length:=by omega
   refine fu X7 λΨ hΨ fr hl h0 h1 h2=>?_;simp[X7]at hl h0 h1 h2;simp[X7,hl,h0,h1,h2,nb,sb,hO];exact hΨ _ ⟨(true,false),[],rfl,by simp⟩
  .have h2':¬(step:Int)=r.steps.length:=by omega
   have A7:step<r.steps.length:=by omega
   have hx:=G2 (f:=El) (A0Q A7);have hlr:role<r.roles.length:=by rw[e2];exact g2
   have hy:=G2 (f:=AV.str) (A0Q hlr);have hss:n'.steps[step]?=some (n'.steps[step]'(by omega)):=A0Q _;have hto:(n'.steps[step]'(by omega)).to=r.steps[step].to:=by
    have:=(BE he).2.2.2.2.1;have h3:=congrArg (·[step]?) this;simp only[A00,A0Q A7,hss,A05,Option.some.injEq]at h3;unfold Oz Ek at h3;injection h3 with _ h3 _ _
    exact h3.symm
   have hrr:n'.roles[role]?=some r.roles[role]:=by rw[←e2];exact A0Q hlr
   by_cases h3:r.steps[step].to=r.roles[role]
   .have hB:iI n' role step=0:=by unfold iI;rw[if_neg (by simp[hat])];simp only[A0X];rw[hss];simp only[hto,hrr,h3];rfl
    rw[hB];obtain⟨m,R,hb1,hb2,hb3,hb4⟩:=sP r n' F S hs0 hR he step A7;obtain⟨m',l',hc1,hc2⟩:=aG _ m R (A0W _) (by omega);refine fu X7 λΨ hΨ fr hl h0 h1 h2=>?_;simp[X7]at hl h0 h1 h2;simp[X7,hl,h0,h1,h2,nb,sb,hO,h2',hx,hy,h3,hb1,hc1];refine hΨ _ ⟨m',l',rfl,λ_=>⟨Vb hb2 hc2,?_,?_⟩,λh=>absurd rfl h⟩
    .rw[←RG l',hc2,RG];exact hb3
    .have:=congrArg A01 hc2;rw[E4,E4,A0U,A0U]at this;omega
   .have hB:iI n' role step=7:=by unfold iI;rw[if_neg (by simp[hat])];simp only[A0X];rw[hss];simp only[hto,hrr,Option.some.injEq,h3,if_false]
    rw[hB];refine fu X7 λΨ hΨ fr hl h0 h1 h2=>?_;simp[X7]at hl h0 h1 h2;simp[X7,hl,h0,h1,h2,nb,sb,hO,h2',hx,hy,h3];exact hΨ _ ⟨(true,false),[],rfl,by simp⟩
 .have hB:iI n role step=Pk n role step:=by unfold iI;rw[if_pos hat]
  rw[hB];generalize Pk n role step=e at *
  have P0:=hat;refine fu X7 λΨ hΨ fr hl h0 h1 h2=>?_;simp[X7]at hl h0 h1 h2;simp[X7,hl,h0,h1,h2,nb,sb,hO,P0];exact hΨ _ ⟨(true,false),[],rfl,λh=>absurd h P0,λ_=>rfl⟩
noncomputable def PM (kf:Nat->List Tm) (t:Tm):Nat->Nat->Int×Int
 |_,0=>(0,4)
 |i,c+1=>if (s7 (kf i) t).1≠0 then (0,(s7 (kf i) t).1)else if (s7 (kf i) t).2=true then ((i:Nat),0)else PM kf t (i+1) c
theorem lK {kf kf':Nat->List Tm} {t t':Tm} (h:∀i,(kf i).map E3=(kf' i).map E3) (ht:E3 t=E3 t'):∀(c i:Nat),PM kf t i c=PM kf' t' i c
 |0,_=>rfl
 |c+1,i=>by rw[PM,PM,SO (h i) ht,lK h ht c (i+1)]
theorem vN (L:List Unit) (hL1:L.length<=2000) (r na:Nar) (hL:L.length=r.steps.length+1) (F:Fine na) (S:Lens na) (hz:(l8 na).2=0) (hR:Right na) (he:Qn r=DI (L0 (B5 na) (G6 na)) na) (t:Tm) (ht:GoodT t) (me:J2) (role:Nat) (hme:r.roles[role]?=some me) (C0:G3) (fr:Fr) (h:AH) (B0:List (List AV)) (hB0:h.boxes=C0::(B9 t).cells::(HU r na).cells::B0) (hl:fr.length=45) (h5:A0 fr 5=.ptr 1 0) (h8:A0 fr 8=.ptr 2 0) (h1:A0 fr 1=.int .i64 (role:Nat)) (h26:A0 fr 26=.int .i64 L.length) (h27:A0 fr 27=.int .i64 0) :
  B7 (lp (A2 (K8 Q) (D6 II) BD) (fr,h)) λe C4 h'=>Kp BD.wr fr C4/\((e=.exit 0/\PM (Pt (true,true) r na me role) t 0 L.length=(0,4))\/(e=.ret/\A0 C4 6=.int .i64 (PM (Pt (true,true) r na me role) t 0 L.length).1/\A0 C4 7=.int .i64 (PM (Pt (true,true) r na me role) t 0 L.length).2)):=by
 refine B4 rfl fr (λn fr h'=>∃(i:Nat),i+n=L.length/\A0 fr 27=.int .i64 (i:Nat)/\(∃B,h'.boxes=C0::(B9 t).cells::(HU r na).cells::B)/\PM (Pt (true,true) r na me role) t i (L.length-i)=PM (Pt (true,true) r na me role) t 0 L.length) ?_ L.length h ⟨0,by omega,h27,⟨_,hB0⟩,rfl⟩;rintro J Φ hJ hΦ n D5 H1 K ⟨i,hi,k27,hr⟩;have A6:=K.1.trans hl;have k5:=A8 K 5 h5;have k8:=A8 K 8 h8;have k1:=A8 K 1 h1;have k26:=A8 K 26 h26;clear K;by_cases A7:i<L.length
 .have L4:=C6 i (by omega);obtain⟨⟨B,hB⟩,hr⟩:=hr;obtain⟨bx,fams⟩:=H1;simp only at hB;subst hB;have sb:=Bu r na;obtain⟨hsm,-⟩:=LN hR.nar he;obtain⟨e2,e3,e5⟩:=JS he;obtain⟨mk,hK⟩:=US r na F S hz hsm e2 role me hme i (by omega);have Ds:∀x∈Pt (true,true) r na me role i,GoodT x:=λx hx=>by
   obtain⟨h1,h2⟩:=RQ hR he (by rw[←e2];exact A0j hme) hx;exact h1.good h2
  have Do:=UH (m:=(true,true)) (me:=me) (role:=role) (q:=i) hsm;have hD:=cA mk _ t Ds ht (by omega);rw[show L.length-i=(L.length-(i+1))+1 from by omega,PM]at hr;generalize Pt (true,true) r na me role i=kk at *
  generalize s7 kk t=d at *
  obtain⟨de,db⟩:=d;simp only at hD hr;have ht4:(B9 t).cells=[.int .i64 t.kind,.str t.name,.int .i64 t.sort,sl t.cm 4 (A4 t.kids)]:=I1 t;by_cases hde:de=0
  .subst hde;rw[if_neg (by simp)]at hr;cases db with
   |true =>
    simp only[if_true]at hr;simp[BD,A6,k5,k8,k1,k26,k27,A7,sb,hK,hD];exact hΦ _ _ _ (.inr ⟨rfl,by rw[←hr];simp[A6],by rw[←hr];simp[A6]⟩)
   |false =>
    simp only[A0x,if_false]at hr;simp[BD,A6,k5,k8,k1,k26,k27,A7,L4,sb,hK,hD];exact E9 hJ ⟨i+1,by omega,by simp[A6],⟨B,by rw[sb,I1]⟩,hr⟩
  .rw[if_pos hde]at hr;simp[BD,A6,k5,k8,k1,k26,k27,A7,sb,hK,hD,hde];exact hΦ _ _ _ (.inr ⟨rfl,by rw[←hr];simp[A6],by rw[←hr];simp[A6]⟩)
 .obtain⟨⟨B,hB⟩,hr⟩:=hr;rw[show L.length-i=0 from by omega,PM]at hr;simp[BD,A6,k26,k27,A7];exact hΦ _ _ _ (.inl ⟨rfl,hr.symm⟩)
noncomputable def XX (n:Nar) (role:Int) (t:Tm):Int×Int :=
 if Pk n role 0≠0 then (0,Pk n role 0)else PM (RP (L0 (B5 n) (G6 n)) n (n.roles.getD role.toNat (bs [])) role.toNat) t 0 (n.steps.length+1)
theorem aD (n:Nar) (F:Fine n) (S:Lens n) (role:Int) (t:Tm) (ht:GoodT t):pc Q II [G8 n,.int .i64 role,B9 t]=some (.tup [.int .i64 (XX n role t).1,.int .i64 (XX n role t).2]):=by
 obtain⟨r,n',hO,hE⟩:=sN n F S role 0;have nb:=E7 n;have sb:=Bu r n';by_cases hat:Pk n role 0=0
 .obtain⟨rfl,he⟩:=hE hat;obtain⟨hs0,g1,g2,g3,g4⟩:=Qy hat;obtain⟨-,hR⟩:=JE hs0;obtain⟨hsm,-⟩:=LN hR.nar he;obtain⟨e2,-,e5⟩:=JS he;obtain⟨role,rfl⟩:=A0c g1;simp only[A0X]at g2;have hL:XX n' role t=PM (RP (L0 (B5 n') (G6 n')) n' (n'.roles.getD role (bs [])) role) t 0 (n'.steps.length+1):=by
   unfold XX;rw[if_neg (by simp[hat]),A0X]
  have hme:r.roles[role]?=some (n'.roles.getD role (bs [])):=by
   rw[e2,A0m,A0Q g2];rfl
  have hX:XX n' role t=PM (Pt (true,true) r n' (n'.roles.getD role (bs [])) role) t 0 (A06 (r.steps.length+1) ()).length:=by
   rw[hL,A0h,e5];refine lK (λi=>?_) rfl _ _;have hme':n'.roles[role]?=some (n'.roles.getD role (bs [])):=by have h:=hme;rw[e2]at h;exact h
   rw[TZ hR.dec he hme'];exact(OU hR.dec he hme' _).symm
  rw[hat]at hO;rw[hX];generalize n'.roles.getD role (bs [])=me at *
  have Hg:=hsm.steps;have hw:IntKind.i64.wrap ((r.steps.length:Int)+1)=(r.steps.length:Int)+1:=W2 (by omega) (by omega);refine FX GD λfr hl h0 h1 h2=>?_;simp[GD]at hl h0 h1 h2;simp[GD,hl,h0,h1,h2,nb,sb,hO,hw];refine B7.mono (vN (A06 (r.steps.length+1) ()) (by simp;omega) r n' (by simp) F S hs0 hR he t ht me role hme (G8 n').cells _ _ [] ?_ ?_ ?_ ?_ ?_ ?_ ?_) ?_<;>first|(simp[hl,nb,sb,h1];done)|skip
  rintro e D5 ⟨bx,F1⟩ ⟨K,⟨rfl,hn⟩|⟨rfl,l6,l7⟩⟩
  .have A6:D5.length=45:=K.1.trans (by simp[hl]);simp only[A0h]at hn;simp[A6,hn]
  .simp only[A0h]at l6 l7;simp[l6,l7]
 .have hX:XX n role t=(0,Pk n role 0):=by unfold XX;rw[if_pos hat]
  rw[hX];generalize Pk n role 0=e at *
  have P0:=hat;refine FX GD λfr hl h0 h1 h2=>?_;simp[GD]at hl h0 h1 h2;simp[GD,hl,h0,h1,h2,nb,sb,hO,P0]
end Go.Abs.Q
namespace Go.Abs.Q
open Go.Proofs
theorem vK {S U T:G7} (hS:iB S T) (GJ:∀u∈U,J8 T u=true\/Dj T u=false) {e:Tm} (h:Kn S U e):e∈T.map E3:=by
 induction h with
 |base e h=>exact hS e h
 |step T0 _ u hu hs ih =>
  rcases GJ u hu with h|h
  .exact V1.1 h
  .rw[Th ih hs]at h;cases h
def tN (U T:List Tm):List Tm:=T++U.filter λu=>!J8 T u&&Dj T u
def jz (U:List Tm):Nat->List Tm->List Tm
 |0,T=>T
 |n+1,T=>jz U n (tN U T)
def clsT (U T:List Tm):Bool:=U.all λu=>J8 T u||!Dj T u
theorem wE {S U T:G7} (h:∀e,e∈T.map E3->Kn S U e):∀e,e∈(tN U T).map E3->Kn S U e:=by
 intro e he;unfold tN at he;rw[A0i,A0r]at he;rcases he with he|he
 .exact h e he
 .obtain⟨u,hu,rfl⟩:=A0Y.1 he;obtain⟨h1,h2⟩:=List.mem_filter.1 hu;rw[A0e]at h2;exact Kn.step T h u h1 h2.2
theorem lh {S U:G7}:∀(n:Nat) {T:G7},(∀e,e∈T.map E3->Kn S U e)->∀e,e∈(jz U n T).map E3->Kn S U e
 |0,_,h=>h
 |n+1,_,h=>lh n (wE h)
theorem gM {U:G7}:∀(n:Nat) (T:G7),iB T (jz U n T)
 |0,_,_,h=>h
 |n+1,T,e,h=>gM n (tN U T) e (by unfold tN;rw[A0i];exact A0u _ h)
def iO (k:List Tm) (t:Tm):Bool×Bool :=
 let U:=alls (k++[t])
 let T:=jz U 3 k
 (decide (k.length<=60)&&decide (U.length<=200)&&clsT U T,J8 T t)
open Classical in
theorem Wy {k:G7} {t:Tm} {b:Bool} (h:iO k t=(true,b)):s7 k t=(0,b):=by
 unfold iO at h;simp only[Prod.mk.injEq,A0e,decide_eq_true_eq]at h;obtain⟨⟨⟨h1,h2⟩,h3⟩,h4⟩:=h;unfold s7;rw[if_neg (by have:=uc k t;omega)];congr 1;subst h4;have GJ:∀u∈alls (k++[t]),J8 (jz (alls (k++[t])) 3 k) u=true\/Dj (jz (alls (k++[t])) 3 k) u=false:=λu hu=>by
  have:=A0f.1 h3 u hu;simpa using this
 by_cases hd:WH k t
 .rw[@decide_eq_true _ (Classical.propDecidable _) hd];have:=vK (gM 3 k) GJ hd;exact(V1.2 this).symm
 .rw[@decide_eq_false _ (Classical.propDecidable _) hd];cases hq:J8 (jz (alls (k++[t])) 3 k) t with
  |false=>rfl
  |true=>exact absurd (lh 3 (λe he=>Kn.base e he) _ (V1.1 hq)) hd
end Go.Abs.Q
namespace Go.Abs.Q
open Go.Proofs
attribute [local simp] E1 E5 fin J7 G4 O2 L3 P2 P1
def GV (a:ByteArray):Tm:=.mk 2 a 0 (true,false) []
theorem We (a:J2):pc Q Gd [.str a]=some (B9 (GV a)):=by
 have hA:=Wd a 0;refine H5 Rp λfr hl h0=>?_;simp[Rp]at hl h0;simp[Rp,hl,h0,hA,M5];rfl
def exN (k:Tm):Nar:=⟨bs [80],(true,true),[bs [65],bs [66]],(true,true),[⟨bs [65],bs [110],2⟩,⟨bs [65],bs [107],3⟩],(true,false),[],(true,true),[⟨bs [65],bs [66],Uy (bs [101,110,99]) (false,true) [GV (bs [110]),k],0⟩,⟨bs [66],bs [65],GV (bs [110]),0⟩],(true,false),[]⟩
theorem Xt (k:Tm):pc Q IY [B9 k]=some (G8 (exN k)):=by
 have hR:=We (bs [110]);have hA:=UO (bs [101,110,99]) (true,true) [GV (bs [110]),k] (by simp) (by simp);rw[show A4 [GV (bs [110]),k]=[B9 (GV (bs [110])),B9 k] from rfl]at hA;refine H5 Lz λfr hl h0=>?_;simp[Lz]at hl h0;simp[Lz,hl,h0,hR,hA,A5,D2,E6,M5];rfl
def KW:Nar:=exN (Uy (bs [115,104,107]) (false,true) [GV (bs [65]),GV (bs [66])])
def Nq:Nar:=exN (GV (bs [107]))
def So:Tm:=.mk 2 (bs [110]) 2 (true,false) []
theorem ku:(l8 KW).2=0:=by kernel_rfl
theorem kv:(l8 Nq).2=0:=by kernel_rfl
theorem Pp:Hx KW=0:=by kernel_rfl
theorem bP:Hx Nq=0:=by kernel_rfl
def fN (n:Nar):ByteArray->Int:=L0 (B5 n) (G6 n)
theorem TS:Qn (DI (fN KW) KW)=DI (fN KW) KW:=by kernel_rfl
theorem iR:Qn (DI (fN Nq) Nq)=DI (fN Nq) Nq:=by kernel_rfl
theorem kz (k:Tm) (hk:k.size<=100):Fine (exN k) where
 name:=of_decide_eq_true (by kernel_rfl)
 roles:=of_decide_eq_true (by kernel_rfl)
 rolesL:=of_decide_eq_true (by kernel_rfl)
 fresh:=of_decide_eq_true (by kernel_rfl)
 freshL:=of_decide_eq_true (by kernel_rfl)
 tags:=of_decide_eq_true (by kernel_rfl)
 tagsL:=of_decide_eq_true (by kernel_rfl)
 steps:=by
  intro s hs;rcases A0w.1 hs with rfl|hs
  .refine⟨of_decide_eq_true (by kernel_rfl),of_decide_eq_true (by kernel_rfl),?_⟩;simp only[Uy,GV,Tm.size,Tm.sizes];omega
  .rw[A0y.1 hs];exact⟨of_decide_eq_true (by kernel_rfl),of_decide_eq_true (by kernel_rfl),of_decide_eq_true (by kernel_rfl)⟩
 stepsL:=of_decide_eq_true (by kernel_rfl)
 goals:=λg hg=>nomatch hg
 goalsL:=of_decide_eq_true (by kernel_rfl)
theorem lH (k:Tm):Lens (exN k) where
 names:=of_decide_eq_true (by kernel_rfl)
 steps:=of_decide_eq_true (by kernel_rfl)
 goals:=of_decide_eq_true (by kernel_rfl)
 data:=λg hg=>nomatch hg
theorem dA {n:Nar} (hd:Hx n=0) (he:Qn (DI (fN n) n)=DI (fN n) n) {me:J2} {role i:Nat} {t:Tm} {b:Bool} (hme:n.roles[role]?=some me)
  (h:iO (Pt (true,true) (DI (fN n) n) n me role i) t=(true,b)):s7 (RP (fN n) n me role i) t=(0,b):=by
 rw[SO (k':=Pt (true,true) (DI (fN n) n) n me role i) (by rw[TZ hd he hme];exact(OU hd he hme i).symm) rfl];exact Wy h
theorem iS {kf:ByteArray->Nat->List Tm} {i:Nat} {s:Ste} {l:List Ste} (h:s7 (kf s.frm i) s.msg=(0,true)):Yl kf i (s::l)=Yl kf (i+1) l:=by
 rw[Yl,h];rfl
theorem xX {kf:ByteArray->Nat->List Tm} {i:Nat} {s:Ste} {l:List Ste} (h:s7 (kf s.frm i) s.msg=(0,false)) (ha:alls [s.msg]=[s.msg]):bN (Yl kf i (s::l))=((i:Int),E3 s.msg,13):=by
 have hS:K7 [s.msg] (alls [s.msg]):=by rw[ha];exact ZN _ (A0W _)
 have hs:=Wj (k:=kf s.frm i) (k':=kf s.frm i) rfl (i:Int) (Wi hS rfl);have h1:Nr (kf s.frm i) (i:Int) [s.msg]=some ((i:Int),s.msg,13):=by rw[Nr,h];rfl
 rw[h1]at hs;obtain⟨y,hy,hye⟩:∃y,Nr (kf s.frm i) (i:Int) (Ud s.msg)=some y/\bN ((i:Int),s.msg,(13:Int))=bN y:=by
  cases hq:Nr (kf s.frm i) (i:Int) (Ud s.msg)with
  |none=>rw[hq]at hs;simp at hs
  |some y=>rw[hq]at hs;exact⟨y,rfl,by simpa using hs⟩
 rw[Yl,h,hy];exact hye.symm
theorem ul:UD KW=(0,E3 gt,0):=by
 have q0:s7 (RP (fN KW) KW (bs [65]) 0 0) (CI (fN KW) (Uy (bs [101,110,99]) (false,true) [GV (bs [110]),Uy (bs [115,104,107]) (false,true) [GV (bs [65]),GV (bs [66])]]))=(0,true):=dA Pp TS rfl (by kernel_rfl);have q1:s7 (RP (fN KW) KW (bs [66]) 1 1) (CI (fN KW) (GV (bs [110])))=(0,true):=dA Pp TS rfl (by kernel_rfl);have r0:Qi KW.roles (bs [65])=0:=by kernel_rfl
 have r1:Qi KW.roles (bs [66])=1:=by kernel_rfl
 have q0':s7 (RP (fN KW) KW (bs [65]) (Qi KW.roles (bs [65])) 0) (CI (fN KW) (Uy (bs [101,110,99]) (false,true) [GV (bs [110]),Uy (bs [115,104,107]) (false,true) [GV (bs [65]),GV (bs [66])]]))=(0,true):=by rw[r0];exact q0
 have q1':s7 (RP (fN KW) KW (bs [66]) (Qi KW.roles (bs [66])) 1) (CI (fN KW) (GV (bs [110])))=(0,true):=by rw[r1];exact q1
 unfold UD;rw[if_neg (by rw[ku];simp)];refine(congrArg bN (iS (kf:=λme i=>RP (fN KW) KW me (Qi KW.roles me) i) q0')).trans ?_;refine(congrArg bN (iS (kf:=λme i=>RP (fN KW) KW me (Qi KW.roles me) i) q1')).trans ?_;rfl
theorem ur:UD Nq=(1,E3 So,13):=by
 have q0:s7 (RP (fN Nq) Nq (bs [65]) 0 0) (CI (fN Nq) (Uy (bs [101,110,99]) (false,true) [GV (bs [110]),GV (bs [107])]))=(0,true):=dA bP iR rfl (by kernel_rfl);have q1:s7 (RP (fN Nq) Nq (bs [66]) 1 1) (CI (fN Nq) (GV (bs [110])))=(0,false):=dA bP iR rfl (by kernel_rfl);have r0:Qi Nq.roles (bs [65])=0:=by kernel_rfl
 have r1:Qi Nq.roles (bs [66])=1:=by kernel_rfl
 have q0':s7 (RP (fN Nq) Nq (bs [65]) (Qi Nq.roles (bs [65])) 0) (CI (fN Nq) (Uy (bs [101,110,99]) (false,true) [GV (bs [110]),GV (bs [107])]))=(0,true):=by rw[r0];exact q0
 have q1':s7 (RP (fN Nq) Nq (bs [66]) (Qi Nq.roles (bs [66])) 1) (CI (fN Nq) (GV (bs [110])))=(0,false):=by rw[r1];exact q1
 unfold UD;rw[if_neg (by rw[kv];simp)];refine(congrArg bN (iS (kf:=λme i=>RP (fN Nq) Nq me (Qi Nq.roles me) i) q0')).trans ?_;refine(xX (kf:=λme i=>RP (fN Nq) Nq me (Qi Nq.roles me) i) q1' rfl).trans ?_;have:E3 (CI (fN Nq) (GV (bs [110])))=E3 So:=by kernel_rfl
 exact congrArg (λx=>((1:Int),x,(13:Int))) this
theorem um:XX KW 0 So=(0,0):=by
 have q0:s7 (RP (fN KW) KW (bs [65]) 0 0) So=(0,true):=dA Pp TS rfl (by kernel_rfl);have ha:Pk KW 0 0=0:=by kernel_rfl
 unfold XX;rw[if_neg (by rw[ha];simp)];show PM (RP (fN KW) KW (bs [65]) 0) So 0 3=_;rw[PM,q0];rfl
theorem uo:XX KW 1 So=(1,0):=by
 have q0:s7 (RP (fN KW) KW (bs [66]) 1 0) So=(0,false):=dA Pp TS rfl (by kernel_rfl);have q1:s7 (RP (fN KW) KW (bs [66]) 1 1) So=(0,true):=dA Pp TS rfl (by kernel_rfl);have ha:Pk KW 1 0=0:=by kernel_rfl
 unfold XX;rw[if_neg (by rw[ha];simp)];show PM (RP (fN KW) KW (bs [66]) 1) So 0 3=_;rw[PM,q0,PM,q1];rfl
def uC (k:List Tm):Nat->Tm->Option (List Tm)
 |0,_=>some []
 |n+1,t =>
  if AP t (bs [112,97,105,114])=true then (match uC k n (J9 t 0),uC k n (J9 t 1)with|some a,some b=>some (a++b)|_,_=>none)
  else if AP t (bs [115,105,103,110])=true then uC k n (J9 t 0)
  else if AP t (bs [101,110,99])=true then (if iO k (J9 t 1)=(true,true)then uC k n (J9 t 0)else if iO k (J9 t 1)=(true,false)then some [t]else none)
  else if AP t (bs [97,101,110,99])=true then none
  else if AP t (bs [104,97,115,104])=true then none else some []
theorem Tx {k:G7}:∀(N:Nat) {t:Tm} {l:G7},uC k N t=some l->OC k N t=l
 |0,_,_,h=>by rw[uC]at h;exact Option.some.inj h
 |N+1,t,l,h=>by
  rw[uC]at h;rw[OC];by_cases c1:AP t (bs [112,97,105,114])=true
  .rw[if_pos c1]at h ⊢;cases h1:uC k N (J9 t 0)with
   |none=>rw[h1]at h;cases h
   |some a =>
    cases h2:uC k N (J9 t 1)with
    |none=>rw[h1,h2]at h;cases h
    |some b =>
     rw[h1,h2]at h;rw[Tx N h1,Tx N h2];exact Option.some.inj h
  .rw[if_neg c1]at h ⊢;by_cases c2:AP t (bs [115,105,103,110])=true
   .rw[if_pos c2]at h ⊢;exact Tx N h
   .rw[if_neg c2]at h ⊢;by_cases c3:AP t (bs [101,110,99])=true
    .rw[if_pos c3]at h ⊢;by_cases d1:iO k (J9 t 1)=(true,true)
     .rw[if_pos d1]at h;rw[Wy d1,if_pos rfl];exact Tx N h
     .rw[if_neg d1]at h;by_cases d2:iO k (J9 t 1)=(true,false)
      .rw[if_pos d2]at h;rw[Wy d2,if_neg (by simp)];exact Option.some.inj h
      .rw[if_neg d2]at h;cases h
    .rw[if_neg c3]at h ⊢;by_cases c4:AP t (bs [97,101,110,99])=true
     .rw[if_pos c4]at h;cases h
     .rw[if_neg c4]at h ⊢;by_cases c5:AP t (bs [104,97,115,104])=true
      .rw[if_pos c5]at h;cases h
      .rw[if_neg c5]at h ⊢;exact Option.some.inj h
theorem bD {n:Nar} (hd:Hx n=0) (he:Qn (DI (fN n) n)=DI (fN n) n) {i N:Nat} {s:Ste} (hs:(n.steps.map (Ek (fN n)))[i]?=some s) (hme:n.roles[Qi n.roles s.to]?=some s.to) {l:G7}
  (hN:s.msg.size=N) (h:uC (Pt (true,true) (DI (fN n) n) n s.to (Qi n.roles s.to) (i+1)) N s.msg=some l):(Pl n i).length=l.length:=by
 have h1:=Tx N h;have h2:=congrArg A01 (qZ (k:=RP (fN n) n s.to (Qi n.roles s.to) (i+1)) (k':=Pt (true,true) (DI (fN n) n) n s.to (Qi n.roles s.to) (i+1)) (by rw[TZ hd he hme];exact(OU hd he hme _).symm) N (rfl:E3 s.msg=E3 s.msg));rw[h1,A0U,A0U]at h2;rw[←h2];unfold Pl;change (match (n.steps.map (Ek (fN n)))[i]? with|some s=>_|none=>_:List Tm).length=_
 rw[hs];show (xH _ s.msg).length=_;unfold xH;rw[hN];rfl
theorem xV:(Pl KW 0).length=0:=bD (l:=[]) Pp TS rfl (by kernel_rfl) rfl (by kernel_rfl)
theorem xW:(Pl KW 1).length=0:=bD (l:=[]) Pp TS rfl (by kernel_rfl) rfl (by kernel_rfl)
theorem qo:(Pl Nq 0).length=1:=bD (l:=[CI (fN Nq) (Uy (bs [101,110,99]) (false,true) [GV (bs [110]),GV (bs [107])])]) bP iR rfl (by kernel_rfl) rfl (by kernel_rfl)
theorem uq:dC KW=true:=by
 unfold dC;rw[decide_eq_true ku,A07,A0f];intro i hi;have:=A0l.1 hi;change i<2 at this;have h2:i=0\/i=1:=by omega
 rcases h2 with rfl|rfl
 .rw[A0T xV];rfl
 .rw[A0T xW];rfl
theorem ut:dC Nq=false:=by
 unfold dC;rw[decide_eq_true kv,A07,A0z];refine⟨0,A0l.2 (by decide),?_⟩;have:=qo;cases h:Pl Nq 0 with
 |nil=>rw[h]at this;cases this
 |cons a l=>simp
theorem Zw:GoodT So:=(SG (m:=(true,false)) (a:=bs [110]) (s:=2) ⟨by kernel_rfl,by kernel_rfl⟩ (by omega) (by omega)).good (of_decide_eq_true (by kernel_rfl))
theorem sO:pc Q IA []=some (.bool true):=by
 have a1:=We (bs [65]);have a2:=We (bs [66]);have a3:=We (bs [107]);have a4:=UO (bs [115,104,107]) (true,true) [GV (bs [65]),GV (bs [66])] (by simp) (by simp);rw[show A4 [GV (bs [65]),GV (bs [66])]=[B9 (GV (bs [65])),B9 (GV (bs [66]))] from rfl]at a4;have a5:=Xt (Uy (bs [115,104,107]) (false,true) [GV (bs [65]),GV (bs [66])]);have a6:=Xt (GV (bs [107]));change _=some (G8 KW)at a5;change _=some (G8 Nq)at a6;have a7:=Wd (bs [110]) 2;change _=some (B9 So)at a7;have FA:Fine KW:=kz _ (of_decide_eq_true (by kernel_rfl));have FB:Fine Nq:=kz _ (of_decide_eq_true (by kernel_rfl));have SA:Lens KW:=lH _;have SB:Lens Nq:=lH _;obtain⟨tA,b1,b2⟩:=lS KW FA SA;obtain⟨tB,b3,b4⟩:=lS Nq FB SB;rw[ul]at b1 b2;rw[ur]at b3 b4;have c1:=aD KW FA SA 0 So Zw;have c2:=aD KW FA SA 1 So Zw;rw[um]at c1;rw[uo]at c2;have d1:=fO KW FA SA;have d2:=fO Nq FB SB;rw[uq]at d1;rw[ut]at d2;obtain⟨m,l,e1,e2,-⟩:=pS Nq FB SB 1 0;have hb:iI Nq 1 0=0:=by kernel_rfl
 obtain⟨e3,-,-⟩:=e2 hb;rw[hb]at e1;have A6:l.length=1:=by
  have h1:=Wn e3;have h2:=ZK e3;change l.length<=(Pl Nq 0).length at h1;change l=[]↔Pl Nq 0=[]at h2;have h3:=qo;cases l with
  |nil=>rw[h2.1 rfl]at h3;cases h3
  |cons a l=>simp only[A0Z]at h1 ⊢;omega
 have J4:tB.size<=1099511627776:=by rw[←HF _ tB (A0W _),b4];exact of_decide_eq_true (by kernel_rfl)
 have hS:=cG tB So J4 (of_decide_eq_true (by kernel_rfl));rw[show JK tB So=true from by unfold JK;rw[decide_eq_true_iff,V0,b4]]at hS;have nA:=E7 KW;have nB:=E7 Nq;have tl:(A4 l).length=1:=by rw[D0,A0U];exact A6
 generalize KW=xA at *
 generalize Nq=xB at *
 generalize So=xT at *
 simp only at b1 b3 c1 c2;refine aA WL rfl (by simp[LQ]) λfr hl ha=>?_;clear ha;simp[LQ]at hl ;simp[LQ,hl,a1,a2,a3,a4,a5,a6,a7,b1,b3,c1,c2,d1,d2,e1,hS,nA,nB,tl,A5,M5]
theorem yH (n:Nar) (F:Fine n) (hS:Od n.steps+RK n.goals<=1099511627776):∃b,pc Q RU [G8 n]=some (.bool b):=by
 obtain⟨b,hL⟩:=sd n F hS;have nb:=E7 n;refine⟨b,?_⟩;refine H5 Ro λfr hl h0=>?_;simp[Ro]at hl h0;simp[Ro,hl,h0,nb,hL]
def b8 (i:Int):UInt8:=UInt8.ofNat (IntKind.u8.wrap i).toNat
theorem wn {n:Int} (h0:0<=n) (h1:n<256):IntKind.u8.wrap n=n:=by
 simp only[IntKind.wrap,IntKind.bits,IntKind.signed];simp;omega
theorem iH {i j:Int} (hi:0<=i) (Cw:i<256) (hj:0<=j) (hj':j<256) (h:b8 i=b8 j):i=j:=by
 unfold b8 at h;rw[wn hi Cw,wn hj hj']at h;have:=congrArg UInt8.toNat h;simp only[UInt8.toNat_ofNat']at this;omega
mutual
def Kh:Tm->List UInt8
 | .mk k nm s _ l=>b8 k::b8 s::b8 l.length::(M0 nm++40::(Qm l++[41]))
def Qm:List Tm->List UInt8
 | []=>[]
 |t::l=>Kh t++44::Qm l
end
theorem OK {k s:Int} {nm:J2} {n:Nat} (h:r8 k s nm n=0):(k=1\/k=2\/k=3)/\0<=s/\s<=5/\n<=8/\U3 nm=true:=by
 obtain⟨h1,-,h3,h4⟩:=Gm h;unfold r8 at h;by_cases hc:(k=1\/k=2)/\(s<0\/5<s\/0<n)\/k=3/\s≠0\/(k≠1/\k≠2/\k≠3)
 .rw[if_pos hc]at h;exact absurd h (by decide)
 .refine⟨h3,?_,?_,h4,h1⟩<;>omega
theorem Xe {nm:J2} (h:U3 nm=true):40∉M0 nm:=by
 unfold U3 at h;intro hm;cases hb:M0 nm with
 |nil=>rw[hb]at hm;exact absurd hm A0q
 |cons c r =>
  rw[hb]at h hm;simp only[A0e]at h;have:=(A0f.1 h.2) 40 hm;exact absurd this (by decide)
theorem tZ {a b x y:List UInt8} (ha:40∉a) (hb:40∉b) (h:a++40::x=b++40::y):a=b/\x=y:=by
 induction a generalizing b with
 |nil =>
  cases b with
  |nil=>simpa using h
  |cons c b =>
   simp only[A0k,A0V,List.cons.injEq]at h;exact absurd (by rw[←h.1];exact A0R) hb
 |cons d a ih =>
  cases b with
  |nil =>
   simp only[A0k,A0V,List.cons.injEq]at h;exact absurd (by rw[h.1];exact A0R) ha
  |cons c b =>
   simp only[A0V,List.cons.injEq]at h;obtain⟨rfl,h2⟩:=h;obtain⟨h3,h4⟩:=ih (λk=>ha (A0a _ k)) (λk=>hb (A0a _ k)) h2;exact⟨by rw[h3],h4⟩
theorem yM:∀(n:Nat) (t t':Tm) (r r':List UInt8),t.size<=n->I8 t=0->I8 t'=0->Kh t++r=Kh t'++r'->E3 t=E3 t'/\r=r':=by
 intro n
 induction n with
 |zero=>intro t _ _ _ h;have:=t.size_pos;omega
 |succ n ih =>
  intro t t' r r' hn h1 h2 h;obtain⟨k,nm,s,m,l⟩:=t;obtain⟨k',nm',s',m',l'⟩:=t';have J4:Tm.size (.mk k nm s m l)=1+Tm.sizes l:=rfl;obtain⟨a1,a2⟩:=Q1 h1;obtain⟨b1,b2⟩:=Q1 h2;obtain⟨ka,sa,sa',na,ma⟩:=OK a1;obtain⟨kb,sb,sb',nb,mb⟩:=OK b1;simp only[Kh,A0V,List.cons.injEq,A0n]at h;obtain⟨e1,e2,e3,e4⟩:=h;have hk:=iH (by omega) (by omega) (by omega) (by omega) e1;have hs:=iH (by omega) (by omega) (by omega) (by omega) e2;have hl:=iH (by omega) (by omega) (by omega) (by omega) e3;obtain⟨e5,e6⟩:=tZ (Xe ma) (Xe mb) e4;have hnm:=TM e5;have key:∀(l l':List Tm) (x y:List UInt8),Tm.sizes l<=n->L8 l=0->L8 l'=0->l.length=l'.length->Qm l++x=Qm l'++y->H4 l=H4 l'/\x=y:=by
   intro l
   induction l with
   |nil =>
    intro l' x y _ _ _ hl h;have:l'=[]:=A0T hl.symm;subst this;exact⟨rfl,by simpa[Qm]using h⟩
   |cons a l ihl =>
    intro l' x y J4 h1 h2 hl h;cases l' with
    |nil=>simp at hl
    |cons b l' =>
     simp only[Tm.sizes]at J4;simp only[Qm,A0n,A0V]at h;have q1:=K0 h1;have q2:=K0 h2;obtain⟨g1,g2⟩:=ih a b _ _ (by omega) (q1 a A0R) (q2 b A0R) h;simp only[List.cons.injEq,true_and]at g2;have z1:L8 l=0:=by
      rw[L8]at h1;rw[if_neg (by simp[q1 a A0R])]at h1;exact h1
     have z2:L8 l'=0:=by
      rw[L8]at h2;rw[if_neg (by simp[q2 b A0R])]at h2;exact h2
     obtain⟨g3,g4⟩:=ihl l' x y (by omega) z1 z2 (by simpa using hl) g2;exact⟨by simp only[H4,g1,g3],g4⟩
  obtain⟨g1,g2⟩:=key l l' _ _ (by omega) a2 b2 (by omega) e6;refine⟨by simp only[E3,hk,hnm,hs,g1],?_⟩;simpa using g2
mutual
theorem sy:∀t:Tm,Kh (E3 t)=Kh t
 | .mk k nm s m l=>by rw[E3,Kh,Kh,tE l,E4,A0U]
theorem tE:∀l:List Tm,Qm (H4 l)=Qm l
 | []=>rfl
 |t::l=>by rw[H4,Qm,Qm,sy t,tE l]
end
theorem yL {a b:Tm} (ha:OkT a) (hb:OkT b):Kh a=Kh b↔E3 a=E3 b:=by
 constructor
 .intro h;exact(yM _ a b [] [] (A0W _) (X3 (u7 ha.valid).1).1 (X3 (u7 hb.valid).1).1 (by simpa using h)).1
 .intro h;rw[←sy a,h,sy b]
def Sz (l:List UInt8):ByteArray:=⟨⟨l⟩⟩
theorem vR (s:J2):Sz (M0 s)=s:=TM rfl
theorem fH (l:List UInt8):(Sz l).size=l.length:=by rw[←K3];rfl
theorem Tv {a b:List UInt8} (h:a.length+b.length<=4611686018427387904):G5 .add (.str (Sz a)) (.str (Sz b))=some (.str (Sz (a++b))):=by
 rw[df (by rw[fH,fH];exact h)];congr 2
theorem xD {a:List UInt8} {nm:J2} (h:a.length+nm.size<=4611686018427387904):G5 .add (.str (Sz a)) (.str nm)=some (.str (Sz (a++M0 nm))):=by
 have:=Tv (a:=a) (b:=M0 nm) (by rw[K3];exact h)
 rwa [vR]at this
theorem Zt {nm:J2} (h:U3 nm=true):nm.size<=24:=by
 unfold U3 at h;cases hb:M0 nm with
 |nil=>rw[hb]at h;cases h
 |cons c r =>
  rw[hb]at h;simp only[A0e,decide_eq_true_eq]at h;exact h.1.1
mutual
theorem tC:∀t:Tm,I8 t=0->(Kh t).length+1<=30*t.size
 | .mk k nm s m l,h=>by
  obtain⟨a1,a2⟩:=Q1 h;obtain⟨-,-,-,-,ma⟩:=OK a1;have h1:=Zt ma;have h2:=cg l a2;have h3:=K3 nm;have J4:Tm.size (.mk k nm s m l)=1+Tm.sizes l:=rfl;simp only[Kh,A0Z,A0S,List.length_nil];omega
theorem cg:∀l:List Tm,L8 l=0->(Qm l).length<=30*Tm.sizes l
 | [],_=>A02 _
 |t::l,h=>by
  have q:=K0 h;have h1:=tC t (q t A0R);have z1:L8 l=0:=by
   rw[L8]at h;rw[if_neg (by simp[q t A0R])]at h;exact h
  have h2:=cg l z1;have:=t.size_pos;simp only[Qm,A0S,A0Z,Tm.sizes];omega
end
theorem ig (m:I7) (l:G7) (x0 x1 x2:AV) (hd:List UInt8) (J4:Tm.sizes l<=1048576) (hll:l.length<=1048576) (hhd:hd.length<=1048576) (hv:L8 l=0) (IH:∀t∈l,pc Q AF [B9 t]=some (.str (Sz (Kh t)))) (fr:Fr) (h:AH) (hh:h=⟨[[x0,x1,x2,sl m 4 (A4 l)]],[]⟩) (h3:A0 fr 3=.str (Sz hd)) (hl:fr.length=39) (h1:A0 fr 1=.ptr 0 0) (h4:A0 fr 4=.int .i64 0) :
  B7 (lp (A2 (K8 Q) (D6 AF) FY) (fr,h)) λe C4 h'=>Kp FY.wr fr C4/\(e=.exit 0/\A0 C4 3=.str (Sz (hd++Qm l))):=by
 refine B4 rfl fr (λn fr h'=>∃(i:Nat),i+n=l.length/\A0 fr 4=.int .i64 (i:Nat)/\(h'=⟨[[x0,x1,x2,sl m 4 (A4 l)]],[]⟩/\∃acc,A0 fr 3=.str (Sz acc)/\acc.length<=1048576+30*Tm.sizes (l.take i)/\acc++Qm (l.drop i)=hd++Qm l)) ?_ l.length h ⟨0,by omega,h4,hh,hd,h3,by simp[Tm.sizes,hhd],rfl⟩;rintro J Φ hJ hΦ n D5 H1 K ⟨i,hi,k4,hr⟩;have A6:=K.1.trans hl;have k1:=A8 K 1 h1;clear K;by_cases A7:i<l.length
 .have L4:=C6 i (by omega);obtain⟨rfl,acc,k3,hal,hr⟩:=hr;have KI:=A0g A7;have hx:=H9 A7;have hI:=IH l[i] KI;have hp:=tC l[i] (K0 hv _ KI);have WY:=Tm.size_le KI;rw[A0o A7,Qm]at hr;have Hg:Tm.sizes (l.take (i+1))=Tm.sizes (l.take i)+l[i].size:=by
   rw[←Q5,←Q5,PE A7,A0S,Mn]
  have hsle:Tm.sizes (l.take (i+1))<=Tm.sizes l:=by
   have e:=congrArg A01 (congrArg alls (List.take_append_drop (i+1) l));rw[G0,G0,List.flatMap_append,A0S,←G0,←G0,←G0,Q5,Q5,Q5]at e;omega
  have q1:=Tv (a:=acc) (b:=Kh l[i]) (by omega);have q2:G5 .add (.str (Sz (acc++Kh l[i]))) (.str (bs [44]))=some (.str (Sz (acc++Kh l[i]++[44]))):=Tv (b:=[44]) (by simp only[A0S,A0t];omega);clear hh;generalize l[i]=s at *
  simp[FY,A6,k1,k4,A7,L4,k3,hx,hI,q1,q2];exact E9 hJ ⟨i+1,by omega,by simp[A6],rfl,acc++Kh s++[44],by simp[A6],by simp only[A0S,A0t];omega,by rw[←hr];simp⟩
 .obtain⟨rfl,acc,k3,hal,hr⟩:=hr;rw[A0d (by omega),Qm,List.append_nil]at hr;simp[FY,A6,k1,k4,A7];exact hΦ _ _ _ ⟨rfl,by simp[k3,hr]⟩
theorem cP:∀(n:Nat) (t:Tm),t.size<=n->t.size<=1048576->I8 t=0->pc Q AF [B9 t]=some (.str (Sz (Kh t))):=by
 intro n
 induction n with
 |zero=>intro t h;have:=t.size_pos;omega
 |succ n ih =>
  intro t hn hb Ym;obtain⟨k,nm,s,m,kids⟩:=t;have J4:Tm.size (.mk k nm s m kids)=1+Tm.sizes kids:=rfl;have B8:=Tm.length_le kids;obtain⟨a1,a2⟩:=Q1 Ym;obtain⟨-,-,-,-,ma⟩:=OK a1;have hns:=Zt ma;have hnb:=K3 nm;have hpl:=cg kids a2;have GW:=ig m kids (.int .i64 k) (.str nm) (.int .i64 s) (b8 k::b8 s::b8 kids.length::(M0 nm++[40])) (by omega) (by omega) (by simp;omega) a2 (λt ht=>ih t (by have:=Tm.size_le ht;omega) (by have:=Tm.size_le ht;omega) (K0 a2 t ht));clear ih;have hB:∀h:AH,Su h (sl (true,true) 1 [.int .u8 (IntKind.u8.wrap k),.int .u8 (IntKind.u8.wrap s),.int .u8 (IntKind.u8.wrap kids.length)])=some (.str (Sz [b8 k,b8 s,b8 kids.length]),h):=λh=>by
   simp only[Su,M9,LW,A05];rfl
  have q1:G5 .add (.str (Sz [b8 k,b8 s,b8 kids.length])) (.str nm)=some (.str (Sz ([b8 k,b8 s,b8 kids.length]++M0 nm))):=xD (by simp;omega);have q2:G5 .add (.str (Sz ([b8 k,b8 s,b8 kids.length]++M0 nm))) (.str (bs [40]))=some (.str (Sz (b8 k::b8 s::b8 kids.length::(M0 nm++[40])))):=(Tv (b:=[40]) (by simp;omega)).trans (by simp);have q3:G5 .add (.str (Sz (b8 k::b8 s::b8 kids.length::(M0 nm++[40])++Qm kids))) (.str (bs [41]))=some (.str (Sz (Kh (.mk k nm s m kids)))):=(Tv (b:=[41]) (by simp;omega)).trans (by simp[Kh]);generalize hP:Sz (Kh (.mk k nm s m kids))=P at *
  simp only[A0V,A0k]at q1 q2 q3 GW;refine H5 Oi λfr hl h0=>?_;simp[Oi,B9]at hl h0;simp[Oi,hl,h0,hB,q1,q2,A5];refine B7.mono (GW _ _ ?_ ?_ ?_ ?_ ?_) ?_<;>first|(simp[hl];done)|skip
  rintro e D5 h1 ⟨K,rfl,k3⟩;have A6:D5.length=39:=K.1.trans (by simp[hl]);simp only[A0n,A0V,A0k]at q3;simp[A6,k3,q3]
end Go.Abs.Q
