/- A part of the proof. -/
import Derived.Test.YtohjdamplbhdpaaGreatDoorSK31
import Derived.KernelRfl
set_option linter.all false
open List renaming getElem?_eq_getElem->A0A,length_map->A0B,eq_nil_of_length_eq_zero->A0D,length_replicate->A0F,map_append->A0G,mem_range->A0H,range->A0J,all_eq_true->A0K,length_cons->A0L,mem_map->A0M,mem_append_left->A0N,mem_of_getElem?->A0O,mem_cons->A0P,all_eq_false->A0Q,getElem?_map->A0R,mem_append->A0T,nodup_cons->A0U,replicate->A0V,length->A0X
open Int renaming toNat_natCast->A0C,eq_ofNat_of_zero_le->A0E
open Nat renaming le_refl->A0I,zero_le->A0Y
open Bool renaming and_eq_true->A0S,true_and->A0W
namespace Go.Abs.Q
open Go.Proofs
attribute [local simp] D9 E4 fin I8 G6 P7 M4 R4 R3
theorem kC {k k':I6} (hk:k.map E8=k'.map E8):∀(N:Nat) {t t':Tm},E8 t=E8 t'->(MA k N t).map E8=(MA k' N t').map E8:=by
 intro N
 induction N with
 |zero=>intro t t' _;rfl
 |succ N ih =>
  intro t t' h;have hd:∀i,(d9 k (O8 t i)).2=(d9 k' (O8 t' i)).2:=λi=>by rw[Pm hk (De h i)]
  have hd2:(d9 k (O8 (O8 t 1) 0)).2=(d9 k' (O8 (O8 t' 1) 0)).2:=by rw[Pm hk (De (De h 1) 0)]
  have hone:[t].map E8=[t'].map E8:=by simp[h]
  rw[MA,MA,KF h,KF h,KF h,KF h,KF h,hd,hd,hd2];split
  .rw[A0G,A0G,ih (De h 0),ih (De h 1)]
  .split
   .exact ih (De h 0)
   .split
    .split
     .exact ih (De h 0)
     .exact hone
    .split
     .split
      .exact ih (De h 0)
      .split
       .rfl
       .exact hone
     .split
      .split
       .rfl
       .exact hone
      .rfl
theorem qq {k k':I6} (hk:k.map E8=k'.map E8) {t t':Tm} (h:E8 t=E8 t'):(qp k t).map E8=(qp k' t').map E8:=by
 have hs:t.size=t'.size:=by rw[←Hq _ t (A0I _),←Hq _ t' (A0I _),h]
 unfold qp;rw[hs];exact kC hk _ h
theorem gD {R l l':I6} (h:P8 R l) (e:l.map E8=l'.map E8):P8 R l':=⟨h.1,λx=>by rw[←e];exact h.2 x⟩
theorem fG {α:Type}:∀{a b:List α},a.Nodup->(∀x∈a,x∈b)->a.length<=b.length
 | [],_,_,_=>A0Y _
 |x::a,b,hn,hs=>by
  obtain⟨s,t,rfl⟩:=List.append_of_mem (hs x List.mem_cons_self);obtain⟨h1,h2⟩:=A0U.1 hn;have:=fG (b:=s++t) h2 λy hy=>by
   have h3:=hs y (List.mem_cons_of_mem _ hy);have P1:y≠x:=λe=>h1 (e ▸ hy);rcases A0T.1 h3 with h|h
   .exact A0N _ h
   .rcases A0P.1 h with h|h
    .exact absurd h P1
    .exact List.mem_append_right _ h
  simp only[List.length_append,A0L]at this ⊢;omega
theorem ZH {R l:I6} (h:P8 R l):(R.map E8).Nodup:=by
 have h1:=h.1;clear h
 induction R with
 |nil=>exact List.nodup_nil
 |cons a R ih =>
  obtain⟨p,q⟩:=List.pairwise_cons.1 h1;rw[List.map_cons];refine A0U.2 ⟨λhm=>?_,ih q⟩;obtain⟨x,hx,e⟩:=A0M.1 hm;have:=p x hx;rw[Bz.2 e.symm]at this;omega
theorem Ty {R l:I6} (h:P8 R l):R.length<=l.length:=by
 have:=fG (ZH h) λx hx=>(h.2 x).1 hx;simpa using this
theorem WD {R l:I6} (h:P8 R l):R=[]↔l=[]:=by
 constructor
 .rintro rfl;cases l with
  |nil=>rfl
  |cons a l=>exact absurd ((h.2 (E8 a)).2 (by simp)) (by simp)
 .rintro rfl;have:=Ty h;exact A0D (by simpa using this)
theorem nT (k:I6) (t:Tm):ZP k t<=(alls (k++[t])).length:=by
 unfold ZP;split
 .rename_i h;exact Ty h.choose_spec
 .exact A0Y _
theorem qd {t t':Tm} (h:WA t') (e:E8 t=E8 t'):WA t:=λx hx hi=>by
 obtain⟨y,hy,e1⟩:=XY e hx;rw[KF (De e1.symm 1)];exact h y hy (by rw[←KF e1.symm];exact hi)
theorem cC {t:Tm} (h:Ew t (bs [97,101,110,99])=true->Ew (O8 t 1) (bs [112,107])=true) (hk:∀x∈t.kids,WA x):WA t:=λy hy=>by
 rw[Cp,K6]at hy;rcases A0P.1 hy with rfl|hy
 .exact h
 .obtain⟨x,hx,hy⟩:=List.mem_flatMap.1 hy;exact hk x hx y hy
theorem RA (a:I3) (s:Int) (m:J3):WA (.mk 2 a s m []):=cC (λh=>absurd (MD.1 h).1 (by simp[Tm.kind])) λx hx=>nomatch hx
theorem NQ {nm:I3} {m:J3} {l:I6} (h:nm≠bs [97,101,110,99]) (hl:∀x∈l,WA x):WA (.mk 3 nm 0 m l):=cC (λq=>absurd (MD.1 q).2 h) hl
theorem ji (a:I3):WA (jX a):=NQ (l:=[E8 (GV a)]) (by decide) (nN (RA _ _ _))
theorem jh (a:I3):WA (cA a):=NQ (l:=[jX a]) (by decide) (nN (ji a))
theorem qe (a b:I3):WA (jW a b):=NQ (l:=[E8 (GV a),E8 (GV b)]) (by decide) (XX (RA _ _ _) (RA _ _ _))
theorem Wt.aeN {ro:ByteArray->Prop} {ok:ByteArray->Int->Prop} {t:Tm} (h:Wt ro ok t):WA t:=by
 induction h with
 |atom a s h=>exact RA _ _ _
 |pair x y _ _ ix iy=>exact NQ (by decide) (XX ix iy)
 |enc x y _ _ ix iy=>exact NQ (by decide) (XX ix iy)
 |hash x _ ix=>exact NQ (by decide) (nN ix)
 |aenc x r _ h ix=>exact cC (λ_=>rfl) (XX ix (jh r))
 |sign x r _ h ix=>exact NQ (by decide) (XX ix (ji r))
 |pk r h=>exact jh r
 |shk a b h h' _=>exact qe a b
theorem rZ {r n:Nar} (hR:Right n) (he:Pn r=Cn (J8 (B4 n) (G3 n)) n) {s:Ste} (hs:s∈r.steps):WA s.msg:=by
 have hm:KV s∈n.steps.map (Cd (J8 (B4 n) (G3 n))):=by rw[←(i5 he).2.2.2.2.1];exact List.mem_map_of_mem hs
 obtain⟨s',hs',e⟩:=A0M.1 hm;unfold KV Cd at e;injection e with _ _ e _
 exact qd (hR.msg hs').1.aeN (by rw[e,WL])
noncomputable def NX (n:Nar) (i:Nat):List Tm :=
 match (n.steps.map (Cd (J8 (B4 n) (G3 n))))[i]? with
 |some s=>qp (Pq (J8 (B4 n) (G3 n)) n s.to (OQ n.roles s.to) (i+1)) s.msg
 |none=>[]
theorem li (r n:Nar) (F:Fine n) (S:Lens n) (hz:(Z5 n).2=0) (hR:Right n) (he:Pn r=Cn (J8 (B4 n) (G3 n)) n) (i:Nat) (hi:i<r.steps.length) :
  ∃m R,pc Q W7 [Ee r n,.int .i64 (i:Nat)]=some (sl m 4 (A4 R))/\P8 R (NX n i)/\Tm.sizes R<=10000/\R.length<=40:=by
 have Ow:=List.getElem_mem hi;obtain⟨m,R,h1,h2,h3,h4⟩:=dY r n F S hz hR he i hi (rZ hR he Ow);refine⟨m,R,h1,gD h2 ?_,h3,h4⟩;obtain⟨e2,e3,e5⟩:=Ej he;have hq:(n.steps.map (Cd (J8 (B4 n) (G3 n))))[i]?=some (KV r.steps[i]):=by
  rw[←(i5 he).2.2.2.2.1,A0R,A0A hi];rfl
 have hto:r.steps[i].to∈n.roles:=by
  obtain⟨s',hs',e⟩:=A0M.1 (A0O hq);unfold KV Cd at e;injection e with _ e _ _
  rw[←e];exact(Ny (hR.steps s' hs')).2.1
 unfold NX;rw[hq];simp only[KV];refine qq ?_ (WL _).symm;rw[e2,UX hR.dec he (Se hto).1];exact Oz hR.dec he (Se hto).1 _
noncomputable def Ym (n:Nar):Bool:=decide ((Z5 n).2=0)&&(A0J n.steps.length).all λi=>(NX n i).isEmpty
theorem oe (r na:Nar) (F:Fine na) (S:Lens na) (hz:(Z5 na).2=0) (hR:Right na) (he:Pn r=Cn (J8 (B4 na) (G3 na)) na) (C0:G1) (hstl:r.steps.length<=1000) (fr:Fr) (h:AH) (B0:List (List AV)) (hB0:h.boxes=C0::(Ee r na).cells::B0) (hl:fr.length=26) (h3:A0 fr 3=.ptr 1 0) (h16:A0 fr 16=.int .i64 r.steps.length) (h17:A0 fr 17=.int .i64 0) :
  B9 (lp (A3 (L5 Q) (E5 II) DV) (fr,h)) λe C6 h'=>Kp DV.wr fr C6/\((e=.exit 0/\(∀j,j<r.steps.length->NX na j=[]))\/(e=.ret/\A0 C6 2=.bool false/\∃j,j<r.steps.length/\NX na j≠[])):=by
 refine B5 rfl fr (λn fr h'=>∃(i:Nat),i+n=r.steps.length/\A0 fr 17=.int .i64 (i:Nat)/\(∃B,h'.boxes=C0::(Ee r na).cells::B)/\(∀j,j<i->NX na j=[])) ?_ r.steps.length h ⟨0,by omega,h17,⟨_,hB0⟩,λj h=>absurd h (Nat.not_lt_zero j)⟩;rintro J Φ hJ hΦ n E1 H1 K ⟨i,hi,k17,hr⟩;have A6:=K.1.trans hl;have k3:=A9 K 3 h3;have k16:=A9 K 16 h16;clear K;by_cases A7:i<r.steps.length
 .have Q6:=D1 i (by omega);obtain⟨⟨B,hB⟩,hr⟩:=hr;obtain⟨bx,fams⟩:=H1;simp only at hB;subst hB;have sb:=w8 r na;obtain⟨m,R,hb1,hb2,-,hb4⟩:=li r na F S hz hR he i A7;have hnil:=WD hb2;cases R with
  |nil =>
   simp[DV,A6,k3,k16,k17,A7,Q6,sb,hb1];exact⟨n-1,by omega,hJ _ _ _ ⟨i+1,by omega,by simp[A6],⟨B,by rw[sb]⟩,λj hj=>by
    rcases Nat.lt_or_eq_of_le (Nat.lt_succ_iff.1 hj)with h|rfl
    .exact hr j h
    .exact hnil.1 rfl⟩⟩
  |cons a R =>
   have K1:(0:Int)<((A4 (a::R)).length:Int):=by simp only[D6,A0B,A0L];omega
   simp[DV,A6,k3,k16,k17,A7,sb,hb1];exact hΦ _ _ _ (.inr ⟨rfl,by simp[A6],i,A7,λh=>nomatch hnil.2 h⟩)
 .obtain⟨⟨B,hB⟩,hr⟩:=hr;simp[DV,A6,k16,k17,A7];exact hΦ _ _ _ (.inl ⟨rfl,λj hj=>hr j (by omega)⟩)
theorem aV (n:Nar) (F:Fine n) (S:Lens n):pc Q II [F0 n]=some (.bool (Ym n)):=by
 obtain⟨r,hO,hE⟩:=YT n F S;have nb:=D8 n;have sb:=w8 r n;by_cases h1:(Z5 n).2=0
 .have he:=hE h1;obtain⟨-,hR⟩:=DB h1;obtain⟨hsm,-⟩:=HD hR.nar he;obtain⟨e2,-,e5⟩:=Ej he;have hT:Ym n=(A0J n.steps.length).all λi=>(NX n i).isEmpty:=by unfold Ym;simp[h1]
  rw[h1]at hO;rw[hT];refine M2 GE λfr hl h0=>?_;simp[GE]at hl h0;simp[GE,hl,h0,nb,sb,hO];refine B9.mono (oe r n F S h1 hR he (F0 n).cells hsm.steps _ _ [] ?_ ?_ ?_ ?_ ?_) ?_<;>first|(simp[hl,nb,sb];done)|skip
  rintro e E1 ⟨bx,F1⟩ ⟨K,⟨rfl,hn⟩|⟨rfl,l2,j,hj,hn⟩⟩
  .have A6:E1.length=26:=K.1.trans (by simp[hl]);have hA:(A0J n.steps.length).all (λi=>(NX n i).isEmpty)=true:=by
    rw[A0K];intro i hi;rw[hn i (by rw[e5];exact A0H.1 hi)];rfl
   simp[A6,hA]
  .have hA:(A0J n.steps.length).all (λi=>(NX n i).isEmpty)=false:=by
    rw[A0Q];exact⟨j,A0H.2 (by omega),by simpa using hn⟩
   simp[l2,hA]
 .have hT:Ym n=false:=by unfold Ym;simp[h1]
  rw[hT];generalize (Z5 n).2=e at *
  have P1:=h1;refine M2 GE λfr hl h0=>?_;simp[GE]at hl h0;simp[GE,hl,h0,nb,sb,hO,P1]
def cL (n:Nar) (role step:Int):Int:=if Lz n role step≠0 then Lz n role step else match n.steps[step.toNat]? with
 |some s=>if some s.to=n.roles[role.toNat]? then 0 else 7
 |none=>7
theorem jE (n:Nar) (F:Fine n) (S:Lens n) (role step:Int):∃(m:J3) (l:I6),pc Q Kj [F0 n,.int .i64 role,.int .i64 step]=some (.tup [sl m 4 (A4 l),.int .i64 (cL n role step)])/\(cL n role step=0->P8 l (NX n step.toNat)/\Tm.sizes l<=10000/\l.length<=40)/\(cL n role step≠0->l=[]):=by
 suffices hq:∃v,pc Q Kj [F0 n,.int .i64 role,.int .i64 step]=some v/\∃(m:Bool×Bool) (l:List Tm),v=.tup [sl m 4 (A4 l),.int .i64 (cL n role step)]/\(cL n role step=0->P8 l (NX n step.toNat)/\Tm.sizes l<=10000/\l.length<=40)/\(cL n role step≠0->l=[]) by
  obtain⟨v,h1,m,l,rfl,h2⟩:=hq;exact⟨m,l,h1,h2⟩
 obtain⟨r,n',hO,hE⟩:=aW n F S role step;have nb:=D8 n;have sb:=w8 r n';have hz4:sl (true,false) 4 (A4 [])=.vs true 0 []:=rfl;by_cases hat:Lz n role step=0
 .obtain⟨rfl,he⟩:=hE hat;obtain⟨hs0,g1,g2,g3,g4⟩:=Jm hat;obtain⟨-,hR⟩:=DB hs0;obtain⟨hsm,-⟩:=HD hR.nar he;obtain⟨e2,-,e5⟩:=Ej he;obtain⟨role,rfl⟩:=A0E g1;obtain⟨step,rfl⟩:=A0E g3;simp only[A0C]at g2 g4 ⊢;rw[hat]at hO;by_cases h2:step=n'.steps.length
  .have hB:cL n' role step=7:=by unfold cL;rw[if_neg (by simp[hat])];simp only[A0C];rw[List.getElem?_eq_none (by omega)]
   rw[hB];obtain rfl:step=r.steps.length:=by omega
   refine ay V6 λΨ hΨ fr hl h0 h1 h2=>?_;simp[V6]at hl h0 h1 h2;simp[V6,hl,h0,h1,h2,nb,sb,hO];exact hΨ _ ⟨(true,false),[],rfl,by simp⟩
  .have h2':¬(step:Int)=r.steps.length:=by omega
   have A7:step<r.steps.length:=by omega
   have hx:=G0 (f:=DY) (A0A A7);have hlr:role<r.roles.length:=by rw[e2];exact g2
   have hy:=G0 (f:=AV.str) (A0A hlr);have hss:n'.steps[step]?=some (n'.steps[step]'(by omega)):=A0A _;have hto:(n'.steps[step]'(by omega)).to=r.steps[step].to:=by
    have:=(i5 he).2.2.2.2.1;have h3:=congrArg (·[step]?) this;simp only[A0R,A0A A7,hss,Option.map_some,Option.some.injEq]at h3;unfold KV Cd at h3;injection h3 with _ h3 _ _
    exact h3.symm
   have hrr:n'.roles[role]?=some r.roles[role]:=by rw[←e2];exact A0A hlr
   by_cases h3:r.steps[step].to=r.roles[role]
   .have hB:cL n' role step=0:=by unfold cL;rw[if_neg (by simp[hat])];simp only[A0C];rw[hss];simp only[hto,hrr,h3];rfl
    rw[hB];obtain⟨m,R,hb1,hb2,hb3,hb4⟩:=li r n' F S hs0 hR he step A7;obtain⟨m',l',hc1,hc2⟩:=SX _ m R (A0I _) (by omega);refine ay V6 λΨ hΨ fr hl h0 h1 h2=>?_;simp[V6]at hl h0 h1 h2;simp[V6,hl,h0,h1,h2,nb,sb,hO,h2',hx,hy,h3,hb1,hc1];refine hΨ _ ⟨m',l',rfl,λ_=>⟨Sn hb2 hc2,?_,?_⟩,λh=>absurd rfl h⟩
    .rw[←Jp l',hc2,Jp];exact hb3
    .have:=congrArg A0X hc2;rw[E3,E3,A0B,A0B]at this;omega
   .have hB:cL n' role step=7:=by unfold cL;rw[if_neg (by simp[hat])];simp only[A0C];rw[hss];simp only[hto,hrr,Option.some.injEq,h3,if_false]
    rw[hB];refine ay V6 λΨ hΨ fr hl h0 h1 h2=>?_;simp[V6]at hl h0 h1 h2;simp[V6,hl,h0,h1,h2,nb,sb,hO,h2',hx,hy,h3];exact hΨ _ ⟨(true,false),[],rfl,by simp⟩
 .have hB:cL n role step=Lz n role step:=by unfold cL;rw[if_pos hat]
  rw[hB];generalize Lz n role step=e at *
  have P1:=hat;refine ay V6 λΨ hΨ fr hl h0 h1 h2=>?_;simp[V6]at hl h0 h1 h2;simp[V6,hl,h0,h1,h2,nb,sb,hO,P1];exact hΨ _ ⟨(true,false),[],rfl,λh=>absurd h P1,λ_=>rfl⟩
noncomputable def NH (kf:Nat->List Tm) (t:Tm):Nat->Nat->Int×Int
 |_,0=>(0,4)
 |i,c+1=>if (d9 (kf i) t).1≠0 then (0,(d9 (kf i) t).1)else if (d9 (kf i) t).2=true then ((i:Nat),0)else NH kf t (i+1) c
theorem fK {kf kf':Nat->List Tm} {t t':Tm} (h:∀i,(kf i).map E8=(kf' i).map E8) (ht:E8 t=E8 t'):∀(c i:Nat),NH kf t i c=NH kf' t' i c
 |0,_=>rfl
 |c+1,i=>by rw[NH,NH,Pm (h i) ht,fK h ht c (i+1)]
theorem od (L:List Unit) (hL1:L.length<=2000) (r na:Nar) (hL:L.length=r.steps.length+1) (F:Fine na) (S:Lens na) (hz:(Z5 na).2=0) (hR:Right na) (he:Pn r=Cn (J8 (B4 na) (G3 na)) na) (t:Tm) (ht:GoodT t) (me:I3) (role:Nat) (hme:r.roles[role]?=some me) (C0:G1) (fr:Fr) (h:AH) (B0:List (List AV)) (hB0:h.boxes=C0::(B7 t).cells::(Ee r na).cells::B0) (hl:fr.length=45) (h5:A0 fr 5=.ptr 1 0) (h8:A0 fr 8=.ptr 2 0) (h1:A0 fr 1=.int .i64 (role:Nat)) (h26:A0 fr 26=.int .i64 L.length) (h27:A0 fr 27=.int .i64 0) :
  B9 (lp (A3 (L5 Q) (E5 Gf) AX) (fr,h)) λe C6 h'=>Kp AX.wr fr C6/\((e=.exit 0/\NH (Ni (true,true) r na me role) t 0 L.length=(0,4))\/(e=.ret/\A0 C6 6=.int .i64 (NH (Ni (true,true) r na me role) t 0 L.length).1/\A0 C6 7=.int .i64 (NH (Ni (true,true) r na me role) t 0 L.length).2)):=by
 refine B5 rfl fr (λn fr h'=>∃(i:Nat),i+n=L.length/\A0 fr 27=.int .i64 (i:Nat)/\(∃B,h'.boxes=C0::(B7 t).cells::(Ee r na).cells::B)/\NH (Ni (true,true) r na me role) t i (L.length-i)=NH (Ni (true,true) r na me role) t 0 L.length) ?_ L.length h ⟨0,by omega,h27,⟨_,hB0⟩,rfl⟩;rintro J Φ hJ hΦ n E1 H1 K ⟨i,hi,k27,hr⟩;have A6:=K.1.trans hl;have k5:=A9 K 5 h5;have k8:=A9 K 8 h8;have k1:=A9 K 1 h1;have k26:=A9 K 26 h26;clear K;by_cases A7:i<L.length
 .have Q6:=D1 i (by omega);obtain⟨⟨B,hB⟩,hr⟩:=hr;obtain⟨bx,fams⟩:=H1;simp only at hB;subst hB;have sb:=w8 r na;obtain⟨hsm,-⟩:=HD hR.nar he;obtain⟨e2,e3,e5⟩:=Ej he;obtain⟨mk,hK⟩:=Rj r na F S hz hsm e2 role me hme i (by omega);have Hr:∀x∈Ni (true,true) r na me role i,GoodT x:=λx hx=>by
   obtain⟨h1,h2⟩:=UY hR he (by rw[←e2];exact A0O hme) hx;exact h1.good h2
  have HH:=Xs (m:=(true,true)) (me:=me) (role:=role) (q:=i) hsm;have hD:=YJ mk _ t Hr ht (by omega);rw[show L.length-i=(L.length-(i+1))+1 from by omega,NH]at hr;generalize Ni (true,true) r na me role i=kk at *
  generalize d9 kk t=d at *
  obtain⟨de,db⟩:=d;simp only at hD hr;have ht4:(B7 t).cells=[.int .i64 t.kind,.str t.name,.int .i64 t.sort,sl t.cm 4 (A4 t.kids)]:=L0 t;by_cases hde:de=0
  .subst hde;rw[if_neg (by simp)]at hr;cases db with
   |true =>
    simp only[if_true]at hr;simp[AX,A6,k5,k8,k1,k26,k27,A7,sb,hK,hD];exact hΦ _ _ _ (.inr ⟨rfl,by rw[←hr];simp[A6],by rw[←hr];simp[A6]⟩)
   |false =>
    simp only[Bool.false_eq_true,if_false]at hr;simp[AX,A6,k5,k8,k1,k26,k27,A7,Q6,sb,hK,hD];exact G8 hJ ⟨i+1,by omega,by simp[A6],⟨B,by rw[sb,L0]⟩,hr⟩
  .rw[if_pos hde]at hr;simp[AX,A6,k5,k8,k1,k26,k27,A7,sb,hK,hD,hde];exact hΦ _ _ _ (.inr ⟨rfl,by rw[←hr];simp[A6],by rw[←hr];simp[A6]⟩)
 .obtain⟨⟨B,hB⟩,hr⟩:=hr;rw[show L.length-i=0 from by omega,NH]at hr;simp[AX,A6,k26,k27,A7];exact hΦ _ _ _ (.inl ⟨rfl,hr.symm⟩)
noncomputable def Ue (n:Nar) (role:Int) (t:Tm):Int×Int :=
 if Lz n role 0≠0 then (0,Lz n role 0)else NH (Pq (J8 (B4 n) (G3 n)) n (n.roles.getD role.toNat (bs [])) role.toNat) t 0 (n.steps.length+1)
theorem Wm (n:Nar) (F:Fine n) (S:Lens n) (role:Int) (t:Tm) (ht:GoodT t):pc Q Gf [F0 n,.int .i64 role,B7 t]=some (.tup [.int .i64 (Ue n role t).1,.int .i64 (Ue n role t).2]):=by
 obtain⟨r,n',hO,hE⟩:=aW n F S role 0;have nb:=D8 n;have sb:=w8 r n';by_cases hat:Lz n role 0=0
 .obtain⟨rfl,he⟩:=hE hat;obtain⟨hs0,g1,g2,g3,g4⟩:=Jm hat;obtain⟨-,hR⟩:=DB hs0;obtain⟨hsm,-⟩:=HD hR.nar he;obtain⟨e2,-,e5⟩:=Ej he;obtain⟨role,rfl⟩:=A0E g1;simp only[A0C]at g2;have hL:Ue n' role t=NH (Pq (J8 (B4 n') (G3 n')) n' (n'.roles.getD role (bs [])) role) t 0 (n'.steps.length+1):=by
   unfold Ue;rw[if_neg (by simp[hat]),A0C]
  have hme:r.roles[role]?=some (n'.roles.getD role (bs [])):=by
   rw[e2,List.getD_eq_getElem?_getD,A0A g2];rfl
  have hX:Ue n' role t=NH (Ni (true,true) r n' (n'.roles.getD role (bs [])) role) t 0 (A0V (r.steps.length+1) ()).length:=by
   rw[hL,A0F,e5];refine fK (λi=>?_) rfl _ _;have hme':n'.roles[role]?=some (n'.roles.getD role (bs [])):=by have h:=hme;rw[e2]at h;exact h
   rw[UX hR.dec he hme'];exact(Oz hR.dec he hme' _).symm
  rw[hat]at hO;rw[hX];generalize n'.roles.getD role (bs [])=me at *
  have Gx:=hsm.steps;have hw:IntKind.i64.wrap ((r.steps.length:Int)+1)=(r.steps.length:Int)+1:=U4 (by omega) (by omega);refine Gg Ec λfr hl h0 h1 h2=>?_;simp[Ec]at hl h0 h1 h2;simp[Ec,hl,h0,h1,h2,nb,sb,hO,hw];refine B9.mono (od (A0V (r.steps.length+1) ()) (by simp;omega) r n' (by simp) F S hs0 hR he t ht me role hme (F0 n').cells _ _ [] ?_ ?_ ?_ ?_ ?_ ?_ ?_) ?_<;>first|(simp[hl,nb,sb,h1];done)|skip
  rintro e E1 ⟨bx,F1⟩ ⟨K,⟨rfl,hn⟩|⟨rfl,l6,l7⟩⟩
  .have A6:E1.length=45:=K.1.trans (by simp[hl]);simp only[A0F]at hn;simp[A6,hn]
  .simp only[A0F]at l6 l7;simp[l6,l7]
 .have hX:Ue n role t=(0,Lz n role 0):=by unfold Ue;rw[if_pos hat]
  rw[hX];generalize Lz n role 0=e at *
  have P1:=hat;refine Gg Ec λfr hl h0 h1 h2=>?_;simp[Ec]at hl h0 h1 h2;simp[Ec,hl,h0,h1,h2,nb,sb,hO,P1]
end Go.Abs.Q
namespace Go.Abs.Q
open Go.Proofs
theorem oa {S U T:I6} (hS:gH S T) (GF:∀u∈U,O5 T u=true\/Hi T u=false) {e:Tm} (h:Kn S U e):e∈T.map E8:=by
 induction h with
 |base e h=>exact hS e h
 |step T0 _ u hu hs ih =>
  rcases GF u hu with h|h
  .exact CA.1 h
  .rw[VW ih hs]at h;cases h
def mQ (U T:List Tm):List Tm:=T++U.filter λu=>!O5 T u&&Hi T u
def dz (U:List Tm):Nat->List Tm->List Tm
 |0,T=>T
 |n+1,T=>dz U n (mQ U T)
def yI (U T:List Tm):Bool:=U.all λu=>O5 T u||!Hi T u
theorem pu {S U T:I6} (h:∀e,e∈T.map E8->Kn S U e):∀e,e∈(mQ U T).map E8->Kn S U e:=by
 intro e he;unfold mQ at he;rw[A0G,A0T]at he;rcases he with he|he
 .exact h e he
 .obtain⟨u,hu,rfl⟩:=A0M.1 he;obtain⟨h1,h2⟩:=List.mem_filter.1 hu;rw[A0S]at h2;exact Kn.step T h u h1 h2.2
theorem ff {S U:I6}:∀(n:Nat) {T:I6},(∀e,e∈T.map E8->Kn S U e)->∀e,e∈(dz U n T).map E8->Kn S U e
 |0,_,h=>h
 |n+1,_,h=>ff n (pu h)
theorem bR {U:I6}:∀(n:Nat) (T:I6),gH T (dz U n T)
 |0,_,_,h=>h
 |n+1,T,e,h=>bR n (mQ U T) e (by unfold mQ;rw[A0G];exact A0N _ h)
def cV (k:List Tm) (t:Tm):Bool×Bool :=
 let U:=alls (k++[t])
 let T:=dz U 3 k
 (decide (k.length<=60)&&decide (U.length<=200)&&yI U T,O5 T t)
open Classical in
theorem UK {k:I6} {t:Tm} {b:Bool} (h:cV k t=(true,b)):d9 k t=(0,b):=by
 unfold cV at h;simp only[Prod.mk.injEq,A0S,decide_eq_true_eq]at h;obtain⟨⟨⟨h1,h2⟩,h3⟩,h4⟩:=h;unfold d9;rw[if_neg (by have:=nT k t;omega)];congr 1;subst h4;have GF:∀u∈alls (k++[t]),O5 (dz (alls (k++[t])) 3 k) u=true\/Hi (dz (alls (k++[t])) 3 k) u=false:=λu hu=>by
  have:=A0K.1 h3 u hu;simpa using this
 by_cases hd:TT k t
 .rw[@decide_eq_true _ (Classical.propDecidable _) hd];have:=oa (bR 3 k) GF hd;exact(CA.2 this).symm
 .rw[@decide_eq_false _ (Classical.propDecidable _) hd];cases hq:O5 (dz (alls (k++[t])) 3 k) t with
  |false=>rfl
  |true=>exact absurd (ff 3 (λe he=>Kn.base e he) _ (CA.1 hq)) hd
end Go.Abs.Q
namespace Go.Abs.Q
open Go.Proofs
attribute [local simp] D9 E4 fin I8 G6 P7 M4 R4 R3
def Et (a:ByteArray):Tm:=.mk 2 a 0 (true,false) []
theorem To (a:I3):pc Q FD [.str a]=some (B7 (Et a)):=by
 have hA:=Tn a 0;refine M2 PT λfr hl h0=>?_;simp[PT]at hl h0;simp[PT,hl,h0,hA,L9];rfl
def uh (k:Tm):Nar:=⟨bs [80],(true,true),[bs [65],bs [66]],(true,true),[⟨bs [65],bs [110],2⟩,⟨bs [65],bs [107],3⟩],(true,false),[],(true,true),[⟨bs [65],bs [66],SL (bs [101,110,99]) (false,true) [Et (bs [110]),k],0⟩,⟨bs [66],bs [65],Et (bs [110]),0⟩],(true,false),[]⟩
theorem Uu (k:Tm):pc Q Gz [B7 k]=some (F0 (uh k)):=by
 have hR:=To (bs [110]);have hA:=Re (bs [101,110,99]) (true,true) [Et (bs [110]),k] (by simp) (by simp);rw[show A4 [Et (bs [110]),k]=[B7 (Et (bs [110])),B7 k] from rfl]at hA;refine M2 KK λfr hl h0=>?_;simp[KK]at hl h0;simp[KK,hl,h0,hR,hA,A5,D2,E7,L9];rfl
def Iq:Nar:=uh (SL (bs [115,104,107]) (false,true) [Et (bs [65]),Et (bs [66])])
def Lp:Nar:=uh (Et (bs [107]))
def QG:Tm:=.mk 2 (bs [110]) 2 (true,false) []
theorem eh:(Z5 Iq).2=0:=by kernel_rfl
theorem ek:(Z5 Lp).2=0:=by kernel_rfl
theorem Nb:GY Iq=0:=by kernel_rfl
theorem Xl:GY Lp=0:=by kernel_rfl
def fN (n:Nar):ByteArray->Int:=J8 (B4 n) (G3 n)
theorem Qf:Pn (Cn (fN Iq) Iq)=Cn (fN Iq) Iq:=by kernel_rfl
theorem cY:Pn (Cn (fN Lp) Lp)=Cn (fN Lp) Lp:=by kernel_rfl
theorem eu (k:Tm) (hk:k.size<=100):Fine (uh k) where
 name:=of_decide_eq_true (by kernel_rfl)
 roles:=of_decide_eq_true (by kernel_rfl)
 rolesL:=of_decide_eq_true (by kernel_rfl)
 fresh:=of_decide_eq_true (by kernel_rfl)
 freshL:=of_decide_eq_true (by kernel_rfl)
 tags:=of_decide_eq_true (by kernel_rfl)
 tagsL:=of_decide_eq_true (by kernel_rfl)
 steps:=by
  intro s hs;rcases A0P.1 hs with rfl|hs
  .refine⟨of_decide_eq_true (by kernel_rfl),of_decide_eq_true (by kernel_rfl),?_⟩;simp only[SL,Et,Tm.size,Tm.sizes];omega
  .rw[List.mem_singleton.1 hs];exact⟨of_decide_eq_true (by kernel_rfl),of_decide_eq_true (by kernel_rfl),of_decide_eq_true (by kernel_rfl)⟩
 stepsL:=of_decide_eq_true (by kernel_rfl)
 goals:=λg hg=>nomatch hg
 goalsL:=of_decide_eq_true (by kernel_rfl)
theorem fH (k:Tm):Lens (uh k) where
 names:=of_decide_eq_true (by kernel_rfl)
 steps:=of_decide_eq_true (by kernel_rfl)
 goals:=of_decide_eq_true (by kernel_rfl)
 data:=λg hg=>nomatch hg
theorem dA {n:Nar} (hd:GY n=0) (he:Pn (Cn (fN n) n)=Cn (fN n) n) {me:I3} {role i:Nat} {t:Tm} {b:Bool} (hme:n.roles[role]?=some me)
  (h:cV (Ni (true,true) (Cn (fN n) n) n me role i) t=(true,b)):d9 (Pq (fN n) n me role i) t=(0,b):=by
 rw[Pm (k':=Ni (true,true) (Cn (fN n) n) n me role i) (by rw[UX hd he hme];exact(Oz hd he hme i).symm) rfl];exact UK h
theorem cZ {kf:ByteArray->Nat->List Tm} {i:Nat} {s:Ste} {l:List Ste} (h:d9 (kf s.frm i) s.msg=(0,true)):Vi kf i (s::l)=Vi kf (i+1) l:=by
 rw[Vi,h];rfl
theorem rI {kf:ByteArray->Nat->List Tm} {i:Nat} {s:Ste} {l:List Ste} (h:d9 (kf s.frm i) s.msg=(0,false)) (ha:alls [s.msg]=[s.msg]):Xj (Vi kf i (s::l))=((i:Int),E8 s.msg,13):=by
 have hS:P8 [s.msg] (alls [s.msg]):=by rw[ha];exact WE _ (A0I _)
 have hs:=Tu (k:=kf s.frm i) (k':=kf s.frm i) rfl (i:Int) (Tt hS rfl);have h1:Lq (kf s.frm i) (i:Int) [s.msg]=some ((i:Int),s.msg,13):=by rw[Lq,h];rfl
 rw[h1]at hs;obtain⟨y,hy,hye⟩:∃y,Lq (kf s.frm i) (i:Int) (Rt s.msg)=some y/\Xj ((i:Int),s.msg,(13:Int))=Xj y:=by
  cases hq:Lq (kf s.frm i) (i:Int) (Rt s.msg)with
  |none=>rw[hq]at hs;simp at hs
  |some y=>rw[hq]at hs;exact⟨y,rfl,by simpa using hs⟩
 rw[Vi,h,hy];exact hye.symm
theorem nf:RR Iq=(0,E8 cB,0):=by
 have q0:d9 (Pq (fN Iq) Iq (bs [65]) 0 0) (BT (fN Iq) (SL (bs [101,110,99]) (false,true) [Et (bs [110]),SL (bs [115,104,107]) (false,true) [Et (bs [65]),Et (bs [66])]]))=(0,true):=dA Nb Qf rfl (by kernel_rfl);have q1:d9 (Pq (fN Iq) Iq (bs [66]) 1 1) (BT (fN Iq) (Et (bs [110])))=(0,true):=dA Nb Qf rfl (by kernel_rfl);have r0:OQ Iq.roles (bs [65])=0:=by kernel_rfl
 have r1:OQ Iq.roles (bs [66])=1:=by kernel_rfl
 have q0':d9 (Pq (fN Iq) Iq (bs [65]) (OQ Iq.roles (bs [65])) 0) (BT (fN Iq) (SL (bs [101,110,99]) (false,true) [Et (bs [110]),SL (bs [115,104,107]) (false,true) [Et (bs [65]),Et (bs [66])]]))=(0,true):=by rw[r0];exact q0
 have q1':d9 (Pq (fN Iq) Iq (bs [66]) (OQ Iq.roles (bs [66])) 1) (BT (fN Iq) (Et (bs [110])))=(0,true):=by rw[r1];exact q1
 unfold RR;rw[if_neg (by rw[eh];simp)];refine(congrArg Xj (cZ (kf:=λme i=>Pq (fN Iq) Iq me (OQ Iq.roles me) i) q0')).trans ?_;refine(congrArg Xj (cZ (kf:=λme i=>Pq (fN Iq) Iq me (OQ Iq.roles me) i) q1')).trans ?_;rfl
theorem nn:RR Lp=(1,E8 QG,13):=by
 have q0:d9 (Pq (fN Lp) Lp (bs [65]) 0 0) (BT (fN Lp) (SL (bs [101,110,99]) (false,true) [Et (bs [110]),Et (bs [107])]))=(0,true):=dA Xl cY rfl (by kernel_rfl);have q1:d9 (Pq (fN Lp) Lp (bs [66]) 1 1) (BT (fN Lp) (Et (bs [110])))=(0,false):=dA Xl cY rfl (by kernel_rfl);have r0:OQ Lp.roles (bs [65])=0:=by kernel_rfl
 have r1:OQ Lp.roles (bs [66])=1:=by kernel_rfl
 have q0':d9 (Pq (fN Lp) Lp (bs [65]) (OQ Lp.roles (bs [65])) 0) (BT (fN Lp) (SL (bs [101,110,99]) (false,true) [Et (bs [110]),Et (bs [107])]))=(0,true):=by rw[r0];exact q0
 have q1':d9 (Pq (fN Lp) Lp (bs [66]) (OQ Lp.roles (bs [66])) 1) (BT (fN Lp) (Et (bs [110])))=(0,false):=by rw[r1];exact q1
 unfold RR;rw[if_neg (by rw[ek];simp)];refine(congrArg Xj (cZ (kf:=λme i=>Pq (fN Lp) Lp me (OQ Lp.roles me) i) q0')).trans ?_;refine(rI (kf:=λme i=>Pq (fN Lp) Lp me (OQ Lp.roles me) i) q1' rfl).trans ?_;have:E8 (BT (fN Lp) (Et (bs [110])))=E8 QG:=by kernel_rfl
 exact congrArg (λx=>((1:Int),x,(13:Int))) this
theorem nh:Ue Iq 0 QG=(0,0):=by
 have q0:d9 (Pq (fN Iq) Iq (bs [65]) 0 0) QG=(0,true):=dA Nb Qf rfl (by kernel_rfl);have ha:Lz Iq 0 0=0:=by kernel_rfl
 unfold Ue;rw[if_neg (by rw[ha];simp)];show NH (Pq (fN Iq) Iq (bs [65]) 0) QG 0 3=_;rw[NH,q0];rfl
theorem ni:Ue Iq 1 QG=(1,0):=by
 have q0:d9 (Pq (fN Iq) Iq (bs [66]) 1 0) QG=(0,false):=dA Nb Qf rfl (by kernel_rfl);have q1:d9 (Pq (fN Iq) Iq (bs [66]) 1 1) QG=(0,true):=dA Nb Qf rfl (by kernel_rfl);have ha:Lz Iq 1 0=0:=by kernel_rfl
 unfold Ue;rw[if_neg (by rw[ha];simp)];show NH (Pq (fN Iq) Iq (bs [66]) 1) QG 0 3=_;rw[NH,q0,NH,q1];rfl
def my (k:List Tm):Nat->Tm->Option (List Tm)
 |0,_=>some []
 |n+1,t =>
  if Ew t (bs [112,97,105,114])=true then (match my k n (O8 t 0),my k n (O8 t 1)with|some a,some b=>some (a++b)|_,_=>none)
  else if Ew t (bs [115,105,103,110])=true then my k n (O8 t 0)
  else if Ew t (bs [101,110,99])=true then (if cV k (O8 t 1)=(true,true)then my k n (O8 t 0)else if cV k (O8 t 1)=(true,false)then some [t]else none)
  else if Ew t (bs [97,101,110,99])=true then none
  else if Ew t (bs [104,97,115,104])=true then none else some []
theorem RJ {k:I6}:∀(N:Nat) {t:Tm} {l:I6},my k N t=some l->MA k N t=l
 |0,_,_,h=>by rw[my]at h;exact Option.some.inj h
 |N+1,t,l,h=>by
  rw[my]at h;rw[MA];by_cases c1:Ew t (bs [112,97,105,114])=true
  .rw[if_pos c1]at h ⊢;cases h1:my k N (O8 t 0)with
   |none=>rw[h1]at h;cases h
   |some a =>
    cases h2:my k N (O8 t 1)with
    |none=>rw[h1,h2]at h;cases h
    |some b =>
     rw[h1,h2]at h;rw[RJ N h1,RJ N h2];exact Option.some.inj h
  .rw[if_neg c1]at h ⊢;by_cases c2:Ew t (bs [115,105,103,110])=true
   .rw[if_pos c2]at h ⊢;exact RJ N h
   .rw[if_neg c2]at h ⊢;by_cases c3:Ew t (bs [101,110,99])=true
    .rw[if_pos c3]at h ⊢;by_cases d1:cV k (O8 t 1)=(true,true)
     .rw[if_pos d1]at h;rw[UK d1,if_pos rfl];exact RJ N h
     .rw[if_neg d1]at h;by_cases d2:cV k (O8 t 1)=(true,false)
      .rw[if_pos d2]at h;rw[UK d2,if_neg (by simp)];exact Option.some.inj h
      .rw[if_neg d2]at h;cases h
    .rw[if_neg c3]at h ⊢;by_cases c4:Ew t (bs [97,101,110,99])=true
     .rw[if_pos c4]at h;cases h
     .rw[if_neg c4]at h ⊢;by_cases c5:Ew t (bs [104,97,115,104])=true
      .rw[if_pos c5]at h;cases h
      .rw[if_neg c5]at h ⊢;exact Option.some.inj h
theorem Xb {n:Nar} (hd:GY n=0) (he:Pn (Cn (fN n) n)=Cn (fN n) n) {i N:Nat} {s:Ste} (hs:(n.steps.map (Cd (fN n)))[i]?=some s) (hme:n.roles[OQ n.roles s.to]?=some s.to) {l:I6}
  (hN:s.msg.size=N) (h:my (Ni (true,true) (Cn (fN n) n) n s.to (OQ n.roles s.to) (i+1)) N s.msg=some l):(NX n i).length=l.length:=by
 have h1:=RJ N h;have h2:=congrArg A0X (kC (k:=Pq (fN n) n s.to (OQ n.roles s.to) (i+1)) (k':=Ni (true,true) (Cn (fN n) n) n s.to (OQ n.roles s.to) (i+1)) (by rw[UX hd he hme];exact(Oz hd he hme _).symm) N (rfl:E8 s.msg=E8 s.msg));rw[h1,A0B,A0B]at h2;rw[←h2];unfold NX;change (match (n.steps.map (Cd (fN n)))[i]? with|some s=>_|none=>_:List Tm).length=_
 rw[hs];show (qp _ s.msg).length=_;unfold qp;rw[hN];rfl
theorem rF:(NX Iq 0).length=0:=Xb (l:=[]) Nb Qf rfl (by kernel_rfl) rfl (by kernel_rfl)
theorem rH:(NX Iq 1).length=0:=Xb (l:=[]) Nb Qf rfl (by kernel_rfl) rfl (by kernel_rfl)
theorem kQ:(NX Lp 0).length=1:=Xb (l:=[BT (fN Lp) (SL (bs [101,110,99]) (false,true) [Et (bs [110]),Et (bs [107])])]) Xl cY rfl (by kernel_rfl) rfl (by kernel_rfl)
theorem nj:Ym Iq=true:=by
 unfold Ym;rw[decide_eq_true eh,A0W,A0K];intro i hi;have:=A0H.1 hi;change i<2 at this;have h2:i=0\/i=1:=by omega
 rcases h2 with rfl|rfl
 .rw[A0D rF];rfl
 .rw[A0D rH];rfl
theorem np:Ym Lp=false:=by
 unfold Ym;rw[decide_eq_true ek,A0W,A0Q];refine⟨0,A0H.2 (by decide),?_⟩;have:=kQ;cases h:NX Lp 0 with
 |nil=>rw[h]at this;cases this
 |cons a l=>simp
theorem Wh:GoodT QG:=(Pg (m:=(true,false)) (a:=bs [110]) (s:=2) ⟨by kernel_rfl,by kernel_rfl⟩ (by omega) (by omega)).good (of_decide_eq_true (by kernel_rfl))
theorem lh:pc Q Ga []=some (.bool true):=by
 have a1:=To (bs [65]);have a2:=To (bs [66]);have a3:=To (bs [107]);have a4:=Re (bs [115,104,107]) (true,true) [Et (bs [65]),Et (bs [66])] (by simp) (by simp);rw[show A4 [Et (bs [65]),Et (bs [66])]=[B7 (Et (bs [65])),B7 (Et (bs [66]))] from rfl]at a4;have a5:=Uu (SL (bs [115,104,107]) (false,true) [Et (bs [65]),Et (bs [66])]);have a6:=Uu (Et (bs [107]));change _=some (F0 Iq)at a5;change _=some (F0 Lp)at a6;have a7:=Tn (bs [110]) 2;change _=some (B7 QG)at a7;have FA:Fine Iq:=eu _ (of_decide_eq_true (by kernel_rfl));have FB:Fine Lp:=eu _ (of_decide_eq_true (by kernel_rfl));have SA:Lens Iq:=fH _;have SB:Lens Lp:=fH _;obtain⟨tA,b1,b2⟩:=fS Iq FA SA;obtain⟨tB,b3,b4⟩:=fS Lp FB SB;rw[nf]at b1 b2;rw[nn]at b3 b4;have c1:=Wm Iq FA SA 0 QG Wh;have c2:=Wm Iq FA SA 1 QG Wh;rw[nh]at c1;rw[ni]at c2;have d1:=aV Iq FA SA;have d2:=aV Lp FB SB;rw[nj]at d1;rw[np]at d2;obtain⟨m,l,e1,e2,-⟩:=jE Lp FB SB 1 0;have hb:cL Lp 1 0=0:=by kernel_rfl
 obtain⟨e3,-,-⟩:=e2 hb;rw[hb]at e1;have A6:l.length=1:=by
  have h1:=Ty e3;have h2:=WD e3;change l.length<=(NX Lp 0).length at h1;change l=[]↔NX Lp 0=[]at h2;have h3:=kQ;cases l with
  |nil=>rw[h2.1 rfl]at h3;cases h3
  |cons a l=>simp only[A0L]at h1 ⊢;omega
 have I9:tB.size<=1099511627776:=by rw[←Hq _ tB (A0I _),b4];exact of_decide_eq_true (by kernel_rfl)
 have hS:=YM tB QG I9 (of_decide_eq_true (by kernel_rfl));rw[show KZ tB QG=true from by unfold KZ;rw[decide_eq_true_iff,Bz,b4]]at hS;have nA:=D8 Iq;have nB:=D8 Lp;have tl:(A4 l).length=1:=by rw[D6,A0B];exact A6
 generalize Iq=xA at *
 generalize Lp=xB at *
 generalize QG=xT at *
 simp only at b1 b3 c1 c2;refine fQ TY rfl (by simp[Jf]) λfr hl ha=>?_;clear ha;simp[Jf]at hl ;simp[Jf,hl,a1,a2,a3,a4,a5,a6,a7,b1,b3,c1,c2,d1,d2,e1,hS,nA,nB,tl,A5,L9]
theorem sE (n:Nar) (F:Fine n) (hS:Mg n.steps+Ov n.goals<=1099511627776):∃b,pc Q PC [F0 n]=some (.bool b):=by
 obtain⟨b,hL⟩:=lu n F hS;have nb:=D8 n;refine⟨b,?_⟩;refine M2 PS λfr hl h0=>?_;simp[PS]at hl h0;simp[PS,hl,h0,nb,hL]
theorem jb (n:Nar) (F:Fine n) (S:Lens n) (role step:Int):Tm.sizes (jg n role step)<=4000:=by
 unfold jg;split
 .rename_i hat;obtain⟨r,n',-,hE⟩:=aW n F S role step;obtain⟨rfl,he⟩:=hE hat;obtain⟨hs0,g1,g2,g3,g4⟩:=Jm hat;obtain⟨-,hR⟩:=DB hs0;obtain⟨hsm,-⟩:=HD hR.nar he;obtain⟨e2,e3,e5⟩:=Ej he;obtain⟨h1,-,-⟩:=EU hR.nar;have uy:=SW (Ng h1).2;obtain⟨me,hme,hg⟩:=RI hat;rw[hg,←Oz (m:=(true,true)) hR.dec he hme,←E3,Jp];exact(Zk hsm ⟨by omega,by omega,by omega⟩ (by rw[e2]) e5 (Nn hR.nar he)).1
 .simp[Tm.sizes]
theorem qD (n:Nar) (role:Int):(eI n role).length<=n.steps.length:=by
 unfold eI;split
 .rw[A0B];unfold SP;have:=List.length_filter_le (λi=>match n.steps[i]? with|some s=>Fg (n.roles.getD role.toNat (bs [])) s|none=>false) (A0J n.steps.length)
  rw[List.length_range]at this;exact this
 .simp
theorem YO (n:Nar) (F:Fine n) (S:Lens n) (hS:Mg n.steps+Ov n.goals<=1099511627776) (role step:Int):pc Q RZ [F0 n,.agg [.int .i64 role,.int .i64 step]]=some (.bool true):=by
 obtain⟨b,hF⟩:=sE n F hS;have hA:=lh;obtain⟨m1,l1,d1,e1⟩:=jF n F S role step;obtain⟨m2,l2,d2,e2⟩:=iq n F S role step;obtain⟨m3,g1⟩:=jG n F S role;obtain⟨m4,g2⟩:=ir n F S role;have z:=jb n F S role step;have hLs:=lc m1 m2 l1 l2 (by rw[←Jp,e1];omega) (by rw[←Jp,e2];omega);rw[ed l1 l2 (e1.trans e2.symm)]at hLs;have hE:=ry (eI n role) m3 m4 (by have:=qD n role;have:=S.steps;omega);have nb:=D8 n;generalize Lz n role step=e at *
 cases b with
 |false =>
  refine O2 AF λfr hl h0 h1=>?_;simp[AF]at hl h0 h1;simp[AF,hl,h0,h1,nb,hA,hF]
 |true =>
  refine O2 AF λfr hl h0 h1=>?_;simp[AF]at hl h0 h1;simp[AF,hl,h0,h1,nb,hA,hF,d1,d2,hLs,g1,g2,hE]
end Go.Abs.Q
