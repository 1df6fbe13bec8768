/- A part of the proof. -/
import Derived.Test.YtohjdamplbhdpaaGreatDoorSB22
set_option linter.all false
open List renaming getElem?_eq_getElem->A0O,mem_of_getElem?->A0R,getElem?_map->A0S
open Int renaming toNat_natCast->A0P,eq_ofNat_of_zero_le->A0Q
namespace Go.Abs.Q
open Go.Proofs
attribute [local simp] E6 E7 fin K1 H4 P2 L5 R0 Q9
theorem Wk (m:I6) (k:G6) (t:Tm) (hk:∀x∈k,GoodT x) (ht:GoodT t) (CI:k.length<=1048576):pc Q Iz [sl m 4 (A4 k),B8 t]=some (.bool (T1 k t).2):=by
 have hD:=vh m k t hk ht CI;generalize T1 k t=d at *
 obtain⟨e,b⟩:=d;simp only at hD;refine M9 Rp λfr hl h0 h1=>?_;simp[Rp]at hl h0 h1;simp[Rp,hl,h0,h1,hD]
theorem jr (m:I6) (k:G6) (hk:∀x∈k,GoodT x) (CI:k.length<=1048576):∀(N:Nat) (t:Tm),t.size<=N->Hg t->Wq t->t.size<=40->∀h:AH,
  ∃v h',rc Q N3 [sl m 4 (A4 k),B8 t] h=some (v,h')/\Ym h.fams.length false 4 (A4 (HG k N t)) v h'/\(HG k N t).length<=t.size/\(∃B,h'.boxes=h.boxes++B)/\h.fams.length<=h'.fams.length/\∀j,j<h.fams.length->h'.fams[j]?=h.fams[j]?:=by
 intro N
 induction N with
 |zero=>intro t hs;have:=t.size_pos;omega
 |succ N ih0 =>
  intro t hs hA hE h40 h;have ih:∀(t:Tm),t.size<=N->Hg t->Wq t->t.size<=40->∀h:AH,∃v F',WI true h (rc Q N3 [sl m 4 (A4 k),B8 t] h)=some (v,⟨h.boxes,F'⟩)/\Ym h.fams.length false 4 (A4 (HG k N t)) v ⟨h.boxes,F'⟩/\(HG k N t).length<=t.size/\h.fams.length<=F'.length/\∀j,j<h.fams.length->F'[j]?=h.fams[j]?:=by
   intro t a b c d h;obtain⟨v,h',e1,e2,e3,e4,e5,e6⟩:=ih0 t a b c d h;exact⟨v,h'.fams,Mv e1 (Me e2.a).2.2.2 e4,e2,e3,e5,e6⟩
  clear ih0;have BF:=(hA.good h40).ok;have hnil:∀X:AH,Ym h.fams.length false 4 (A4 []) (.vs true 0 []) X:=λX=>.inl ⟨by simp,false,rfl⟩;have hone:∀X:AH,Ym h.fams.length false 4 (A4 [t]) (sl (true,true) 4 [B8 t]) X:=λX=>.inl ⟨by simp,true,rfl⟩;have hks:=t.kids_size;have hsp:=t.size_pos;have hag:=VX t;have q1:=Fx t (bs [112,97,105,114]);have q2:=Fx t (bs [115,105,103,110]);have q3:=Fx t (bs [101,110,99]);have q4:=Fx t (bs [97,101,110,99]);have q5:=Fx t (bs [104,97,115,104]);by_cases c1:p8 t (bs [112,97,105,114])=true
  .obtain⟨a,b,BE⟩:=R7 BF c1 (.inl rfl);rw[BE]at hks;simp only[Tm.sizes]at hks;have hx0:Hm (A4 t.kids) 0=some (B8 a):=by rw[BE];rfl
   have hx1:Hm (A4 t.kids) 1=some (B8 b):=by rw[BE];rfl
   have hB:HG k (N+1) t=HG k N a++HG k N b:=by rw[HG,if_pos c1,J0,J0,BE];rfl
   rw[hB];have am:a∈t.kids:=by rw[BE];simp
   have bm:b∈t.kids:=by rw[BE];simp
   obtain⟨bx,F⟩:=h;obtain⟨va,Fa,a1,a2,a3,a4,a5⟩:=ih a (by omega) (hA.kid am) (hE.kid am) (by omega) ⟨bx++[(B8 t).cells],F⟩;obtain⟨vb,Fb,b1,b2,b3,b4,b5⟩:=ih b (by omega) (hA.kid bm) (hE.kid bm) (by omega) ⟨bx++[(B8 t).cells],Fa⟩;simp only at a4 a5 b4 b5;have a2':Ym F.length false 4 (A4 (HG k N a)) va ⟨bx++[(B8 t).cells],Fb⟩:=qI a2 b5;obtain⟨vc,Fc,p1,p2,p3,p4⟩:=kP (c:=D6 N3) (bytes:=56) (h:=⟨bx++[(B8 t).cells],Fb⟩) (show F.length<=_ by simp only;omega) a2' (ZO (b2.mono a4).a _) (by simp only[H3,maxLen,C9,List.length_map];omega);rw[show A4 (HG k N a)++A4 (HG k N b)=A4 (HG k N a++HG k N b) from by simp[C9]]at p2;rw[c1]at q1;simp only at p1;simp only[I3]at a1 b1 p1;clear q2 q3 q4 q5;refine Df E5 λfr hl h0 h1=>?_;simp[E5]at hl h0 h1;simp[E5,hl,h0,h1,hag,q1,hx0,hx1,a1,b1,p1];exact⟨JK p2 rfl,by omega,p3,λj hj=>(p4 j hj).trans ((b5 j (by omega)).trans (a5 j hj))⟩
  have c1':p8 t (bs [112,97,105,114])=false:=by simpa using c1
  rw[c1']at q1;by_cases c2:p8 t (bs [115,105,103,110])=true
  .obtain⟨a,b,BE⟩:=R7 BF c2 (.inr (.inr (.inr (.inl rfl))));rw[BE]at hks;simp only[Tm.sizes]at hks;have hx0:Hm (A4 t.kids) 0=some (B8 a):=by rw[BE];rfl
   have hB:HG k (N+1) t=HG k N a:=by rw[HG,if_neg c1,if_pos c2,J0,BE];rfl
   rw[hB];have am:a∈t.kids:=by rw[BE];simp
   obtain⟨bx,F⟩:=h;obtain⟨va,Fa,a1,a2,a3,a4,a5⟩:=ih a (by omega) (hA.kid am) (hE.kid am) (by omega) ⟨bx++[(B8 t).cells],F⟩;simp only at a4 a5;simp only[I3]at a1;rw[c2]at q2;clear q3 q4 q5;refine Df E5 λfr hl h0 h1=>?_;simp[E5]at hl h0 h1;simp[E5,hl,h0,h1,hag,q1,q2,hx0,a1];exact⟨JK a2 rfl,by omega,a4,a5⟩
  have c2':p8 t (bs [115,105,103,110])=false:=by simpa using c2
  rw[c2']at q2;by_cases c3:p8 t (bs [101,110,99])=true
  .obtain⟨a,b,BE⟩:=R7 BF c3 (.inr (.inl rfl));rw[BE]at hks;simp only[Tm.sizes]at hks;have hx0:Hm (A4 t.kids) 0=some (B8 a):=by rw[BE];rfl
   have hx1:Hm (A4 t.kids) 1=some (B8 b):=by rw[BE];rfl
   have hB:HG k (N+1) t=if (T1 k b).2=true then HG k N a else [t]:=by rw[HG,if_neg c1,if_neg c2,if_pos c3,J0,J0,BE];rfl
   rw[hB];have am:a∈t.kids:=by rw[BE];simp
   have bm:b∈t.kids:=by rw[BE];simp
   have hC:=Wk m k b hk ((hA.kid bm).good (by omega)) CI;obtain⟨bx,F⟩:=h;obtain⟨va,Fa,a1,a2,a3,a4,a5⟩:=ih a (by omega) (hA.kid am) (hE.kid am) (by omega) ⟨bx++[(B8 t).cells],F⟩;simp only at a4 a5;simp only[I3]at a1;rw[c3]at q3;clear q4 q5;cases hd:(T1 k b).2 with
   |true =>
    rw[hd]at hC;rw[if_pos rfl];refine Df E5 λfr hl h0 h1=>?_;simp[E5]at hl h0 h1;simp[E5,hl,h0,h1,hag,q1,q2,q3,hx0,hx1,hC,a1];exact⟨JK a2 rfl,by omega,a4,a5⟩
   |false =>
    rw[hd]at hC;rw[if_neg (by simp)];refine Df E5 λfr hl h0 h1=>?_;simp[E5]at hl h0 h1;simp[E5,hl,h0,h1,hag,q1,q2,q3,hx1,hC,A5];exact⟨hone _,by omega⟩
  have c3':p8 t (bs [101,110,99])=false:=by simpa using c3
  rw[c3']at q3;by_cases c4:p8 t (bs [97,101,110,99])=true
  .obtain⟨a,b,BE⟩:=R7 BF c4 (.inr (.inr (.inl rfl)));rw[BE]at hks;simp only[Tm.sizes]at hks;have am:a∈t.kids:=by rw[BE];simp
   have bm:b∈t.kids:=by rw[BE];simp
   have hb:=hE.root c4;rw[show J0 t 1=b from by rw[J0,BE];rfl]at hb;obtain⟨p1,p2⟩:=IY.1 hb;have hbok:=((hA.kid bm).good (by omega)).ok;obtain⟨c,hc⟩:=hbok.one p1 (by rw[p2];exact .inl rfl);have hsz2:=b.kids_size;rw[hc]at hsz2;simp only[Tm.sizes]at hsz2;have hx0:Hm (A4 t.kids) 0=some (B8 a):=by rw[BE];rfl
   have hx1:Hm (A4 t.kids) 1=some (B8 b):=by rw[BE];rfl
   have hy0:Hm (A4 b.kids) 0=some (B8 c):=by rw[hc];rfl
   have hB:HG k (N+1) t=if (T1 k c).2=true then HG k N a else if (T1 k a).2=true then []else [t]:=by rw[HG,if_neg c1,if_neg c2,if_neg c3,if_pos c4,J0,J0,BE,J0];simp only[BE,List.getD_cons_succ,List.getD_cons_zero,hc]
   rw[hB];have hC:=Wk m k c hk (((hA.kid bm).kid (by rw[hc];simp)).good (by omega)) CI;have hC2:=Wk m k a hk ((hA.kid am).good (by omega)) CI;obtain⟨bx,F⟩:=h;obtain⟨va,Fa,a1,a2,a3,a4,a5⟩:=ih a (by omega) (hA.kid am) (hE.kid am) (by omega) ⟨bx++[(B8 t).cells],F⟩;simp only at a4 a5;simp only[I3]at a1;rw[c4]at q4;clear q5;cases hd:(T1 k c).2 with
   |true =>
    rw[hd]at hC;rw[if_pos rfl];refine Df E5 λfr hl h0 h1=>?_;simp[E5]at hl h0 h1;simp[E5,hl,h0,h1,hag,q1,q2,q3,q4,hx0,hx1,hy0,hC,a1];exact⟨JK a2 rfl,by omega,a4,a5⟩
   |false =>
    rw[hd]at hC;rw[if_neg (by simp)];cases hd2:(T1 k a).2 with
    |true =>
     rw[hd2]at hC2;rw[if_pos rfl];refine Df E5 λfr hl h0 h1=>?_;simp[E5]at hl h0 h1;simp[E5,hl,h0,h1,hag,q1,q2,q3,q4,hx0,hx1,hy0,hC,hC2];exact hnil _
    |false =>
     rw[hd2]at hC2;rw[if_neg (by simp)];refine Df E5 λfr hl h0 h1=>?_;simp[E5]at hl h0 h1;simp[E5,hl,h0,h1,hag,q1,q2,q3,q4,hx0,hx1,hy0,hC,hC2,A5];exact⟨hone _,by omega⟩
  have c4':p8 t (bs [97,101,110,99])=false:=by simpa using c4
  rw[c4']at q4;by_cases c5:p8 t (bs [104,97,115,104])=true
  .obtain⟨p1,p2⟩:=IY.1 c5;obtain⟨a,BE⟩:=BF.one p1 (by rw[p2];exact .inr (.inl rfl));rw[BE]at hks;simp only[Tm.sizes]at hks;have hx0:Hm (A4 t.kids) 0=some (B8 a):=by rw[BE];rfl
   have hB:HG k (N+1) t=if (T1 k a).2=true then []else [t]:=by rw[HG,if_neg c1,if_neg c2,if_neg c3,if_neg c4,if_pos c5,J0,BE];rfl
   rw[hB];have am:a∈t.kids:=by rw[BE];simp
   have hC:=Wk m k a hk ((hA.kid am).good (by omega)) CI;rw[c5]at q5;cases hd:(T1 k a).2 with
   |true =>
    rw[hd]at hC;rw[if_pos rfl];refine Df E5 λfr hl h0 h1=>?_;simp[E5]at hl h0 h1;simp[E5,hl,h0,h1,hag,q1,q2,q3,q4,q5,hx0,hC];exact hnil _
   |false =>
    rw[hd]at hC;rw[if_neg (by simp)];refine Df E5 λfr hl h0 h1=>?_;simp[E5]at hl h0 h1;simp[E5,hl,h0,h1,hag,q1,q2,q3,q4,q5,hx0,hC,A5];exact⟨hone _,by omega⟩
  have c5':p8 t (bs [104,97,115,104])=false:=by simpa using c5
  rw[c5']at q5;have hB:HG k (N+1) t=[]:=by rw[HG,if_neg c1,if_neg c2,if_neg c3,if_neg c4,if_neg c5]
  rw[hB];refine Df E5 λfr hl h0 h1=>?_;simp[E5]at hl h0 h1;simp[E5,hl,h1,hag,q1,q2,q3,q4,q5];exact hnil _
theorem pQ (m:I6) (k:G6) (hk:∀x∈k,GoodT x) (CI:k.length<=1048576) (t:Tm) (hA:Hg t) (hE:Wq t) (h40:t.size<=40) (bx:List (List AV)) (F:List Fam) :
  ∃v F',WI true ⟨bx,F⟩ (rc Q N3 [sl m 4 (A4 k),B8 t] ⟨bx,F⟩)=some (v,⟨bx,F'⟩)/\KF false 4 (A4 (gk k t)) v ⟨bx,F'⟩/\(gk k t).length<=40:=by
 obtain⟨v,h',e1,e2,e3,e4,-,-⟩:=jr m k hk CI t.size t (Nat.le_refl _) hA hE h40 ⟨bx,F⟩;exact⟨v,h'.fams,Mv e1 (Me e2.a).2.2.2 e4,I2 e2.a rfl,by unfold gk;omega⟩
theorem tM {rs:List ByteArray} (h:rs.Nodup) {i:Nat} {a:J3} (ha:rs[i]?=some a):Oj rs a=i:=by
 have h1:=(Ra (A0R ha)).1;exact(List.getElem?_inj (H5 h1) h).1 (h1.trans ha.symm)
theorem uW {r n:Nar} (hR:Right n) (he:Ql r=CN (L3 (B5 n) (G8 n)) n) {i:Nat} (hi:i<r.steps.length) :
  r.steps[i].to∈r.roles/\∀e,e∈(gk (pw (false,true) r r.steps[i].to (Oj r.roles r.steps[i].to) (i+1)) r.steps[i].msg).map E3↔e∈(Mo n i).map E3:=by
 obtain⟨e2,e3,e5⟩:=JT he;have hq:(n.steps.map (Dh (L3 (B5 n) (G8 n))))[i]?=some (Ns r.steps[i]):=by
  rw[←(s9 he).2.2.2.2.1,A0S,A0O hi];rfl
 have hto:r.steps[i].to∈n.roles:=by
  obtain⟨s',hs',e⟩:=List.mem_map.1 (A0R hq);unfold Ns Dh at e;injection e with _ e _ _
  rw[←e];exact(NN (hR.steps s' hs')).2.1
 refine⟨by rw[e2];exact hto,?_⟩;unfold Mo;rw[hq];simp only[Ns];have:(gk (pw (false,true) r r.steps[i].to (Oj r.roles r.steps[i].to) (i+1)) r.steps[i].msg).map E3=(gk (Sr (L3 (B5 n) (G8 n)) n r.steps[i].to (Oj n.roles r.steps[i].to) (i+1)) (E3 r.steps[i].msg)).map E3:=by
  refine qW ?_ (Zb _).symm;rw[e2,VD hR.dec he (Ra hto).1];exact iY he _
 rw[this];exact λ_=>Iff.rfl
theorem oc (n:Nar) (F:Fine n) (S:Lens n) (role step:Int):∃(m:I6) (l:G6),pc Q LJ [G5 n,.int .i64 role,.int .i64 step]=some (.tup [sl m 4 (A4 l),.int .i64 (TK n role step)])/\(TK n role step=0->L0 l (Mo n step.toNat))/\(TK n role step≠0->l=[]):=by
 suffices hq:∃v,pc Q LJ [G5 n,.int .i64 role,.int .i64 step]=some v/\∃(m:Bool×Bool) (l:List Tm),v=.tup [sl m 4 (A4 l),.int .i64 (TK n role step)]/\(TK n role step=0->L0 l (Mo n step.toNat))/\(TK n role step≠0->l=[]) by
  obtain⟨v,h1,m,l,rfl,h2⟩:=hq;exact⟨m,l,h1,h2⟩
 obtain⟨r,hO,hE⟩:=fl n F S role step;have nb:=E9 n;have rb:=E9 r;have hz4:sl (true,false) 4 (A4 [])=.vs true 0 []:=rfl;by_cases hat:Sg n role step=0
 .have he:=hE hat;obtain⟨hs0,g1,g2,g3,g4⟩:=XB hat;obtain⟨-,hR⟩:=Kg hs0;obtain⟨-,hsm⟩:=Mc hR.nar he;obtain⟨e2,-,e5⟩:=JT he;obtain⟨role,rfl⟩:=A0Q g1;obtain⟨step,rfl⟩:=A0Q g3;simp only[A0P]at g2 g4 ⊢;rw[hat]at hO;by_cases h2:step=n.steps.length
  .have hB:TK n role step=7:=by unfold TK;rw[if_neg (by simp[hat])];simp only[A0P];rw[List.getElem?_eq_none (by omega)]
   rw[hB];obtain rfl:step=r.steps.length:=by omega
   refine WL U3 λΨ hΨ fr hl h0 h1 h2=>?_;simp[U3]at hl h0 h1 h2;simp[U3,hl,h0,h1,h2,nb,rb,hO];exact hΨ _ ⟨(true,false),[],rfl,by simp⟩
  .have h2':¬(step:Int)=r.steps.length:=by omega
   have A7:step<r.steps.length:=by omega
   have hx:=G1 (f:=El) (A0O A7);have hlr:role<r.roles.length:=by rw[e2];exact g2
   have hy:=G1 (f:=AV.str) (A0O hlr);have hss:n.steps[step]?=some (n.steps[step]'(by omega)):=A0O _;have hto:(n.steps[step]'(by omega)).to=r.steps[step].to:=by
    have:=(s9 he).2.2.2.2.1;have h3:=congrArg (·[step]?) this;simp only[A0S,A0O A7,hss,Option.map_some,Option.some.injEq]at h3;unfold Ns Dh at h3;injection h3 with _ h3 _ _
    exact h3.symm
   have hrr:n.roles[role]?=some r.roles[role]:=by rw[←e2];exact A0O hlr
   by_cases h3:r.steps[step].to=r.roles[role]
   .have hB:TK n role step=0:=by unfold TK;rw[if_neg (by simp[hat])];simp only[A0P];rw[hss];simp only[hto,hrr,h3];rfl
    rw[hB];have Ii:=List.getElem_mem A7;obtain⟨hmA,hmS⟩:=Xi hR he Ii;have hmE:=rv hR he Ii;obtain⟨hto2,wV⟩:=uW hR he A7;have hrx:Oj r.roles r.steps[step].to=role:=tM (by rw[e2];exact Vz hR.dec) (by rw[h3];exact A0O hlr);have hme:r.roles[role]?=some r.steps[step].to:=by rw[h3];exact A0O hlr
    have hmn:n.roles[role]?=some r.steps[step].to:=by rw[←e2];exact hme
    rw[hrx]at wV;obtain⟨mk,hK⟩:=jX r hsm role r.steps[step].to hme (step+1) (by omega);have FT:∀x∈pw (false,true) r r.steps[step].to role (step+1),GoodT x:=λx hx=>by
     obtain⟨h1,h2⟩:=rE hR he hmn hx;exact h1.good h2
    have CI:=vG hR he hmn (step+1);have hw:IntKind.i64.wrap ((step:Int)+1)=(step:Int)+1:=V0 (by have:=hsm.steps;omega) (by have:=hsm.steps;omega);rw[show ((step+1:Nat):Int)=(step:Int)+1 from rfl]at hK;generalize r.steps[step]=s at *
    generalize pw (false,true) r s.to role (step+1)=kk at *
    obtain⟨v,F',hH,hg,h40⟩:=pQ mk kk FT (by omega) s.msg hmA hmE hmS [(G5 n).cells,(G5 r).cells] [];obtain⟨mf,hf⟩:=WQ hg;have hf1:=(hf [(G5 n).cells,(G5 r).cells] true rfl).1;have htm:=Wu hg [(G5 n).cells,(G5 r).cells];have J5:∀x∈gk kk s.msg,x.size<=40:=λx hx=>by have:=qX kk _ _ x hx;omega
    obtain⟨R,mr,hS,q8,-,-⟩:=cL mf (gk kk s.msg) (by omega) (λx hx=>by have:=J5 x hx;omega);simp only[nb,rb]at hH hf1 htm;generalize gk kk s.msg=bl at *
    refine WL U3 λΨ hΨ fr hl h0 h1 h2=>?_;simp[U3]at hl h0 h1 h2;simp[U3,hl,h0,h1,h2,nb,rb,hO,h2',hx,hy,h3,hw,hK,hH,hf1,htm,hS];exact hΨ _ ⟨mr,R,rfl,λ_=>⟨q8.1,λe=>(q8.2 e).trans (wV e)⟩,λh=>absurd rfl h⟩
   .have hB:TK n role step=7:=by unfold TK;rw[if_neg (by simp[hat])];simp only[A0P];rw[hss];simp only[hto,hrr,Option.some.injEq,h3,if_false]
    rw[hB];refine WL U3 λΨ hΨ fr hl h0 h1 h2=>?_;simp[U3]at hl h0 h1 h2;simp[U3,hl,h0,h1,h2,nb,rb,hO,h2',hx,hy,h3];exact hΨ _ ⟨(true,false),[],rfl,by simp⟩
 .have hB:TK n role step=Sg n role step:=by unfold TK;rw[if_pos hat]
  rw[hB];generalize Sg n role step=e at *
  have P6:=hat;refine WL U3 λΨ hΨ fr hl h0 h1 h2=>?_;simp[U3]at hl h0 h1 h2;simp[U3,hl,h0,h1,h2,nb,rb,hO,P6];exact hΨ _ ⟨(true,false),[],rfl,λh=>absurd h P6,λ_=>rfl⟩
theorem cN (n:Nar) (F:Fine n) (S:Lens n) (hS:Ol n.steps+RF n.goals<=1099511627776) (role step:Int):pc Q UJ [G5 n,.agg [.int .i64 role,.int .i64 step]]=some (.bool true):=by
 obtain⟨b,hF⟩:=yF n F hS;have hA:=sN;obtain⟨m1,l1,d1,p1,p2⟩:=aS n F S role step;obtain⟨m2,l2,d2,r1,r2⟩:=oc n F S role step;have hL:G9 l1=G9 l2/\Tm.sizes l1<=10000:=by
  by_cases h0:TK n role step=0
  .obtain⟨q1,q2,-⟩:=p1 h0;exact⟨Ww q1 (r1 h0) λ_=>Iff.rfl,q2⟩
  .rw[p2 h0,r2 h0];exact⟨rfl,by simp[Tm.sizes]⟩
 have hz2:Tm.sizes l2<=10000:=by rw[←Mq l2,←hL.1,Mq];exact hL.2
 have hLs:=sJ m1 m2 l1 l2 (by have:=hL.2;omega) (by omega);rw[ke l1 l2 hL.1]at hLs;have nb:=E9 n;clear p1 p2 r1 r2;generalize TK n role step=e at *
 cases b with
 |false =>
  refine M9 An λfr hl h0 h1=>?_;simp[An]at hl h0 h1;simp[An,hl,h0,h1,nb,hA,hF]
 |true =>
  refine M9 An λfr hl h0 h1=>?_;simp[An]at hl h0 h1;simp[An,hl,h0,h1,nb,hA,hF,d1,d2,hLs]
end Go.Abs.Q
