/- A part of the proof. -/
import Derived.Test.YtnnjamknplefbaaGreatDoorTN32
set_option linter.all false
open List renaming getElem?_eq_getElem->zf0z,replicate->zf1z,drop_eq_getElem_cons->zf2z,getElem_mem->zf3z,drop_eq_nil_of_le->zf4z,map_nil->zf5z,map_cons->zf6z,getElem?_replicate->zf7z,length_nil->zf8z,length_replicate->zf9z,any_cons->zg0z,all_cons->zg1z
set_option linter.all false
namespace Go.Abs.Q
open Go.Proofs
attribute [local simp] E5 E6 fin J4 H8 Q3 S6
theorem A0b(g:Tyg)(D6:g.tys.length<=1000000)(hf:∀x∈g.tys,x.t.size<=1048576/\V7 x.u)(fr:Fr)(h:AH)(hB:h.boxes=[(EO g).cells])(hl:fr.length=87)(h1:B2 fr 1=.ptr 0 0)(h3:B2 fr 3=.int .i64 0) :
  D7 (lp (A8 (m6 Q) (B1 EJ) CP) (fr,h)) λe B8 h'=>Kp CP.wr fr B8/\h'=h/\(e=.exit 0/\g.tys.all Ns=true\/e=.ret/\B2 B8 2=.bool false/\g.tys.all Ns=false):=by
 refine E9 rfl fr (λn fr h'=>∃(i:Nat),i+n=g.tys.length/\B2 fr 3=.int .i64 (i:Nat)/\(h'=h/\(g.tys.drop i).all Ns=g.tys.all Ns)) ?_ g.tys.length h ⟨0,a_,h3,⟨rfl,rfl⟩⟩;rintro J Φ hJ hΦ n CT H1 K ⟨i,hi,k3,hr⟩;have C6:=K.1.trans hl;have k1:=D4 K 1 h1;clear K;by_cases C2:i<g.tys.length
 .have L4:=J6 i a_;obtain⟨rfl,hr⟩:=hr;obtain⟨bx,F⟩:=H1;simp only at hB;subst hB;have hx:=J5 (f:=r8) (zf0z C2);have hm:=zf3z C2;have hF:=lX g.tys[i].t (hf _ hm).1;have hV:=QO g.tys[i].u (hf _ hm).2;rw[zf2z C2,zg1z]at hr;generalize g.tys[i]=x at *
  have xg:=G9 x.t;have ug:=Ax x.u;simp only[r8]at hx;cases c1:Im x.t with
  |false =>
   have h2:Ns x=false:=by simp[Ns,c1]
   rw[h2]at hr;rw[c1]at hF;simp[CP,C6,k1,k3,C2,L4,hx,xg,ug,hF];exact hΦ _ _ _ ⟨rfl,.inr ⟨rfl,d_,f_⟩⟩
  |true =>
   rw[c1]at hF;by_cases c2:KT x.u=0
   .have h2:Ns x=true:=by simp[Ns,c1,c2]
    rw[h2]at hr;rw[c2]at hV;simp[CP,C6,k1,k3,C2,L4,hx,xg,ug,hF,hV];exact V6 hJ ⟨i+1,a_,d_,rfl,h_⟩
   .have h2:Ns x=false:=by simp[Ns,c1,c2]
    rw[h2]at hr;simp[CP,C6,k1,k3,C2,L4,hx,xg,ug,hF,hV,c2];exact hΦ _ _ _ ⟨rfl,.inr ⟨rfl,d_,f_⟩⟩
 .obtain⟨rfl,hr⟩:=hr;obtain⟨bx,F⟩:=H1;simp only at hB;subst hB;rw[zf4z a_]at hr;simp[CP,C6,k1,k3,C2];exact hΦ _ _ _ ⟨rfl,.inl ⟨rfl,f_⟩⟩
theorem A0Z(b:Nat)(c0 c1:AV)(m:Gg)(l:Be)(D6:l.length<=1048576)(hf:∀x∈l,x.size<=1048576)(fr:Fr)(h:AH)(hB:h.boxes[b]?=some [c0,c1,sl m 4 (C4 l)])(hl:fr.length=87)(h5:B2 fr 5=.ptr b 0)(h6:B2 fr 6=.int .i64 0) :
  D7 (lp (A8 (m6 Q) (B1 EJ) Di) (fr,h)) λe B8 h'=>Kp Di.wr fr B8/\h'=h/\(e=.exit 4/\(l.any λt=>!Im t)=false\/e=.ret/\B2 B8 2=.bool false/\(l.any λt=>!Im t)=true):=by
 refine E9 rfl fr (λn fr h'=>∃(i:Nat),i+n=l.length/\B2 fr 6=.int .i64 (i:Nat)/\(h'=h/\((l.drop i).any λt=>!Im t)=l.any λt=>!Im t)) ?_ l.length h ⟨0,a_,h6,⟨rfl,rfl⟩⟩;rintro J Φ hJ hΦ n CT H1 K ⟨i,hi,k6,hr⟩;have C6:=K.1.trans hl;have k5:=D4 K 5 h5;clear K;by_cases C2:i<l.length
 .have L4:=J6 i a_;obtain⟨rfl,hr⟩:=hr;obtain⟨bx,F⟩:=H1;simp only at hB;have hx:=Gk C2;have hm:=zf3z C2;have hF:=lX l[i] (hf _ hm);rw[zf2z C2,zg0z]at hr;generalize l[i]=x at *
  have xg:=G9 x;cases c1:Im x with
  |false =>
   rw[c1]at hF hr;simp[Di,C6,k5,k6,C2,L4,hB,hx,xg,hF];exact hΦ _ _ _ ⟨rfl,.inr ⟨rfl,d_,f_⟩⟩
  |true =>
   rw[c1]at hF hr;simp[Di,C6,k5,k6,C2,L4,hB,hx,xg,hF];exact V6 hJ ⟨i+1,a_,d_,rfl,h_⟩
 .obtain⟨rfl,hr⟩:=hr;obtain⟨bx,F⟩:=H1;simp only at hB;rw[zf4z a_]at hr;simp[Di,C6,k5,k6,C2,hB];exact hΦ _ _ _ ⟨rfl,.inl ⟨rfl,f_⟩⟩
theorem one0{α:Type}{l:List α}{a:α}(h0:l[0]?=some a):∃r,l=a::r:=by
 rcases l with _|⟨x,r⟩<;>simp at h0
 exact⟨r,by rw[h0]⟩
theorem A0a(g:Tyg)(D6:g.effs.length<=1000000)(hf:∀f∈g.effs,Tm.sizes f.terms<=1048576)(fr:Fr)(h:AH)(hB:h.boxes=[(EO g).cells])(hl:fr.length=87)(h1:B2 fr 1=.ptr 0 0)(h4:B2 fr 4=.int .i64 0) :
  D7 (lp (A8 (m6 Q) (B1 EJ) y8) (fr,h)) λe B8 h'=>Kp y8.wr fr B8/\(e=.exit 2/\g.effs.all ig=true\/e=.ret/\B2 B8 2=.bool false/\g.effs.all ig=false):=by
 refine E9 rfl fr (λn fr h'=>∃(i:Nat),i+n=g.effs.length/\B2 fr 4=.int .i64 (i:Nat)/\(h'.boxes[0]?=some (EO g).cells/\(g.effs.drop i).all ig=g.effs.all ig)) ?_ g.effs.length h ⟨0,a_,h4,⟨by rw[hB];rfl,rfl⟩⟩;rintro J Φ hJ hΦ n CT H1 K ⟨i,hi,k4,hr⟩;have C6:=K.1.trans hl;have k1:=D4 K 1 h1;clear K;by_cases C2:i<g.effs.length
 .have L4:=J6 i a_;obtain⟨hb,hr⟩:=hr;obtain⟨bx,F⟩:=H1;simp only at hb;rw[GX]at hb;obtain⟨rest,rfl⟩:=one0 hb;have hx:=J5 (f:=Dp) (zf0z C2);have hm:=zf3z C2;have hff:=hf _ hm;rw[zf2z C2,zg1z]at hr;generalize g.effs[i]=f at *
  have fg:=UK f;have fc:=Il f;have hlf:=Tm.length_le f.terms;generalize hN:(f.terms.length:Int)=N at *
  have bad:ig f=false->∀B8 h',B2 B8 2=.bool false->Φ .ret B8 h':=λhv B8 h' h2=>by
   rw[hv]at hr;exact hΦ _ _ _ (.inr ⟨rfl,h2,f_⟩)
  by_cases c1:f.kind=2
  .by_cases c2:f.goal<0
   .simp[y8,C6,k1,k4,C2,L4,hx,fg,fc,eq_true c1,c2];exact bad (by simp[ig,c1,c2]) _ _ d_
   .by_cases c3:7<f.goal
    .simp[y8,C6,k1,k4,C2,L4,hx,fg,fc,eq_true c1,c2,c3];exact bad (by simp[ig,c1,c2,c3]) _ _ d_
    .by_cases c4:8<N
     .simp[y8,C6,k1,k4,C2,L4,hx,fg,fc,eq_true c1,c2,c3,hN,c4];exact bad (by simp[ig,c1,c2,c3,hN,c4]) _ _ d_
     .simp[y8,C6,k1,k4,C2,L4,hx,fg,fc,eq_true c1,c2,c3,hN,c4];have Eg:=A0Z (rest.length+1) (.int .i64 f.kind) (.int .i64 f.goal) f.fm f.terms a_ (λx hx=>by have:=Tm.size_le hx;omega);refine D7.mono (Eg _ _ ?_ ?_ ?_ ?_) ?_<;>first|(simp[C6];done)|skip
      rintro e B8 h' ⟨K,rfl,⟨rfl,he⟩|⟨rfl,h4,he⟩⟩
      .have hv:ig f=true:=by simp only[ig,he,hN];simp[c1,c2,c3,c4]
       have hl':B8.length=87:=K.1.trans d_;have k4:B2 B8 4=.int .i64 i:=D4 K 4 (by simp[C6,k4]);rw[hv]at hr;simp[hl',k4,L4];exact V6 hJ ⟨i+1,a_,by simp[hl'],e_,h_⟩
      .simp;exact bad (by simp only[ig,he,hN];simp) _ _ h4
  .simp[y8,C6,k1,k4,C2,L4,hx,fg,fc,c1];exact bad (by simp[ig,c1]) _ _ d_
 .obtain⟨hb,hr⟩:=hr;obtain⟨bx,F⟩:=H1;simp only at hb;rw[GX]at hb;obtain⟨rest,rfl⟩:=one0 hb;rw[zf4z a_]at hr;simp[y8,C6,k1,k4,C2];exact hΦ _ _ _ (.inl ⟨rfl,f_⟩)
theorem qF(g:Tyg)(hF:TygFin g):pc Q EJ [EO g]=some (.bool (Wd g)):=by
 have h2:=A0b g hF.tl hF.ty;have AQ:=A0a g hF.el hF.ef;simp only[GX]at h2 AQ;unfold Wd;generalize hN:(g.tys.length:Int)=N;generalize hM:(g.effs.length:Int)=M;by_cases c1:80<N
 .refine J0 Ba λfr hl h0=>?_;simp[Ba]at hl h0;simp[Ba,hl,h0,c1,hN]
 by_cases c2:60<M
 .refine J0 Ba λfr hl h0=>?_;simp[Ba]at hl h0;simp[Ba,hl,h0,c1,c2,hN,hM]
 refine J0 Ba λfr hl h0=>?_;simp[Ba]at hl h0;simp[Ba,hl,h0,c1,c2,hN,hM];refine D7.mono (h2 _ _ ?_ ?_ ?_ ?_) ?_<;>first|rfl|(simp[hl,h0];done)|skip
 rintro e B8 h' ⟨K,rfl,⟨rfl,he⟩|⟨rfl,h4,he⟩⟩
 .have hl':B8.length=87:=K.1.trans c_;have k1:B2 B8 1=.ptr 0 0:=D4 K 1 c_;rw[he];simp[hl',k1];refine D7.mono (AQ _ _ ?_ ?_ ?_ ?_) ?_<;>first|rfl|(simp[hl',k1];done)|skip
  rintro e Zr h2 ⟨K2,⟨rfl,he2⟩|⟨rfl,h4,he2⟩⟩
  .have XI:Zr.length=87:=K2.1.trans (by simp[hl']);rw[he2];simp[XI]
  .rw[he2];simp[h4]
 .rw[he];simp[h4]
structure Bgn (g:Tyg) (role bad:Int) (a b:Nat) (c0 z:List AV) (h:AH) (v0 v1 v2 v3:AV):Prop where
 bx:h.boxes=[c0,z,[v0,v1,v2,v3,.vs true 0 [],.int .i64 0,.int .i64 role,.int .i64 0,.int .i64 bad,.vs true 0 [],.int .i64 0,.str (bs []),.int .i64 0,.vs true 0 [],.int .i64 0,.vs true 0 [],.int .i64 0,.int .i64 0,.vs true 0 []]]
 l0:IT false 6 (g.tys.map r8) v0 h
 l1:IT false 3 (g.effs.map Dp) v1 h
 l2:IT false 1 ((zf1z a (-1:Int)).map (AV.int .i64)) v2 h
 l3:IT false 1 ((zf1z b (-1:Int)).map (AV.int .i64)) v3 h
 a02:BI v2 v0
 a12:BI v2 v1
 a32:BI v2 v3
 a03:BI v3 v0
 a13:BI v3 v1
theorem mE(n:Nat):(zf1z n (-1:Int)).map (AV.int .i64)++[AV.int .i64 (-1)]=(zf1z (n+1) (-1:Int)).map (AV.int .i64):=by
 rw[List.replicate_succ',List.map_append];rfl
theorem Bgn.add2{g:Tyg}{role bad:Int}{a b:Nat}{c0 z:b9}{B:List (List AV)}{F:List Fam}{v0 v1 v2 v3:AV}(H:Bgn g role bad a b c0 z ⟨B,F⟩ v0 v1 v2 v3)(ha:a<=10000) :
  ∃v' F',(∀BB,N0 (B1 W6) ⟨BB,F⟩ 1 8 v2 (sl (true,true) 1 [.int .i64 (-1)])=some (v',⟨BB,F'⟩))/\v'.isTup=false/\v'.cells=[v']/\∀BB,BB=[c0,z,[v0,v1,v',v3,.vs true 0 [],.int .i64 0,.int .i64 role,.int .i64 0,.int .i64 bad,.vs true 0 [],.int .i64 0,.str (bs []),.int .i64 0,.vs true 0 [],.int .i64 0,.vs true 0 [],.int .i64 0,.int .i64 0,.vs true 0 []]]->Bgn g role bad (a+1) b c0 z ⟨BB,F'⟩ v0 v1 v' v3:=by
 obtain⟨v',F',a1,a2,a3⟩:=Gt (c:=B1 W6) (sz:=1) (bytes:=8) (x:=sl (true,true) 1 [AV.int .i64 (-1)]) (ys:=[AV.int .i64 (-1)]) H.l2 (W0 _ _ _ _) i_;obtain⟨c1,c2,-,-⟩:=L5 (a2 []);obtain⟨p0,q0⟩:=a3 _ _ _ _ H.l0 H.a02;obtain⟨p1,q1⟩:=a3 _ _ _ _ H.l1 H.a12;obtain⟨p3,q3⟩:=a3 _ _ _ _ H.l3 H.a32;exact⟨v',F',a1,c1,c2,λBB e=>⟨e,p0 _,p1 _,by rw[←mE];exact a2 _,p3 _,q0,q1,q3,H.a03,H.a13⟩⟩
theorem Bgn.add3{g:Tyg}{role bad:Int}{a b:Nat}{c0 z:b9}{B:List (List AV)}{F:List Fam}{v0 v1 v2 v3:AV}(H:Bgn g role bad a b c0 z ⟨B,F⟩ v0 v1 v2 v3)(hb:b<=10000) :
  ∃v' F',(∀BB,N0 (B1 W6) ⟨BB,F⟩ 1 8 v3 (sl (true,true) 1 [.int .i64 (-1)])=some (v',⟨BB,F'⟩))/\v'.isTup=false/\v'.cells=[v']/\∀BB,BB=[c0,z,[v0,v1,v2,v',.vs true 0 [],.int .i64 0,.int .i64 role,.int .i64 0,.int .i64 bad,.vs true 0 [],.int .i64 0,.str (bs []),.int .i64 0,.vs true 0 [],.int .i64 0,.vs true 0 [],.int .i64 0,.int .i64 0,.vs true 0 []]]->Bgn g role bad a (b+1) c0 z ⟨BB,F'⟩ v0 v1 v2 v':=by
 obtain⟨v',F',a1,a2,a3⟩:=Gt (c:=B1 W6) (sz:=1) (bytes:=8) (x:=sl (true,true) 1 [AV.int .i64 (-1)]) (ys:=[AV.int .i64 (-1)]) H.l3 (W0 _ _ _ _) i_;obtain⟨c1,c2,-,-⟩:=L5 (a2 []);obtain⟨p0,q0⟩:=a3 _ _ _ _ H.l0 H.a03;obtain⟨p1,q1⟩:=a3 _ _ _ _ H.l1 H.a13;obtain⟨p2,q2⟩:=a3 _ _ _ _ H.l2 H.a32.symm;exact⟨v',F',a1,c1,c2,λBB e=>⟨e,p0 _,p1 _,p2 _,by rw[←mE];exact a2 _,H.a02,H.a12,q2.symm,q0,q1⟩⟩
theorem A0W(g:Tyg)(D6:g.tys.length<=1000)(role bad:Int)(z:b9)(V0 V1 V2 V3:AV)(fr:Fr)(h:AH)(H0:Bgn g role bad 0 0 (EO g).cells z h V0 V1 V2 V3)(hl:fr.length=55)(h3:B2 fr 3=.ptr 0 0)(h7:B2 fr 7=.ptr 2 0)(h8:B2 fr 8=.int .i64 0) :
  D7 (lp (A8 (m6 Q) (B1 W6) GI) (fr,h)) λe B8 h'=>Kp GI.wr fr B8/\e=.exit 0/\∃v0 v1 v2 v3,Bgn g role bad g.tys.length 0 (EO g).cells z h' v0 v1 v2 v3:=by
 refine E9 rfl fr (λn fr h'=>∃(i:Nat),i+n=g.tys.length/\B2 fr 8=.int .i64 (i:Nat)/\(∃v0 v1 v2 v3,Bgn g role bad i 0 (EO g).cells z h' v0 v1 v2 v3)) ?_ g.tys.length h ⟨0,a_,h8,⟨_,_,_,_,H0⟩⟩;rintro J Φ hJ hΦ n CT H1 K ⟨i,hi,k8,hr⟩;have C6:=K.1.trans hl;have k3:=D4 K 3 h3;have k7:=D4 K 7 h7;clear K;by_cases C2:i<g.tys.length
 .have L4:=J6 i a_;obtain⟨v0,v1,v2,v3,H⟩:=hr;obtain⟨bx,F⟩:=H1;have hb:=H.bx;simp only at hb;rw[GX]at hb;obtain⟨v',F',a1,c1,c2,H2⟩:=H.add2 a_;obtain⟨d1,d2,d3,-⟩:=L5 H.l2;subst hb;simp[GI,C6,k3,k7,k8,C2,L4,a1,c1,c2,d1,d2,d3,A9];exact V6 hJ ⟨i+1,a_,d_,v0,v1,v',v3,H2 _ e_⟩
 .obtain⟨v0,v1,v2,v3,H⟩:=hr;obtain⟨bx,F⟩:=H1;have hb:=H.bx;simp only at hb;rw[GX]at hb;have BR:i=g.tys.length:=by omega
  subst BR;subst hb;simp[GI,C6,k3,k7,k8,C2];exact hΦ _ _ _ ⟨rfl,v0,v1,v2,v3,H⟩
theorem A0V(g:Tyg)(D6:g.effs.length<=1000)(role bad:Int)(a:Nat)(z:b9)(V0 V1 V2 V3:AV)(fr:Fr)(h:AH)(H0:Bgn g role bad a 0 (EO g).cells z h V0 V1 V2 V3)(hl:fr.length=55)(h3:B2 fr 3=.ptr 0 0)(h7:B2 fr 7=.ptr 2 0)(h9:B2 fr 9=.int .i64 0) :
  D7 (lp (A8 (m6 Q) (B1 W6) GH) (fr,h)) λe B8 h'=>Kp GH.wr fr B8/\e=.exit 2/\∃v0 v1 v2 v3,Bgn g role bad a g.effs.length (EO g).cells z h' v0 v1 v2 v3:=by
 refine E9 rfl fr (λn fr h'=>∃(i:Nat),i+n=g.effs.length/\B2 fr 9=.int .i64 (i:Nat)/\(∃v0 v1 v2 v3,Bgn g role bad a i (EO g).cells z h' v0 v1 v2 v3)) ?_ g.effs.length h ⟨0,a_,h9,⟨_,_,_,_,H0⟩⟩;rintro J Φ hJ hΦ n CT H1 K ⟨i,hi,k9,hr⟩;have C6:=K.1.trans hl;have k3:=D4 K 3 h3;have k7:=D4 K 7 h7;clear K;by_cases C2:i<g.effs.length
 .have L4:=J6 i a_;obtain⟨v0,v1,v2,v3,H⟩:=hr;obtain⟨bx,F⟩:=H1;have hb:=H.bx;simp only at hb;rw[GX]at hb;obtain⟨v',F',a1,c1,c2,H2⟩:=H.add3 a_;obtain⟨d1,d2,d3,-⟩:=L5 H.l3;subst hb;simp[GH,C6,k3,k7,k9,C2,L4,a1,c1,c2,d1,d2,d3,A9];exact V6 hJ ⟨i+1,a_,d_,v0,v1,v2,v',H2 _ e_⟩
 .obtain⟨v0,v1,v2,v3,H⟩:=hr;obtain⟨bx,F⟩:=H1;have hb:=H.bx;simp only at hb;rw[GX]at hb;have BR:i=g.effs.length:=by omega
  subst BR;subst hb;simp[GH,C6,k3,k7,k9,C2];exact hΦ _ _ _ ⟨rfl,v0,v1,v2,v3,H⟩
theorem xA(g:Tyg)(ht:g.tys.length<=1000)(he:g.effs.length<=1000)(role bad:Int):∃s:RS,pc Q W6 [EO g,.int .i64 role,.int .i64 bad]=some (JA s)/\s.tys=g.tys/\s.effs=g.effs/\s.ti=zf1z g.tys.length (-1)/\s.ei=zf1z g.effs.length (-1)/\s.l=[]:=by
 suffices hq:∃r,pc Q W6 [EO g,.int .i64 role,.int .i64 bad]=some r/\∃s:RS,r=JA s/\s.tys=g.tys/\s.effs=g.effs/\s.ti=zf1z g.tys.length (-1)/\s.ei=zf1z g.effs.length (-1)/\s.l=[] by
  obtain⟨r,h1,s,rfl,h2⟩:=hq;exact⟨s,h1,h2⟩
 obtain⟨v0,F1,a1,l1,-⟩:=Gt (c:=B1 W6) (sz:=6) (bytes:=88) (xs:=[]) (ys:=g.tys.map r8) (v:=.vs true 0 []) (x:=sl g.tm 6 (g.tys.map r8)) (h:=(⟨[],[]⟩:AH)) (Qd _ _ _) (W0 _ _ _ _) i_;obtain⟨v1,F2,a2,l2,a3⟩:=Gt (c:=B1 W6) (sz:=3) (bytes:=40) (xs:=[]) (ys:=g.effs.map Dp) (v:=.vs true 0 []) (x:=sl g.em 3 (g.effs.map Dp)) (h:=(⟨[],F1⟩:AH)) (Qd _ _ _) (W0 _ _ _ _) i_;simp only at a1 a2;obtain⟨p0,q0⟩:=a3 _ _ _ _ (l1 []) (BI.vs' _ _ _ _);obtain⟨c1,c2,-,-⟩:=L5 (l1 []);obtain⟨d1,d2,-,-⟩:=L5 (l2 []);have HB:∀(z:List AV) (BB:List (List AV)),BB=[(EO g).cells,z,[v0,v1,.vs true 0 [],.vs true 0 [],.vs true 0 [],.int .i64 0,.int .i64 role,.int .i64 0,.int .i64 bad,.vs true 0 [],.int .i64 0,.str (bs []),.int .i64 0,.vs true 0 [],.int .i64 0,.vs true 0 [],.int .i64 0,.int .i64 0,.vs true 0 []]]->Bgn g role bad 0 0 (EO g).cells z ⟨BB,F2⟩ v0 v1 (.vs true 0 []) (.vs true 0 []):=λz BB e =>
  ⟨e,p0 _,l2 _,Qd _ _ _,Qd _ _ _,BI.vs' _ _ _ _,BI.vs' _ _ _ _,BI.vs' _ _ _ _,BI.vs' _ _ _ _,BI.vs' _ _ _ _⟩
 refine XT Pc λΨ hΨ fr hl h0 h1 h2=>?_;simp[Pc]at hl h0 h1 h2;simp[Pc,hl,h0,h1,h2,B5,C0,a1,a2,c1,c2,d1,d2];refine D7.mono (A0W g ht role bad _ v0 v1 (.vs true 0 []) (.vs true 0 []) _ _ (HB _ _ (by rw[GX])) ?_ ?_ ?_ ?_) ?_<;>first|(simp[hl,h0,h1,h2];done)|skip
 rintro e B8 ⟨bx,F⟩ ⟨K,rfl,w0,w1,w2,w3,H⟩;have hl':B8.length=55:=K.1.trans c_;have k3:B2 B8 3=.ptr 0 0:=D4 K 3 c_;have k6:B2 B8 6=.ptr 1 0:=D4 K 6 c_;have k7:B2 B8 7=.ptr 2 0:=D4 K 7 c_;have hb:=H.bx;simp only at hb;rw[GX]at hb;subst hb;simp[hl',k3,k7];refine D7.mono (A0V g he role bad g.tys.length _ w0 w1 w2 w3 _ _ H ?_ ?_ ?_ ?_) ?_<;>first|(simp[hl',k3,k7];done)|skip
 rintro e Zr ⟨bx,F⟩ ⟨K2,rfl,u0,u1,u2,u3,H2⟩;have XI:Zr.length=55:=K2.1.trans (by simp[hl']);have j6:B2 Zr 6=.ptr 1 0:=D4 K2 6 (by simp[hl',k6]);have j7:B2 Zr 7=.ptr 2 0:=D4 K2 7 (by simp[hl',k7]);have hb:=H2.bx;simp only at hb;rw[GX]at hb;subst hb;obtain⟨m0,z0⟩:=CS H2.l0;obtain⟨m1,z1⟩:=CS H2.l1;obtain⟨m2,z2⟩:=CS H2.l2;obtain⟨m3,z3⟩:=CS H2.l3;have y0:=λB=>(z0 B true rfl).2;have y1:=λB=>(z1 B true rfl).2;have y2:=λB=>(z2 B true rfl).2;have y3:=λB=>(z3 B true rfl).2;simp only at y0 y1 y2 y3;simp[XI,j6,j7,y0,y1,y2,y3];exact hΨ _ ⟨⟨m0,g.tys,m1,g.effs,m2,zf1z g.tys.length (-1),m3,zf1z g.effs.length (-1),(true,false),[],role,0,bad⟩,by unfold JA;simp only[List.map_replicate,zf5z];rfl,rfl,rfl,rfl,rfl,rfl⟩
def RTm(g:Tyg)(t:Tm)(r:AV):Prop:=∃(u:Typ) (m:Bool×Bool) (l:List Jdg) (e:Int),r=.tup [Hn u,sl m 14 (l.map V8),.int .i64 e]/\V7 u /\
 ((Wd g=false/\u=Q9 0/\e=1)\/(Wd g=true/\((vE t≠0/\u=Q9 0/\e=vE t)\/(vE t=0/\((ty g.tys g.effs t=none/\u=Q9 0/\e=10)\/(ty g.tys g.effs t=some u/\e=0))))))
set_option maxHeartbeats 2000000 in
theorem A1A(g:Tyg)(t:Tm)(hF:TygFin g)(hs:t.size<=100):∃r,pc Q Mr [EO g,I8 t]=some r/\RTm g t r:=by
 have hv:=qF g hF;have ht:=Oz t a_;have tg:=G9 t;have tc:=I7 t;have gg:=ZJ g;have sm0:AV.agg [.int .i64 0,.vs true 0 []]=Hn (Q9 0):=rfl;have sm0c:(Hn (Q9 0)).cells=[.int .i64 0,.vs true 0 []]:=rfl;have hp0:=t.size_pos;cases hvg:Wd g with
 |false =>
  rw[hvg]at hv;refine Bs S0 λΨ hΨ fr hl h0 h1=>?_;simp[S0]at hl h0 h1;simp[S0,hl,h0,h1,hv,B5,C0];exact hΨ _ ⟨Q9 0,(true,false),[],1,rfl,AR 0,.inl ⟨hvg,rfl,rfl⟩⟩
 |true =>
  rw[hvg]at hv;by_cases hE:vE t=0
  .rw[hE]at ht;have O9:=uT hF hvg;obtain⟨s0,hB,e1,e2,e3,e4,e5⟩:=xA g O9.tl O9.el 0 0;have I0:RInv s0:=⟨by rw[e1,e2];exact O9,by rw[e3,e1,zf9z],by rw[e4,e2,zf9z],λi k h hk=>by rw[e3,zf7z]at h;split at h<;>cases h;omega,λi k h hk=>by rw[e4,zf7z]at h;split at h<;>cases h;omega,λJ hJ=>by rw[e5]at hJ;cases hJ⟩;obtain⟨s1,k1,hT,I1,G1,r1⟩:=mH t.size t s0 (Nat.le_refl _) ⟨hE,hs⟩ I0 (by rw[e5];simp;omega);rw[e1,e2]at r1;have L1:=G1.len;rw[e5,zf8z]at L1;rcases r1 with ⟨rfl,t1⟩|⟨j1,J1,rfl,hj1,f1,v1,t1⟩
   .refine Bs S0 λΨ hΨ fr hl h0 h1=>?_;simp[S0]at hl h0 h1;simp[S0,hl,h0,h1,hv,ht,tg,tc,gg,hB,hT,B5,C0];exact hΨ _ ⟨Q9 0,(true,false),[],10,rfl,AR 0,.inr ⟨hvg,.inr ⟨hE,.inl ⟨t1,rfl,rfl⟩⟩⟩⟩
   .have p1:¬(j1:Int)<0:=by omega
    obtain⟨x1,y1⟩:=HS hj1;have ug:=Ax J1.u;have hw:IntKind.i64.wrap ((s1.l.length:Int)-1)=(s1.l.length:Int)-1:=Y8 a_ a_;by_cases hlast:(j1:Int)<(s1.l.length:Int)-1
    .obtain⟨lm,hA⟩:=gv s1 22 (true,true) [(j1:Int)] t J1.u a_;rw[zf6z,zf5z]at hA;have hj2:(s1.l++[(⟨22,s1.role,s1.blk,s1.bad,(true,true),[(j1:Int)],t,J1.u,IS⟩:Jdg)])[s1.l.length]?=some ⟨22,s1.role,s1.blk,s1.bad,(true,true),[(j1:Int)],t,J1.u,IS⟩:=by simp
     generalize hs2:({s1 with lm:=lm,l:=s1.l++[⟨22,s1.role,s1.blk,s1.bad,(true,true),[(j1:Int)],t,J1.u,IS⟩]}:RS)=s2 at hA
     have hj3:s2.l[s1.l.length]?=some ⟨22,s1.role,s1.blk,s1.bad,(true,true),[(j1:Int)],t,J1.u,IS⟩:=by rw[←hs2];exact hj2
     obtain⟨x2,y2⟩:=HS hj3;refine Bs S0 λΨ hΨ fr hl h0 h1=>?_;simp[S0]at hl h0 h1;simp[S0,hl,h0,h1,hv,ht,tg,tc,gg,hB,hT,p1,hw,hlast,x1,y1,Q8,ug,A9,hA]
     with_reducible refine @E8 _ _ _ _ _ _ _ (λk=>k) (λ_=>True) [.nil,.rb 3,.nil,.nil,.nil,.rw,.nil,.rb 3,.sb 2,.nil,.nil] 0 (λa b e=>e) ?_ ?_ ?_
     .rfl
     .decide
     simp[S0,hl,h0,h1,x2,y2,Q8,ug];exact hΨ _ ⟨J1.u,s2.lm,s2.l,0,rfl,f1,.inr ⟨hvg,.inr ⟨hE,.inr ⟨t1,rfl⟩⟩⟩⟩
    .refine Bs S0 λΨ hΨ fr hl h0 h1=>?_;simp[S0]at hl h0 h1;simp[S0,hl,h0,h1,hv,ht,tg,tc,gg,hB,hT,p1,hw,hlast,x1,y1,Q8,ug]
     with_reducible refine @E8 _ _ _ _ _ _ _ (λk=>k) (λ_=>True) [.nil,.rb 3,.nil,.nil,.nil,.rw,.nil,.rb 3,.sb 2,.nil,.nil] 0 (λa b e=>e) ?_ ?_ ?_
     .rfl
     .decide
     simp[S0,hl,h0,h1,x1,y1,Q8,ug];exact hΨ _ ⟨J1.u,s1.lm,s1.l,0,rfl,f1,.inr ⟨hvg,.inr ⟨hE,.inr ⟨t1,rfl⟩⟩⟩⟩
  .refine Bs S0 λΨ hΨ fr hl h0 h1=>?_;simp[S0]at hl h0 h1;simp[S0,hl,h0,h1,hv,ht,tg,tc,gg,hE,B5,C0];exact hΨ _ ⟨Q9 0,(true,false),[],vE t,rfl,AR 0,.inr ⟨hvg,.inl ⟨hE,rfl,rfl⟩⟩⟩
structure JOk (J:Jdg):Prop where
 sz:J.t.size<=1048576
 fs:Tm.sizes J.f.terms<=1099511627776
 uf:V7 J.u
 al:J.args.length<=1000
 cl:(J.f=IS/\vE J.t=0/\KT J.u=0)\/(J.f.kind≠0/\J.t=Yo/\J.u=Q9 0/\∀t∈J.f.terms,vE t=0)
@[simp]theorem jd_isTup(j:Jdg):(V8 j).isTup=false:=p_ rfl
@[simp]theorem jd_flatA(j:Jdg):M9 (V8 j)=true:=p_ rfl
@[simp]theorem jd_frz(h:AH)(am:Bool)(j:Jdg):frz h am (V8 j)=some (V8 j):=DB h am rfl
@[simp]theorem jd_tame(h:AH)(j:Jdg):tame h (V8 j)=true:=p_ rfl
theorem Jd(J:Jdg)(hf:J.f=IS):pc Q Du [V8 J,.bool false]=some (.bool true):=by
 obtain⟨rule,role,blk,bad,am,args,t,u,f⟩:=J;simp only at hf;subst hf;refine j5 IK λfr hl h0 h1=>?_;simp[IK]at hl h0 h1;simp[IK,hl,h0,h1,Q8,IS]
theorem eI(J:Jdg)(ht:J.t=Yo)(hu:J.u=Q9 0):pc Q Du [V8 J,.bool true]=some (.bool true):=by
 obtain⟨rule,role,blk,bad,am,args,t,u,f⟩:=J;simp only at ht hu;subst ht hu;have z1:Yo.kind=0:=rfl;have z2:Yo.name=bs []:=rfl;have z3:Yo.sort=0:=rfl;have z4:Yo.kids=[]:=rfl;have z5:(Q9 0).kind=0:=rfl;have z6:(Q9 0).ps=[]:=rfl;refine j5 IK λfr hl h0 h1=>?_;simp[IK]at hl h0 h1;simp[IK,hl,h0,h1,Q8,z1,z2,z3,z4,z5,z6]
theorem Nn(J:Jdg)(k:Int)(hu:V7 J.u):pc Q Nf [V8 J,.int .i64 k]=some (.bool (Hw J.u (Q9 k))):=by
 have hS:=QN J.u (Q9 k) ⟨hu.1,λp hp=>(hu.2 p hp).2⟩;have sp:=Fd k;have ug:=Ax J.u;refine j5 Ug λfr hl h0 h1=>?_;simp[Ug]at hl h0 h1;simp[Ug,hl,h0,h1,Q8,ug,sp,hS]
theorem lB(jj:Jdg)(D6:jj.f.terms.length<=1099511627776)(hv:∀t∈jj.f.terms,vE t=0)(fr:Fr)(h:AH)(hB:h.boxes=[(V8 jj).cells])(hl:fr.length=40)(h1:B2 fr 1=.ptr 0 0)(h3:B2 fr 3=.int .i64 0) :
  D7 (lp (A8 (m6 Q) (B1 GS) GK) (fr,h)) λe B8 h'=>Kp GK.wr fr B8/\h'=h/\e=.exit 0:=by
 refine E9 rfl fr (λn fr h'=>∃(i:Nat),i+n=jj.f.terms.length/\B2 fr 3=.int .i64 (i:Nat)/\(h'=h)) ?_ jj.f.terms.length h ⟨0,a_,h3,rfl⟩;rintro J Φ hJ hΦ n CT H1 K ⟨i,hi,k3,hr⟩;have C6:=K.1.trans hl;have k1:=D4 K 1 h1;clear K;by_cases C2:i<jj.f.terms.length
 .have L4:=J6 i a_;subst hr;obtain⟨bx,F⟩:=H1;simp only at hB;subst hB;have hx:=Gk C2;have hm:=zf3z C2;have hV:=hv _ hm;have X9:=(P9 (BZ hV).1).2.1;have hF:=Oz jj.f.terms[i] a_;rw[hV]at hF;generalize jj.f.terms[i]=x at *
  have xg:=G9 x;simp[GK,C6,k1,k3,C2,L4,Q8,hx,xg,hF];exact V6 hJ ⟨i+1,a_,d_,rfl⟩
 .subst hr;obtain⟨bx,F⟩:=H1;simp only at hB;subst hB;simp[GK,C6,k1,k3,C2,Q8];exact hΦ _ _ _ ⟨rfl,rfl⟩
theorem eH(J:Jdg)(h:JOk J):pc Q GS [V8 J]=some (.bool true):=by
 have Eg:=lB J (by have:=Tm.length_le J.f.terms;have:=h.fs;omega);have tg:=G9 J.t;have ug:=Ax J.u;rcases h.cl with ⟨hf,ht,hu⟩|⟨hf,ht,hu,hv⟩
 .have Eg:=Eg (by rw[hf];intro t ht;cases ht);have h1:=Oz J.t (by have:=h.sz;omega);rw[ht]at h1;have h2:=QO J.u h.uf;rw[hu]at h2;have hk:J.f.kind=0:=by rw[hf];rfl
  refine J0 Gd λfr hl h0=>?_;simp[Gd]at hl h0;simp[Gd,hl,h0];refine D7.mono (Eg _ _ ?_ ?_ ?_ ?_) ?_<;>first|rfl|(simp[hl,h0];done)|skip
  rintro e B8 h' ⟨K,rfl,rfl⟩;have hl':B8.length=40:=K.1.trans c_;have k1:B2 B8 1=.ptr 0 0:=D4 K 1 c_;simp[hl',k1,Q8,eq_true hk,tg,ug,h1,h2]
 .have Eg:=Eg hv;have hz:=eI J ht hu;refine J0 Gd λfr hl h0=>?_;simp[Gd]at hl h0;simp[Gd,hl,h0];refine D7.mono (Eg _ _ ?_ ?_ ?_ ?_) ?_<;>first|rfl|(simp[hl,h0];done)|skip
  rintro e B8 h' ⟨K,rfl,rfl⟩;have hl':B8.length=40:=K.1.trans c_;have k1:B2 B8 1=.ptr 0 0:=D4 K 1 c_;have hj:AV.agg (Q8 J)=V8 J:=rfl;simp only[Q8]at hj;simp[hl',k1,Q8,hf,hj,hz]
def yI(l:List Jdg)(i0:Nat)(q:Jdg)(qs:List Jdg):Prop:=qs.length=q.args.length/\∀(n:Nat) (k:Int),q.args[n]?=some k->∃(a:Nat) (K:Jdg),k=(a:Nat)/\a<i0/\l[a]?=some K/\qs[n]?=some K/\K.role=q.role/\K.bad=q.bad/\K.blk=q.blk/\JOk K
theorem wW(ml:Gg)(l:List Jdg)(hll:l.length<=1000000)(i0:Nat)(q:Jdg)(D6:q.args.length<=1000)(hq:l[i0]?=some q)(qs:List Jdg)(hA:yI l i0 q qs)(fr:Fr)(h:AH)(h6:B2 fr 6=.vs true 0 [])(hl:fr.length=89)(h0:B2 fr 0=sl ml 14 (l.map V8))(h1:B2 fr 1=.int .i64 (i0:Nat))(h7:B2 fr 7=.int .i64 0) :
  D7 (lp (A8 (m6 Q) (B1 Aq) ED) (fr,h)) λe B8 h'=>Kp ED.wr fr B8/\e=.exit 0/\h'.boxes=h.boxes/\IT false 14 (qs.map V8) (B2 B8 6) h':=by
 refine E9 rfl fr (λn fr h'=>∃(i:Nat),i+n=q.args.length/\B2 fr 7=.int .i64 (i:Nat)/\(h'.boxes=h.boxes/\IT false 14 ((qs.take i).map V8) (B2 fr 6) h')) ?_ q.args.length h ⟨0,a_,h7,⟨rfl,by rw[h6,List.take_zero,zf5z];exact Qd _ _ _⟩⟩;rintro J Φ hJ hΦ n CT H1 K ⟨i,hi,k7,hr⟩;have C6:=K.1.trans hl;have k0:=D4 K 0 h0;have k1:=D4 K 1 h1;clear K;by_cases C2:i<q.args.length
 .have L4:=J6 i a_;obtain⟨hb,hg⟩:=hr;obtain⟨bx,F⟩:=H1;simp only at hb;obtain⟨a,K,hk,h2,h3,h4,h5,h6',h7,h8⟩:=hA.2 i q.args[i] (zf0z C2);obtain⟨x1,y1⟩:=HS hq;obtain⟨x2,y2⟩:=HS h3;have x3:=J5 (f:=AV.int .i64) (zf0z C2);rw[hk]at x3;have hc:=eH K h8;have hla:i<qs.length:=by rw[hA.1];exact C2
  have hqs:qs[i]=K:=by rw[zf0z hla]at h4;exact Option.some.inj h4
  have e1:(qs.take (i+1)).map V8=(qs.take i).map V8++[V8 K]:=by rw[List.take_succ_eq_append_getElem hla,hqs];simp
  have e3:((qs.take i).map V8).length<=1000:=by rw[List.length_map,List.length_take];have:=hA.1;omega
  obtain⟨v',F',hap,Jj,-⟩:=Gt (c:=B1 Aq) (sz:=14) (bytes:=184) (x:=sl (true,true) 14 [V8 K]) (ys:=[V8 K]) hg (W0 _ _ _ _) (by simp only[List.length_cons,zf8z,K7,maxLen];omega);simp only at hap;have n1:¬((a:Int)<0):=by omega
  have n2:¬((i0:Int)<=(a:Int)):=by omega
  have kg:AV.agg (Q8 K)=V8 K:=rfl;simp only[Q8]at kg;rw[h5,h6',h7]at kg;simp[ED,C6,k0,k1,k7,C2,L4,x1,y1,x2,y2,x3,Q8,kg,n1,n2,h5,h6',h7,hc,hap,A9];exact V6 hJ ⟨i+1,a_,d_,hb,by simp[C6];rw[←List.map_take,e1];exact Jj _⟩
 .obtain⟨hb,hg⟩:=hr;obtain⟨bx,F⟩:=H1;obtain⟨x1,y1⟩:=HS hq;rw[List.take_of_length_le (by rw[hA.1];omega)]at hg;simp[ED,C6,k0,k1,k7,C2,x1,y1,Q8];exact hΦ _ _ _ ⟨rfl,hb,by simp[C6];exact hg⟩
theorem lZ(ml:Gg)(l:List Jdg)(hll:l.length<=1000000)(i0:Nat)(q:Jdg)(D6:q.args.length<=1000)(hq:l[i0]?=some q)(qs:List Jdg)(hA:yI l i0 q qs):∃m,pc Q Aq [sl ml 14 (l.map V8),.int .i64 (i0:Nat)]=some (.tup [sl m 14 (qs.map V8),.bool true]):=by
 suffices hq:∃r,pc Q Aq [sl ml 14 (l.map V8),.int .i64 (i0:Nat)]=some r/\∃m,r=.tup [sl m 14 (qs.map V8),.bool true] by
  obtain⟨r,h1,m,rfl⟩:=hq;exact⟨m,h1⟩
 have Eg:=wW ml l hll i0 q D6 hq qs hA;refine Bs MM λΨ hΨ fr hl h0 h1=>?_;simp[MM]at hl h0 h1;simp[MM,hl,h0,h1];refine D7.mono (Eg _ _ ?_ ?_ ?_ ?_ ?_) ?_<;>first|(simp[hl,h0,h1];done)|skip
 rintro e B8 ⟨bx,F⟩ ⟨K,rfl,hb,hg⟩;have hl':B8.length=89:=K.1.trans c_;obtain⟨m,z⟩:=CS hg;have z1:=λB=>(z B true rfl).1;have z2:=λB=>(z B true rfl).2;simp only at z1 z2;simp[hl',z1,z2];exact hΨ _ ⟨m,rfl⟩
theorem wa(g:Tyg)(D6:g.effs.length<=1000000)(hf:∀f∈g.effs,Tm.sizes f.terms<=1048576)(q:Jdg)(hs:Tm.sizes q.f.terms<=1099511627776)(hk:q.f.kind≠0)(hex:g.effs.any (λx=>Ii x q.f)=true)(fr:Fr)(h:AH)(hB:h.boxes=[(EO g).cells,(V8 q).cells])(hl:fr.length=61)(h2:B2 fr 2=.ptr 0 0)(h3:B2 fr 3=.ptr 1 0)(h5:B2 fr 5=.int .i64 0) :
  D7 (lp (A8 (m6 Q) (B1 Bn) BN) (fr,h)) λe B8 h'=>Kp BN.wr fr B8/\e=.ret/\B2 B8 4=.bool true:=by
 refine E9 rfl fr (λn fr h'=>∃(i:Nat),i+n=g.effs.length/\B2 fr 5=.int .i64 (i:Nat)/\(h'=h/\(g.effs.drop i).any (λx=>Ii x q.f)=true)) ?_ g.effs.length h ⟨0,a_,h5,⟨rfl,by simpa using hex⟩⟩;rintro J Φ hJ hΦ n CT H1 K ⟨i,hi,k5,hr⟩;have C6:=K.1.trans hl;have k2:=D4 K 2 h2;have k3:=D4 K 3 h3;clear K;by_cases C2:i<g.effs.length
 .have L4:=J6 i a_;obtain⟨rfl,hr⟩:=hr;obtain⟨bx,F⟩:=H1;simp only at hB;subst hB;have hx:=J5 (f:=Dp) (zf0z C2);have hm:=zf3z C2;have hS:=Qw g.effs[i] q.f (by have:=hf _ hm;omega) hs;rw[zf2z C2,zg0z]at hr;generalize g.effs[i]=x at *
  have xg:=UK x;have qg:=UK q.f;cases c1:Ii x q.f with
  |true =>
   rw[c1]at hS;simp[BN,C6,k2,k3,k5,C2,L4,Q8,hk,hx,xg,qg,hS];exact hΦ _ _ _ ⟨rfl,d_⟩
  |false =>
   rw[c1]at hS hr;simp[BN,C6,k2,k3,k5,C2,L4,Q8,hk,hx,xg,qg,hS];exact V6 hJ ⟨i+1,a_,d_,rfl,h_⟩
 .obtain⟨rfl,hr⟩:=hr;rw[zf4z a_]at hr;cases hr
def jr(q:Jdg)(x:Tyd):Bool:=Rr x.t q.t&&Hw x.u q.u
theorem wZ(g:Tyg)(D6:g.tys.length<=1000000)(hf:∀x∈g.tys,x.t.size<=1048576/\V7 x.u)(q:Jdg)(hs:q.t.size<=1048576)(hk:q.f.kind=0)(hex:g.tys.any (jr q)=true)(fr:Fr)(h:AH)(hB:h.boxes=[(EO g).cells,(V8 q).cells])(hl:fr.length=61)(h2:B2 fr 2=.ptr 0 0)(h3:B2 fr 3=.ptr 1 0)(h6:B2 fr 6=.int .i64 0) :
  D7 (lp (A8 (m6 Q) (B1 Bn) Cw) (fr,h)) λe B8 h'=>Kp Cw.wr fr B8/\e=.ret/\B2 B8 4=.bool true:=by
 refine E9 rfl fr (λn fr h'=>∃(i:Nat),i+n=g.tys.length/\B2 fr 6=.int .i64 (i:Nat)/\(h'=h/\(g.tys.drop i).any (jr q)=true)) ?_ g.tys.length h ⟨0,a_,h6,⟨rfl,by simpa using hex⟩⟩;rintro J Φ hJ hΦ n CT H1 K ⟨i,hi,k6,hr⟩;have C6:=K.1.trans hl;have k2:=D4 K 2 h2;have k3:=D4 K 3 h3;clear K;by_cases C2:i<g.tys.length
 .have L4:=J6 i a_;obtain⟨rfl,hr⟩:=hr;obtain⟨bx,F⟩:=H1;simp only at hB;subst hB;have hx:=J5 (f:=r8) (zf0z C2);have hm:=zf3z C2;have hS:=IF g.tys[i].t q.t (by have:=(hf _ hm).1;omega) a_;have hE:=QN g.tys[i].u q.u ⟨(hf _ hm).2.1,λp hp=>((hf _ hm).2.2 p hp).2⟩;rw[zf2z C2,zg0z]at hr;generalize g.tys[i]=x at *
  have xg:=G9 x.t;have ug:=Ax x.u;have qg:=G9 q.t;have vg:=Ax q.u;simp only[r8]at hx;cases c1:Rr x.t q.t with
  |false =>
   have h2:jr q x=false:=by simp[jr,c1]
   rw[h2]at hr;rw[c1]at hS;simp[Cw,C6,k2,k3,k6,C2,L4,Q8,eq_true hk,hx,xg,ug,qg,vg,hS];exact V6 hJ ⟨i+1,a_,d_,rfl,h_⟩
  |true =>
   rw[c1]at hS;cases c2:Hw x.u q.u with
   |true =>
    rw[c2]at hE;simp[Cw,C6,k2,k3,k6,C2,L4,Q8,eq_true hk,hx,xg,ug,qg,vg,hS,hE];exact hΦ _ _ _ ⟨rfl,d_⟩
   |false =>
    have h2:jr q x=false:=by simp[jr,c1,c2]
    rw[h2]at hr;rw[c2]at hE;simp[Cw,C6,k2,k3,k6,C2,L4,Q8,eq_true hk,hx,xg,ug,qg,vg,hS,hE];exact V6 hJ ⟨i+1,a_,d_,rfl,h_⟩
 .obtain⟨rfl,hr⟩:=hr;rw[zf4z a_]at hr;cases hr
theorem ln(g:Tyg)(hF:TygFin g)(q:Jdg)(h:JOk q)(hk:q.f.kind≠0)(hex:g.effs.any (λx=>Ii x q.f)=true):pc Q Bn [EO g,V8 q]=some (.bool true):=by
 have Eg:=wa g hF.el hF.ef q h.fs hk hex;refine j5 FC λfr hl h0 h1=>?_;simp[FC]at hl h0 h1;simp[FC,hl,h0,h1];refine D7.mono (Eg _ _ ?_ ?_ ?_ ?_ ?_) ?_<;>first|rfl|(simp[hl,h0,h1];done)|skip
 rintro e B8 h' ⟨K,rfl,h4⟩;simp[h4]
theorem lq(g:Tyg)(hF:TygFin g)(q:Jdg)(h:JOk q)(hk:q.f.kind=0)(hex:g.tys.any (jr q)=true):pc Q Bn [EO g,V8 q]=some (.bool true):=by
 have Eg:=wZ g hF.tl hF.ty q h.sz hk hex;refine j5 FC λfr hl h0 h1=>?_;simp[FC]at hl h0 h1;simp[FC,hl,h0,h1];refine Bd ?_;by_cases hc:0<g.effs.length
 .simp[BN,hl,h0,h1,Q8,eq_true hk,hc];refine D7.mono (Eg _ _ ?_ ?_ ?_ ?_ ?_) ?_<;>first|(simp[hl,h0,h1,Q8];done)|skip
  rintro e B8 h' ⟨K,rfl,h4⟩;simp[h4]
 .simp[BN,hl,h0,h1,Q8,eq_true hk,hc];refine D7.mono (Eg _ _ ?_ ?_ ?_ ?_ ?_) ?_<;>first|(simp[hl,h0,h1,Q8];done)|skip
  rintro e B8 h' ⟨K,rfl,h4⟩;simp[h4]
theorem TC(nm:Al)(m:Gg)(l:Be)(D6:l.length<=1000):∃m',pc Q Ao [.str nm,sl m 4 (C4 l)]=some (I8 (.mk 3 nm 0 m' l)):=by
 suffices hq:∃r,pc Q Ao [.str nm,sl m 4 (C4 l)]=some r/\∃m',r=I8 (.mk 3 nm 0 m' l) by
  obtain⟨r,h1,m',rfl⟩:=hq;exact⟨m',h1⟩
 obtain⟨v,F,a1,l1,-⟩:=Gt (c:=B1 Ao) (sz:=4) (bytes:=56) (xs:=[]) (ys:=C4 l) (v:=sl (true,true) 4 []) (x:=sl m 4 (C4 l)) (h:=(⟨[],[]⟩:AH)) (ZL _ _ _ true _) (W0 _ _ _ _) (by simp only[Z9,zf8z,K7,maxLen];omega);simp only at a1;obtain⟨c1,c2,c3,-⟩:=L5 (l1 []);obtain⟨m',z⟩:=CS (l1 []);have z1:=λBB=>(z BB true rfl).1;have z2:=λBB=>(z BB true rfl).2;simp only[List.nil_append]at z1 z2;refine Bs Sg λΨ hΨ fr hl h0 h1=>?_;simp[Sg]at hl h0 h1;simp[Sg,hl,h0,h1,A9,B5,C0,a1,c1,c2,c3,z1,z2];exact hΨ _ ⟨m',rfl⟩
theorem Wr{t:Tm}(hv:vE t=0)(hk:t.kind=3){nm:Al}(hn:t.name=nm){l:Be}(m:Gg)(hl:t.kids.map S4=l.map S4):Rr t (.mk 3 nm 0 m l)=true:=by
 rw[LC];have h0:=(P9 (BZ hv).1).1;obtain⟨k,n,s,m',ks⟩:=t;obtain⟨-,-,h|h⟩:=Mw h0
 .obtain⟨h,-⟩:=h;have:(Tm.mk k n s m' ks).kind=k:=rfl;have Ef:k=3:=hk;omega
 .have Ef:k=3:=hk;have hn':n=nm:=hn;have hl':ks.map S4=l.map S4:=hl;rw[Ef,hn',h.2];simp only[S4,Rs,hl']
theorem lA(m:Gg)(l:List Jdg)(D6:l.length<=1000)(hz:∀K∈l,K.f=IS)(fr:Fr)(h:AH)(hl:fr.length=179)(h1:B2 fr 1=sl m 14 (l.map V8))(h5:B2 fr 5=.int .i64 0) :
  D7 (lp (A8 (m6 Q) (B1 Ck) GJ) (fr,h)) λe B8 h'=>Kp GJ.wr fr B8/\h'=h/\e=.exit 0:=by
 refine E9 rfl fr (λn fr h'=>∃(i:Nat),i+n=l.length/\B2 fr 5=.int .i64 (i:Nat)/\(h'=h)) ?_ l.length h ⟨0,a_,h5,rfl⟩;rintro J Φ hJ hΦ n CT H1 K ⟨i,hi,k5,hr⟩;have C6:=K.1.trans hl;have k1:=D4 K 1 h1;clear K;by_cases C2:i<l.length
 .have L4:=J6 i a_;subst hr;have hx:=J5 (f:=V8) (zf0z C2);have hZ:=Jd l[i] (hz _ (zf3z C2));generalize l[i]=x at *
  have xg:AV.agg (Q8 x)=V8 x:=rfl;simp only[Q8]at xg;simp[GJ,C6,k1,k5,C2,L4,hx,Q8,xg,hZ];exact V6 hJ ⟨i+1,a_,d_,rfl⟩
 .subst hr;simp[GJ,C6,k1,k5,C2];exact hΦ _ _ _ ⟨rfl,rfl⟩
set_option maxHeartbeats 4000000 in
theorem qG(q K:Jdg)(m:Gg)(hv:vE q.t=0)(hvK:vE K.t=0)(hq:V7 q.u)(hK:V7 K.u)(hf:K.f=IS)(h:OneR q.rule q.t q.u K):pc Q Ck [V8 q,sl m 14 ([K].map V8)]=some (.bool true):=by
 have Eg:=lA m [K] e_ (by simpa using hf);have s1:=(P9 (BZ hv).1).2.1;have s2:=(P9 (BZ hvK).1).2.1;have qg:=G9 q.t;have kg:=G9 K.t;have qu:=Ax q.u;have ku:=Ax K.u;have qj:AV.agg (Q8 q)=V8 q:=rfl;have kj:AV.agg (Q8 K)=V8 K:=rfl;simp only[Q8]at qj kj;rcases h with ⟨hr,ht,⟨a,e,he⟩,hu⟩|⟨hr,ht,⟨a,e,he⟩,hu⟩|⟨hr,he,hu⟩
 .obtain⟨hk,hn⟩:=Dq.1 ht;have hrr:∀k:Int,(q.rule=k)=((14:Int)=k):=λk=>by rw[hr]
  obtain⟨m',hA⟩:=TC (bs [104,97,115,104]) (true,true) [K.t] e_;have hA:pc Q Ao [.str (bs [104,97,115,104]),sl (true,true) 4 [I8 K.t]]=some (I8 (.mk 3 (bs [104,97,115,104]) 0 m' [K.t])):=hA;have hS:=IF q.t (.mk 3 (bs [104,97,115,104]) 0 m' [K.t]) a_ n_;rw[Wr hv hk hn m' (by rw[e];simp[he])]at hS;have hi:=Nn q 1 hq;rw[hu,By]at hi;refine j5 D5 λfr hl h0 h1=>?_;simp[D5]at hl h0 h1;simp[D5,hl,h0,h1,Q8,hrr];refine D7.mono (Eg _ _ ?_ ?_ ?_) ?_<;>first|(simp[hl,h0,h1];done)|skip
  rintro e B8 h' ⟨K1,rfl,rfl⟩;have hl':B8.length=179:=K1.1.trans c_;have k1:B2 B8 1=sl m 14 ([K].map V8):=D4 K1 1 l_;have k2:B2 B8 2=.ptr 0 0:=D4 K1 2 c_;simp only[zf6z,zf5z]at k1;simp[hl',k1,k2,Q8,hrr,qg,kg,qu,ku,qj,kj,A9,hA,hS,hi]
 .obtain⟨hk,hn⟩:=Dq.1 ht;have hrr:∀k:Int,(q.rule=k)=((15:Int)=k):=λk=>by rw[hr]
  obtain⟨m',hA⟩:=TC (bs [112,107]) (true,true) [K.t] e_;have hA:pc Q Ao [.str (bs [112,107]),sl (true,true) 4 [I8 K.t]]=some (I8 (.mk 3 (bs [112,107]) 0 m' [K.t])):=hA;have hS:=IF q.t (.mk 3 (bs [112,107]) 0 m' [K.t]) a_ n_;rw[Wr hv hk hn m' (by rw[e];simp[he])]at hS;rcases hu with ⟨k4,hu⟩|⟨k4,ho,hu⟩
  .have hE:=QN q.u ⟨5,K.u.m,K.u.ps⟩ ⟨hq.1,λp hp=>(hq.2 p hp).2⟩;have u5:=Ax ⟨5,K.u.m,K.u.ps⟩;simp only at u5;have hE2:Hw q.u ⟨5,K.u.m,K.u.ps⟩=true:=by rw[hu];exact By _
   rw[hE2]at hE;refine j5 D5 λfr hl h0 h1=>?_;simp[D5]at hl h0 h1;simp[D5,hl,h0,h1,Q8,hrr];refine D7.mono (Eg _ _ ?_ ?_ ?_) ?_<;>first|(simp[hl,h0,h1];done)|skip
   rintro e B8 h' ⟨K1,rfl,rfl⟩;have hl':B8.length=179:=K1.1.trans c_;have k1:B2 B8 1=sl m 14 ([K].map V8):=D4 K1 1 l_;have k2:B2 B8 2=.ptr 0 0:=D4 K1 2 c_;simp only[zf6z,zf5z]at k1;simp[hl',k1,k2,Q8,hrr,qg,kg,qu,ku,qj,kj,A9,B5,C0,hA,hS,eq_true k4,u5,hE]
  .have hO:=Iz K.u hK;rw[ho]at hO;have hi:=Nn q 1 hq;rw[hu,By]at hi;refine j5 D5 λfr hl h0 h1=>?_;simp[D5]at hl h0 h1;simp[D5,hl,h0,h1,Q8,hrr];refine D7.mono (Eg _ _ ?_ ?_ ?_) ?_<;>first|(simp[hl,h0,h1];done)|skip
   rintro e B8 h' ⟨K1,rfl,rfl⟩;have hl':B8.length=179:=K1.1.trans c_;have k1:B2 B8 1=sl m 14 ([K].map V8):=D4 K1 1 l_;have k2:B2 B8 2=.ptr 0 0:=D4 K1 2 c_;simp only[zf6z,zf5z]at k1;simp[hl',k1,k2,Q8,hrr,qg,kg,qu,ku,qj,kj,A9,hA,hS,k4,hO,hi]
 .have hrr:∀k:Int,(q.rule=k)=((22:Int)=k):=λk=>by rw[hr]
  have hS:=IF q.t K.t a_ a_;rw[LC.2 he.symm]at hS;have hU:=tX K.u q.u hK hq;rw[hu]at hU;refine j5 D5 λfr hl h0 h1=>?_;simp[D5]at hl h0 h1;simp[D5,hl,h0,h1,Q8,hrr];refine D7.mono (Eg _ _ ?_ ?_ ?_) ?_<;>first|(simp[hl,h0,h1];done)|skip
  rintro e B8 h' ⟨K1,rfl,rfl⟩;have hl':B8.length=179:=K1.1.trans c_;have k1:B2 B8 1=sl m 14 ([K].map V8):=D4 K1 1 l_;have k2:B2 B8 2=.ptr 0 0:=D4 K1 2 c_;simp only[zf6z,zf5z]at k1;simp[hl',k1,k2,Q8,hrr,qg,kg,qu,ku,qj,kj,A9,hS,hU]
end Go.Abs.Q
