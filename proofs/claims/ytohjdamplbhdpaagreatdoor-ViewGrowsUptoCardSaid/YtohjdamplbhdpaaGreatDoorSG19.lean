/- A part of the proof. -/
import Derived.Test.YtohjdamplbhdpaaGreatDoorSG18
set_option linter.all false
open Option renaming bind_some->xk
open List renaming getElem?_set_ne->xl,getElem?_set_self->xm,take_of_length_le->xn,getElem?_append_left->xp,getElem_mem->xq,take_succ_eq_append_getElem->xr,map_append->xt,map_eq_nil_iff->xu,map_cons->xw,map_nil->xy,drop_zero->xz,any_append->yB
open Nat renaming le_refl->xo
open Bool renaming and_eq_true->yA,true_or->yC
namespace Go.Abs.Q
open Go.Proofs
attribute [local simp] D0 D1 fin I1 E7
theorem lk (a:Int) (b c:H7) (m:I8) (l:I2) (d:Int):AV.agg [.int .i64 a,.str b,.str c,sl m 4 (A3 l),.int .i64 d]=DQ ⟨a,b,c,m,l,d⟩:=rfl
theorem aI {h:AH} {kd kg i m:Nat} {dd:I2} {X:E6} {g:Gol} (h1:h.fams[kd]?=some ⟨A3 dd,4,true⟩) (h2:h.fams[kg]?=some ⟨X,5,true⟩) (M5:kd≠kg) (hm:X.length=m) (hx:X[i]?=some (DQ g)) :
  HX h 1 (.sl kd dd.length 0 dd.length) (.ep kg m i 3 5)=some ⟨h.boxes,(h.fams.set kd ⟨A3 dd,4,false⟩).set kg ⟨X.set i (DQ ⟨g.kind,g.role,g.wth,(false,true),dd,g.line⟩),5,true⟩⟩:=by
 have hk:=J0 h1;have hl:VW h (.sl kd dd.length 0 dd.length)=some ⟨h.boxes,h.fams.set kd ⟨A3 dd,4,false⟩⟩:=by
  simp[VW,Rn,Dn,h1,ef]
 have hf:frz ⟨h.boxes,h.fams.set kd ⟨A3 dd,4,false⟩⟩ false (.sl kd dd.length 0 dd.length)=some (sl (false,true) 4 (A3 dd)):=by
  rw[Rn,Dn];simp only;rw[xm hk,xk,if_pos ⟨by simp,by omega,rfl⟩,xz,xn (by simp)]
 rw[NT,hl,xk];simp only;rw[xl M5,h2,xk,if_pos ⟨hm,rfl,rfl⟩];simp only;rw[hx,xk,hf,xk];simp[lk]
theorem Yf {h:AH} {kg i m:Nat} {b:Bool} {X:E6} {g:Gol} (h2:h.fams[kg]?=some ⟨X,5,true⟩) (hm:X.length=m) (hx:X[i]?=some (DQ g)) :
  HX h 1 (sl (true,b) 4 []) (.ep kg m i 3 5)=some ⟨h.boxes,h.fams.set kg ⟨X.set i (DQ ⟨g.kind,g.role,g.wth,(true,b),[],g.line⟩),5,true⟩⟩:=by
 rw[NT];simp only[VW,ny,xk];rw[h2,xk,if_pos ⟨hm,rfl,rfl⟩];simp only;rw[hx,xk];have e:=lk g.kind g.role g.wth (true,b) [] g.line;rw[show A3 []=[] from rfl]at e;simp[e]
theorem dO (by':AV) (f:ByteArray->Int) (l:List Gol) (C2:l.length<=1048576) (EF:∀g∈l,g.data.length<=1048576) (hby:∀h am,frz h am by'=some by') (hby2:∀h,tame h by'=true) (IH:∀g∈l,∀t∈g.data,∃t',pc Q I5 [B8 t,by']=some (B8 t')/\D5 t'=Y7 f t) (kg:Nat) (b0 b1 b2 b3 b4:AV) (C:E6) (fr:Fr) (h:AH) (hh:h.boxes=[[b0,b1,b2,b3,b4,.sl kg l.length 0 l.length],C]) (hfam:h.fams[kg]?=some ⟨l.map DQ,5,true⟩) (hl:fr.length=85) (h1:A0 fr 1=by') (h2:A0 fr 2=.ptr 0 0) (h51:A0 fr 51=.int .i64 l.length) (h52:A0 fr 52=.int .i64 0) :
  C8 (lp (A1 (Q8 Q) (G7 y5) d7) (fr,h)) λe D4 h'=>Kp d7.wr fr D4/\e=.exit 2/\∃(F:List Fam) (done:List Gol),h'=⟨h.boxes,F⟩/\F[kg]?=some ⟨done.map DQ,5,true⟩/\(∀j,j≠kg->j<h.fams.length->F[j]?=h.fams[j]?)/\done.map lg=l.map (Ya f)/\done.length=l.length:=by
 refine C3 rfl fr (λn fr h'=>∃(i:Nat),i+n=l.length/\A0 fr 52=.int .i64 (i:Nat)/\(∃(F:List Fam) (done:List Gol),h'=⟨h.boxes,F⟩/\F[kg]?=some ⟨(done++l.drop i).map DQ,5,true⟩/\(∀j,j≠kg->j<h.fams.length->F[j]?=h.fams[j]?)/\h.fams.length<=F.length/\done.map lg=(l.take i).map (Ya f)/\done.length=i)) ?_ l.length h ⟨0,by omega,h52,⟨_,[],rfl,by simpa using hfam,λ_ _ _=>rfl,xo _,rfl,rfl⟩⟩;rintro J Φ hJ hΦ n G9 H1 K ⟨i,hi,k52,hr⟩;have B4:=K.1.trans hl;have k1:=A5 K 1 h1;have k2:=A5 K 2 h2;have k51:=A5 K 51 h51;clear K;by_cases A6:i<l.length
 .have V7:=E5 i (by omega);obtain⟨F,done,rfl,hF,hFo,hFl,hd,hdn⟩:=hr;obtain⟨q1,q2,q3⟩:=NM DQ done l A6 hdn;have hq2:=List.getElem?_eq_some_iff.2 ⟨q1,q2⟩;have hkg:=J0 hF;have hkg0:=J0 hfam;obtain⟨w,⟨bx,F1⟩,hC,hRow,gH,e,hFe⟩:=LK l[i].dm (A3 l[i].data) (by have:=EF l[i] (xq A6);simpa using this) ⟨h.boxes,F⟩;simp only at gH hFe;subst gH;have hF1:F1[kg]?=some ⟨(done++l.drop i).map DQ,5,true⟩:=by rw[hFe,xp hkg];exact hF
  have hF1o:∀j,j≠kg->j<h.fams.length->F1[j]?=h.fams[j]?:=λj h1 h2=>by rw[hFe,xp (by omega)];exact hFo j h1 h2
  have hF1l:h.fams.length<=F1.length:=by rw[hFe];simp;omega
  have hlen7:∀h',Pn h' w=some (.int .i64 l[i].data.length,h'):=λh'=>by have:=VA hRow h';simpa using this
  have hIH:=IH l[i] (xq A6);have hdl':=EF l[i] (xq A6);have q4:=λg':Gol=>NN DQ done l A6 hdn g';have fin:∀g':Gol,lg g'=Ya f l[i]->(done++[g']).map lg=(l.take (i+1)).map (Ya f):=by
   intro g' he;rw[xr A6,xt,hd,xt,xw,xy,xw,xy,he]
  rw[hh]at hC hJ ⊢;clear hd hFe hFo;generalize hX:(done++l.drop i).map DQ=X at *
  generalize l[i]=g at *
  by_cases hnil:g.data=[]
  .obtain⟨-,b,rfl⟩:A3 g.data=[]/\∃b,w=sl (true,b) 4 []:=by
    rcases hRow with h|⟨h,_⟩
    .exact h
    .rw[hnil]at h;exact absurd rfl h
   have hSt:=Yf (h:=⟨[[b0,b1,b2,b3,b4,.sl kg l.length 0 l.length],C],F1⟩) (b:=b) hF1 q3 hq2;simp[d7,B4,k2,k51,k52,A6,hF,q2,q3,hC,hlen7];rw[hnil];refine C8.mono (fS _ _ ?_ ?_ ?_) ?_<;>first|(simp[B4];done)|skip
   rintro e Cs h2 ⟨K,rfl,rfl⟩;have Fd:Cs.length=85:=K.1.trans (by simp[B4]);have k2fr2:A0 Cs 2=.ptr 0 0:=A5 K 2 (by simp[k2]);have k6fr2:A0 Cs 6=.int .i64 (i:Nat):=A5 K 6 (by simp[B4]);have k7fr2:A0 Cs 7=sl (true,b) 4 []:=A5 K 7 (by simp[B4]);have k52fr2:A0 Cs 52=.int .i64 (i:Nat):=A5 K 52 (by simp[k52]);clear K;simp[Fd,k2fr2,k6fr2,k7fr2,k52fr2,A6,hSt,V7,-NT];exact O4 hJ ⟨i+1,by omega,by simp[Fd],_,done++[⟨g.kind,g.role,g.wth,(true,b),[],g.line⟩],rfl,by rw[xm (J0 hF1),q4],λj h1 h2=>by rw[xl (Ne.symm h1)];exact hF1o j h1 h2,by simpa using hF1l,fin _ (by simp[lg,Ya,hnil,G8,AS]),by simp[hdn]⟩
  .obtain⟨rfl,hkd⟩:w=.sl F.length g.data.length 0 g.data.length/\F1[F.length]?=some ⟨A3 g.data,4,true⟩:=by
    rcases hRow with ⟨h,_⟩|⟨_,h,h'⟩
    .rw[D7,xu]at h;exact absurd h hnil
    .exact⟨by simpa using h,h'⟩
   have M5:F.length≠kg:=by omega
   simp[d7,B4,k2,k51,k52,A6,hF,q2,q3,hC,hlen7];refine C8.mono (dN by' f g.data hdl' hby hby2 hIH F.length _ _ ?_ ?_ ?_ ?_ ?_ ?_) ?_<;>first|(simp[B4,k1];done)|skip
   .exact hkd
   rintro e Cs h2 ⟨K,rfl,dd,rfl,hdd,hddl⟩;have Fd:Cs.length=85:=K.1.trans (by simp[B4]);have k2fr2:A0 Cs 2=.ptr 0 0:=A5 K 2 (by simp[k2]);have k6fr2:A0 Cs 6=.int .i64 (i:Nat):=A5 K 6 (by simp[B4]);have k7fr2:A0 Cs 7=.sl F.length g.data.length 0 g.data.length:=A5 K 7 (by simp[B4]);have k52fr2:A0 Cs 52=.int .i64 (i:Nat):=A5 K 52 (by simp[k52]);clear K;have hkdl:=J0 hkd;have hSt:=aI (h:=⟨[[b0,b1,b2,b3,b4,.sl kg l.length 0 l.length],C],F1.set F.length ⟨A3 dd,4,true⟩⟩) (kd:=F.length) (dd:=dd) (xm hkdl) (by simp only;rw[xl M5];exact hF1) M5 q3 hq2;rw[hddl]at hSt;simp only[List.set_set]at hSt;simp[Fd,k2fr2,k6fr2,k7fr2,k52fr2,A6,hSt,V7,-NT];exact O4 hJ ⟨i+1,by omega,by simp[Fd],_,done++[⟨g.kind,g.role,g.wth,(false,true),dd,g.line⟩],rfl,by rw[xm (by simpa using J0 hF1),q4],λj h1 h2=>by rw[xl (Ne.symm h1),xl (by omega)];exact hF1o j h1 h2,by simpa using hF1l,fin _ (by simp[lg,Ya,hdd]),by simp[hdn]⟩
 .obtain⟨F,done,rfl,hF,hFo,hFl,hd,hdn⟩:=hr;have e:i=l.length:=by omega
  subst e;rw[List.take_length]at hd;rw[List.drop_length,List.append_nil]at hF;simp[d7,B4,k51,k52];exact hΦ _ _ _ ⟨rfl,F,done,rfl,hF,hFo,hd,hdn⟩
def On (n:Nar):Nar:=⟨n.name,(false,false),n.roles,(false,false),n.fresh,(false,false),n.tags,(false,false),n.steps.map Lo,(false,false),n.goals.map lg⟩
def DD (f:ByteArray->Int) (n:Nar):Nar:=⟨n.name,(false,false),n.roles,(false,false),n.fresh,(false,false),n.tags,(false,false),n.steps.map (Dd f),(false,false),n.goals.map (Ya f)⟩
theorem fV (fr:Fr) (h:AH) (hl:fr.length=85) (h51:A0 fr 51=.int .i64 0) (h52:A0 fr 52=.int .i64 0) :
  C8 (lp (A1 (Q8 Q) (G7 y5) d7) (fr,h)) λe D4 h'=>Kp d7.wr fr D4/\e=.exit 2/\h'=h:=by
 refine C3 rfl fr (λn D4 h'=>D4=fr/\h'=h) ?_ 0 h ⟨rfl,rfl⟩;rintro J Φ hJ hΦ n G9 H1 K ⟨rfl,rfl⟩;simp[d7,hl,h51,h52];exact hΦ _ _ _ ⟨rfl,rfl⟩
theorem Ho {h:AH} {k sz:Nat} {xs:E6} {b:Bool} (hk:h.fams[k]?=some ⟨xs,sz,b⟩) {n:Nat} (hn:xs.length=n):y8 h true (.sl k n 0 n)=some (sl (false,true) sz xs):=by
 rw[Dn,hk,xk,if_pos ⟨hn,by omega,rfl⟩,xz,xn (by simp[hn])]
structure Lens (n:Nar):Prop where
 names:n.roles.length+n.fresh.length+n.tags.length<=1048576
 steps:n.steps.length<=1048576
 goals:n.goals.length<=1048576
 data:∀g∈n.goals,g.data.length<=1048576
theorem nY (n:Nar) (hS:Lens n) (M5:n.steps≠[]) (r:AV) (ns:List ByteArray) (vs:List Int) (f:ByteArray->Int)
  (IH1:∀s∈n.steps,∃t',pc Q I5 [B8 s.msg,Yr r ns vs]=some (B8 t')/\D5 t'=Y7 f s.msg) (IH2:∀g∈n.goals,∀t∈g.data,∃t',pc Q I5 [B8 t,Yr r ns vs]=some (B8 t')/\D5 t'=Y7 f t) :
  ∃n',pc Q y5 [V8 n,Yr r ns vs]=some (V8 n')/\On n'=DD f n:=by
 suffices h:∃v,pc Q y5 [V8 n,Yr r ns vs]=some v/\∃n',v=V8 n'/\On n'=DD f n by
  obtain⟨v,h1,n',rfl,h2⟩:=h;exact⟨n',h1,h2⟩
 obtain⟨s0,s1,s2,s3⟩:=hS;obtain⟨name,rm,roles,fm,fresh,tm,tags,sm,steps,gm,goals⟩:=n;simp only at *
 obtain⟨m1,c1⟩:=Mb rm (roles.map .str) (by simp;omega);obtain⟨m2,c2⟩:=TV fm (fresh.map Gy) (by simp;omega);obtain⟨m3,c3⟩:=Mb tm (tags.map .str) (by simp;omega);obtain⟨w1,⟨B1,F1⟩,c4,r4,hb4,e4,f4⟩:=Vv sm (steps.map Cl) (by simpa using s1) ⟨[[.str name,sl m1 1 (roles.map .str),sl m2 3 (fresh.map Gy),sl m3 1 (tags.map .str),sl sm 7 (steps.map Cl),sl gm 5 (goals.map DQ)],[.str (bs []),.vs true 0 [],.vs true 0 [],.vs true 0 [],.vs true 0 [],.vs true 0 []]],[]⟩;simp only at hb4 f4;subst hb4;obtain⟨w2,⟨B2,F2⟩,c5,r5,hb5,e5,f5⟩:=Vu gm (goals.map DQ) (by simpa using s2) ⟨[[.str name,sl m1 1 (roles.map .str),sl m2 3 (fresh.map Gy),sl m3 1 (tags.map .str),sl sm 7 (steps.map Cl),sl gm 5 (goals.map DQ)],[.str (bs []),.vs true 0 [],.vs true 0 [],.vs true 0 [],.vs true 0 [],.vs true 0 []]],F1⟩;simp only at hb5 f5;subst hb5;obtain⟨rfl,hF1⟩:w1=.sl 0 steps.length 0 steps.length/\F1[0]?=some ⟨steps.map Cl,7,true⟩:=by
  rcases r4 with ⟨h,_⟩|⟨_,h,h'⟩
  .rw[xu]at h;exact absurd h M5
  .exact⟨by simpa using h,by simpa using h'⟩
 have hF2:F2[0]?=some ⟨steps.map Cl,7,true⟩:=by rw[f5,xp (J0 hF1)];exact hF1
 have hw2:=Pb r5;have hn2:∀h',Pn h' w2=some (.int .i64 goals.length,h'):=λh'=>by have:=VA r5 h';simpa using this
 have g1:=dP (Yr r ns vs) f steps s1 (λ_ _=>rfl) (λ_=>rfl) IH1 0 (.str name) (sl m1 1 (roles.map .str)) (sl m2 3 (fresh.map Gy)) (sl m3 1 (tags.map .str)) w2 [.str (bs []),.vs true 0 [],.vs true 0 [],.vs true 0 [],.vs true 0 [],.vs true 0 []];refine Ta Mr λΨ hΨ fr hl h0 h1=>?_;simp[Mr,V8]at hl h0 h1;simp[Mr,hl,h0,c1,c2,c3,c4,c5,hw2];refine C8.mono (g1 _ _ ?_ ?_ ?_ ?_ ?_ ?_ ?_) ?_<;>first|(simp[hl,h1];done)|skip
 .exact hF2
 rintro e G9 Jb ⟨K,rfl,S,rfl,hS1,hS2⟩;have M7:G9.length=85:=K.1.trans (by simp[hl]);have GN:A0 G9 1=Yr r ns vs:=A5 K 1 (by simp[h1]);have FM:A0 G9 2=.ptr 0 0:=A5 K 2 (by simp[hl]);have MT:A0 G9 4=.ptr 1 0:=A5 K 4 (by simp[hl]);clear K;simp[M7,FM,hn2];have hFz:(F2.set 0 ⟨S.map Cl,7,true⟩)[0]?=some ⟨S.map Cl,7,true⟩:=xm (J0 hF2);by_cases hg:goals=[]
 .subst hg;obtain⟨-,b,rfl⟩:([]:List Gol).map DQ=[]/\∃b,w2=sl (true,b) 5 []:=by
   rcases r5 with h|⟨h,_⟩
   .exact h
   .exact absurd rfl h
  refine C8.mono (fV _ _ ?_ ?_ ?_) ?_<;>first|(simp[M7];done)|skip
  rintro e Cs h2 ⟨K,rfl,rfl⟩;have Fd:Cs.length=85:=K.1.trans (by simp[M7]);have k2fr2:A0 Cs 2=.ptr 0 0:=A5 K 2 (by simp[FM]);have k4fr2:A0 Cs 4=.ptr 1 0:=A5 K 4 (by simp[MT]);clear K;have hz:=λB:List (List AV)=>Ho (h:=⟨B,F2.set 0 ⟨S.map Cl,7,true⟩⟩) hFz (n:=steps.length) (by simpa using hS2);simp[Fd,k2fr2,k4fr2,hz];exact hΨ _ ⟨⟨name,m1,roles,m2,fresh,m3,tags,(false,true),S,(true,b),[]⟩,rfl,by simp[On,DD,hS1]⟩
 .obtain⟨rfl,hF2g⟩:w2=.sl F1.length goals.length 0 goals.length/\F2[F1.length]?=some ⟨goals.map DQ,5,true⟩:=by
   rcases r5 with ⟨h,_⟩|⟨_,h,h'⟩
   .rw[xu]at h;exact absurd h hg
   .exact⟨by simpa using h,h'⟩
  have h0F:0<F1.length:=J0 hF1;have hFg:(F2.set 0 ⟨S.map Cl,7,true⟩)[F1.length]?=some ⟨goals.map DQ,5,true⟩:=by rw[xl (by omega)];exact hF2g
  refine C8.mono (dO (Yr r ns vs) f goals s2 s3 (λ_ _=>rfl) (λ_=>rfl) IH2 F1.length (.str name) (sl m1 1 (roles.map .str)) (sl m2 3 (fresh.map Gy)) (sl m3 1 (tags.map .str)) (.sl 0 steps.length 0 steps.length) [.str (bs []),.vs true 0 [],.vs true 0 [],.vs true 0 [],.vs true 0 [],.vs true 0 []] _ _ ?_ ?_ ?_ ?_ ?_ ?_ ?_) ?_<;>first|(simp[M7,GN,FM];done)|skip
  .exact hFg
  rintro e Cs h2 ⟨K,rfl,F,G,rfl,hG1,hG2,hG3,hG4⟩;have Fd:Cs.length=85:=K.1.trans (by simp[M7]);have k2fr2:A0 Cs 2=.ptr 0 0:=A5 K 2 (by simp[FM]);have k4fr2:A0 Cs 4=.ptr 1 0:=A5 K 4 (by simp[MT]);clear K;have hFs:=hG2 0 (by omega) (by simpa using J0 hF2);rw[hFz]at hFs;have hz:=λB:List (List AV)=>Ho (h:=⟨B,F⟩) hFs (n:=steps.length) (by simpa using hS2);have hz2:=λB:List (List AV)=>Ho (h:=⟨B,F⟩) hG1 (n:=goals.length) (by simpa using hG4);simp[Fd,k2fr2,k4fr2,hz,hz2];exact hΨ _ ⟨⟨name,m1,roles,m2,fresh,m3,tags,(false,true),S,(false,true),G⟩,rfl,by simp[On,DD,hS1,hG3]⟩
theorem Yo {t:Tm} (h:S5 t=0):L3 t=0:=by
 unfold S5 at h;apply Classical.byContradiction;intro hv;rw[if_pos hv]at h;exact hv h
theorem Pp {t:Tm} (h:HN t=0):L3 t=0:=by
 refine Yo ?_;unfold HN KS at h;apply Classical.byContradiction;intro hv;rw[if_pos hv,if_pos hv]at h;exact hv h
theorem Dt {n:Nar} (h:NY n=0):Hh n=0/\(∀s∈n.steps,LS s=0)/\∀g∈n.goals,OC g=0:=by
 unfold NY at h;by_cases h1:Hh n=0
 .rw[if_neg (by simp[h1])]at h;by_cases h2:E9 LS n.steps=0
  .rw[if_neg (by simp[h2])]at h;exact⟨h1,FL h2,FL h⟩
  .rw[if_pos h2]at h;exact absurd h h2
 .rw[if_pos h1]at h;exact absurd h h1
theorem Kq {n:Nar} (h:Hh n=0):n.steps≠[]/\Pt n=0:=by
 have hn:Pt n=0:=by
  unfold Hh at h;by_cases h1:Y3 n.name=false
  .rw[if_pos h1]at h;omega
  .rw[if_neg h1]at h;apply Classical.byContradiction;intro h2;rw[if_pos h2]at h;exact h2 h
 refine⟨λe=>?_,hn⟩;unfold Pt at hn;rw[e]at hn;split at hn
 .omega
 .split at hn
  .omega
  .simp at hn
theorem RP {s:Ste} (h:LS s=0):HN s.msg=0:=by
 unfold LS at h;split at h
 .omega
 .exact h
theorem gF {g:Gol} (h:OC g=0):∀t∈g.data,HN t=0:=by
 unfold OC at h;split at h
 .omega
 .split at h
  .omega
  .split at h
   .omega
   .split at h
    .omega
    .exact FL h
theorem Kz {α:Type} {g ln:α->Int}:∀{l:List α},(Ai g ln l).2=0->Ai g ln l=(0,0)/\∀a∈l,g a=0
 | [],_=>⟨rfl,λa h=>by cases h⟩
 |a::l,h=>by
  simp only[Ai]at h ⊢;by_cases hz:g a=0
  .rw[if_neg (by simp[hz])]at h ⊢;obtain⟨h1,h2⟩:=Kz h;exact⟨h1,λb hb=>by rcases List.mem_cons.1 hb with rfl|hb;exact hz;exact h2 b hb⟩
  .rw[if_pos hz]at h;exact absurd h hz
structure Right (n:Nar):Prop where
 nar:NY n=0
 dec:Hk n=0
 steps:∀s∈n.steps,JB (B5 n) n.roles s=0
 goals:∀g∈n.goals,Ml (B5 n) n.roles g=0
theorem FQ {n:Nar} (h:(Al n).2=0):Al n=(0,0)/\Right n:=by
 unfold Al at h ⊢;by_cases h1:NY n=0
 .rw[if_neg (by simp[h1])]at h ⊢;by_cases h2:Hk n=0
  .rw[if_neg (by simp[h2])]at h ⊢;by_cases h3:Ai (JB (B5 n) n.roles) Ste.line n.steps=(0,0)
   .rw[if_neg (by simp[h3])]at h ⊢;obtain⟨q1,q2⟩:=Kz h;exact⟨q1,h1,h2,(Kz (by rw[h3])).2,q2⟩
   .rw[if_pos h3]at h;exact absurd (Kz h).1 h3
  .rw[if_pos h2]at h;exact absurd h h2
 .rw[if_pos h1]at h;exact absurd h h1
@[simp] theorem rU (h:AH) (am:Bool) (f:FuncId) (cs:E6):frz h am (.fn f [.pv cs])=some (.fn f [.pv cs]):=rfl
@[simp] theorem vJ (h:AH) (f:FuncId) (cs:E6):tame h (.fn f cs)=true:=rfl
def jS:Nar:=⟨bs [],(true,false),[],(true,false),[],(true,false),[],(true,false),[],(true,false),[]⟩
theorem nO:AV.agg [.str (bs []),sl (true,false) 1 [],sl (true,false) 1 [],sl (true,false) 1 [],sl (true,false) 1 [],sl (true,false) 1 []]=V8 jS:=by
 unfold V8 jS;simp[sl]
theorem Zj (n:Nar) (F:Fine n) (S:Lens n):∃r,pc Q As [V8 n]=some (.tup [V8 r,.int .i64 (Al n).1,.int .i64 (Al n).2])/\((Al n).2=0->On r=DD (H5 (B5 n) (E4 n)) n):=by
 suffices h:∃v,pc Q As [V8 n]=some v/\∃r,v=.tup [V8 r,.int .i64 (Al n).1,.int .i64 (Al n).2]/\((Al n).2=0->On r=DD (H5 (B5 n) (E4 n)) n) by
  obtain⟨v,h1,r,rfl,h2⟩:=h;exact⟨r,h1,h2⟩
 have hC:=Qg n F S.names;have nb:=U9 n;by_cases hz:(Al n).2=0
 .obtain⟨hz0,hR⟩:=FQ hz;obtain⟨k1,k2,k3⟩:=Dt hR.nar;have hN:=Nk n S.names hR.dec;have hA:∃n',pc Q y5 [V8 n,Yr (sl n.rm 1 (n.roles.map .str)) (B5 n) (E4 n)]=some (V8 n')/\On n'=DD (H5 (B5 n) (E4 n)) n:=by
   refine nY n S (Kq k1).1 _ _ _ _ (λs hs=>?_) λg hg t ht=>?_
   .exact ST _ rfl _ _ (LE n) _ _ (xo _) (F.steps s hs).2.2 (Pp (RP (k2 s hs)))
   .exact ST _ rfl _ _ (LE n) _ _ (xo _) (by have:=(F.goals g hg).2.2;have:=Tm.size_le ht;omega) (Pp (gF (k3 g hg) t ht))
  obtain⟨n',hA,hA2⟩:=hA;rw[hz0]at hC ⊢;unfold aJ at hN;unfold Yr at hA;generalize hU:(B5 n).map AV.str=U at *
  generalize hV:(E4 n).map (AV.int .i64)=V at *
  refine Jk Ax λΨ hΨ fr hl h0=>?_;simp[Ax]at hl h0;simp[Ax,hl,h0,U9,hC,hN,hA,Ak,show (AV.vm U V).flat=true from rfl];exact hΨ _ ⟨n',rfl,λ_=>hA2⟩
 .refine Jk Ax λΨ hΨ fr hl h0=>?_;simp[Ax]at hl h0;simp[Ax,hl,h0,nb,hC,hz,E8,D2];exact hΨ _ ⟨jS,by rw[←nO,Dc (true,false) rfl 1 1],λh=>absurd h hz⟩
end Go.Abs.Q
namespace Go.Abs.Q
open Go.Proofs
attribute [local simp] D0 D1 fin I1 E7 K8 I3 N6 P4 U9
end Go.Abs.Q
namespace Go.Abs.Q
open Go.Proofs
attribute [local simp] D0 D1 fin I1 E7 N6 P4 U9
end Go.Abs.Q
namespace Go.Abs.Q
open Go.Proofs
attribute [local simp] D0 D1 fin I1 E7 U9
mutual
def xg (ns:List ByteArray):Tm->Bool
 | .mk k nm _ _ l=>(decide (k≠2)||ns.any (BS nm))&&sD ns l
def sD (ns:List ByteArray):List Tm->Bool
 | []=>true
 |t::l=>xg ns t&&sD ns l
end
@[simp] theorem tj (t:Tm):KI (B8 t)=true:=by cases t;rfl
end Go.Abs.Q
namespace Go.Abs.Q
open Go.Proofs
attribute [local simp] D0 D1 fin I1 E7
structure Grx (sz:Nat) (G1:List AV) (v:AV) (h0 h:AH):Prop where
 g:NB sz G1 v h
 low:∀j,j<h0.fams.length->h.fams[j]?=h0.fams[j]?
 row:∀k n o l,v=.sl k n o l->h0.fams.length<=k
theorem WT {sz:Nat} {G1:E6} {v:AV} {h:AH} (hg:NB sz G1 v h):∃m,∀(B:List (List AV)) (am:Bool),y8 ⟨B,h.fams⟩ am v=some (sl m sz G1):=by
 rcases hg with ⟨rfl,rfl⟩|⟨_,k,rfl,h3⟩
 .exact⟨(true,false),λB am=>by rw[gC];exact congrArg some (Dc _ rfl _ _)⟩
 .refine⟨(false,true),λB am=>?_⟩;rw[Dn];simp only[h3,xk];rw[if_pos (by simp),xz,xn (xo _)]
theorem fa (nm s) (m:I8) (l:I2) (x:H7) (n:Int):(Aj (.mk 3 nm s m l) x n=true)=(nm=x/\(l.length:Int)=n):=by
 rw[Aj,yA,yA];exact propext ⟨λh=>⟨of_decide_eq_true h.1.2,of_decide_eq_true h.2⟩,λh=>⟨⟨decide_eq_true (p:=(3:Int)=3) rfl,decide_eq_true (p:=nm=x) h.1⟩,decide_eq_true (p:=(l.length:Int)=n) h.2⟩⟩
theorem kM (rs:List ByteArray) (nm s) (m:I8) (l:I2):EX rs (.mk 3 nm s m l) =
  if (nm=bs [112,97,105,114]/\(l.length:Int)=2)\/(nm=bs [101,110,99]/\(l.length:Int)=2)then 2
  else if nm=bs [104,97,115,104]/\(l.length:Int)=1 then 1
  else if ((nm=bs [97,101,110,99]/\(l.length:Int)=2)/\Sr (LI rs) l=true)\/((nm=bs [115,105,103,110]/\(l.length:Int)=2)/\Sr (HR rs) l=true)then 1
  else if LI rs (.mk 3 nm s m l)=true\/YX rs (.mk 3 nm s m l)=true then 0 else -1:=by
 unfold EX;simp only[fa];rfl
theorem YR (n:Nar):∀a,n.roles.any (BS a)=true->(B5 n).any (BS a)=true:=by
 intro a h;unfold B5;rw[yB,yB,h,yC,yC]
theorem ii {ns rs:List ByteArray} {s:Ste} (h:JB ns rs s=0):Ah ns rs s.msg=0:=by
 unfold JB at h;split at h
 .rename_i h1;exact absurd h h1
 .exact h
end Go.Abs.Q
namespace Go.Abs.Q
open Go.Proofs
attribute [local simp] D0 D1 fin I1 E7 K8 I3 N6 P4
theorem ZW (m:I8) (l:I2) (C2:l.length<=1099511627776) (IH:∀t∈l,∃t',pc Q W8 [B8 t]=some (B8 t')/\D5 t'=D5 t) (x0 x1 x2:AV) (C:E6) (fr:Fr) (h:AH) (hh:h.boxes=[[x0,x1,x2,.vs true 0 []],C]) (hl:fr.length=24) (h1:A0 fr 1=.ptr 0 0) (h9:A0 fr 9=sl m 4 (A3 l)) (h10:A0 fr 10=.int .i64 l.length) (h11:A0 fr 11=.int .i64 0) :
  C8 (lp (A1 (Q8 Q) (G7 W8) Dj) (fr,h)) λe D4 h'=>Kp Dj.wr fr D4/\e=.exit 0/\∃(B:List (List AV)) (v:AV) (done:List Tm),h'.boxes=[x0,x1,x2,v]::C::B/\NB 4 (A3 done) v h'/\G8 done=G8 l:=by
 refine C3 rfl fr (λn fr h'=>∃(i:Nat),i+n=l.length/\A0 fr 11=.int .i64 (i:Nat)/\(∃(B:List (List AV)) (v:AV) (done:List Tm),h'.boxes=[x0,x1,x2,v]::C::B/\NB 4 (A3 done) v h'/\G8 done=G8 (l.take i)/\done.length=i)) ?_ l.length h ⟨0,by omega,h11,[],_,[],hh,OU _ _,by simp[G8],rfl⟩;rintro J Φ hJ hΦ n G9 H1 K ⟨i,hi,k11,hr⟩;have B4:=K.1.trans hl;have k1:=A5 K 1 h1;have k9:=A5 K 9 h9;have k10:=A5 K 10 h10;clear K;by_cases A6:i<l.length
 .have V7:=E5 i (by omega);obtain⟨B,v,done,hB,hg,hd,EF⟩:=hr;obtain⟨bx,fams⟩:=H1;simp only at hB;subst hB;have hx:=S4 A6;obtain⟨t',hI,ht⟩:=IH l[i] (xq A6);obtain⟨v',⟨bx',fams'⟩,ha,DG,gH⟩:=Qv (c:=G7 W8) (bytes:=56) (x:=B8 t') (h:=⟨[x0,x1,x2,v]::C::(B++[(B8 l[i]).cells]),fams⟩) (FU hg rfl) rfl (true,true) (by simp;omega) (by simp;omega);have e2:G8 (done++[t'])=G8 (l.take (i+1)):=by
   rw[xr A6,D3,xt,←D3,hd,D3,D3,xt,xw,xy,xw,xy,ht]
  have hg2:NB 4 (A3 (done++[t'])) v' ⟨bx',fams'⟩:=by rw[Dz];exact DG
  clear ht hd;generalize l[i]=t at *
  simp only at gH;subst gH;simp only[H3]at ha;obtain⟨c1,c2,-⟩:=Dm DG;simp[Dj,B4,k1,k9,k10,k11,A6,V7,hx,hI,A4,ha,c1,c2];exact O4 hJ ⟨i+1,by omega,by simp[B4],_,v',done++[t'],rfl,FU hg2 rfl,e2,by simp[EF]⟩
 .obtain⟨B,v,done,hB,hg,hd,EF⟩:=hr;obtain⟨bx,fams⟩:=H1;simp only at hB;subst hB;rw[xn (by omega)]at hd;simp[Dj,B4,k10,k11,A6];exact hΦ _ _ _ ⟨rfl,B,v,done,rfl,hg,hd⟩
theorem SU:∀(n:Nat) (t:Tm),t.size<=n->t.size<=1099511627776->∃t',pc Q W8 [B8 t]=some (B8 t')/\D5 t'=D5 t:=by
 intro n
 induction n with
 |zero=>intro t h;have:=t.size_pos;omega
 |succ n ih =>
  intro t hn hb;obtain⟨k,nm,s,m,kids⟩:=t;have K4:Tm.size (.mk k nm s m kids)=1+Tm.sizes kids:=rfl;have C2:=Tm.length_le kids;have Pk:=ZW m kids (by omega) (λt ht=>ih t (by have:=Tm.size_le ht;omega) (by have:=Tm.size_le ht;omega));clear ih
  suffices h:∃v,pc Q W8 [B8 (.mk k nm s m kids)]=some v/\∃t',v=B8 t'/\D5 t'=D5 (.mk k nm s m kids) by
   obtain⟨v,h1,t',rfl,h2⟩:=h;exact⟨t',h1,h2⟩
  refine Jk LZ λΨ hΨ fr hl h0=>?_;simp[LZ,B8]at hl h0;simp[LZ,hl,h0];refine C8.mono (Pk (.int .i64 k) (.str nm) (.int .i64 s) [.int .i64 0,.str (bs []),.int .i64 0,.vs true 0 []] _ _ ?_ ?_ ?_ ?_ ?_ ?_) ?_<;>first|(simp[hl];done)|skip
  rintro e G9 ⟨bx,fams⟩ ⟨K,rfl,B,v,done,hB,hg,hd⟩;simp only at hB;subst hB;have M7:G9.length=24:=K.1.trans (by simp[hl]);have GN:A0 G9 1=.ptr 0 0:=A5 K 1 (by simp[hl]);have FM:A0 G9 2=.ptr 1 0:=A5 K 2 (by simp[hl]);clear K;obtain⟨mm,hz⟩:=WT hg;obtain⟨c1,c2,c3⟩:=Dm hg;simp[M7,GN,FM,hz];exact hΨ _ ⟨.mk k nm s mm done,rfl,by simp[D5,hd]⟩
theorem gX (fr:Fr) (h:AH) (hl:fr.length=32) (h9:A0 fr 9=.int .i64 0) (h10:A0 fr 10=.int .i64 0) :
  C8 (lp (A1 (Q8 Q) (G7 NO) JX) (fr,h)) λe D4 h'=>Kp JX.wr fr D4/\e=.exit 0/\h'=h:=by
 refine C3 rfl fr (λn D4 h'=>D4=fr/\h'=h) ?_ 0 h ⟨rfl,rfl⟩;rintro J Φ hJ hΦ n G9 H1 K ⟨rfl,rfl⟩;simp[JX,hl,h9,h10];exact hΦ _ _ _ ⟨rfl,rfl⟩
theorem nU (m:I8) (t:Tm) (hb:t.size<=1099511627776):∃t',pc Q NO [B8 t,sl m 1 []]=some (.tup [B8 t',.int .i64 0])/\D5 t'=D5 t:=by
 obtain⟨t',hC,hE⟩:=SU _ t (xo _) hb;refine⟨t',?_,hE⟩;refine Q6 QJ λfr hl h0 h1=>?_;simp[QJ]at hl h0 h1;simp[QJ,hl,h0,h1];refine C8.mono (gX _ _ ?_ ?_ ?_) ?_<;>first|(simp[hl];done)|skip
 rintro e G9 Jb ⟨K,rfl,rfl⟩;have M7:G9.length=32:=K.1.trans (by simp[hl]);have FM:A0 G9 2=.ptr 0 0:=A5 K 2 (by simp[hl]);have MT:A0 G9 4=.ptr 1 0:=A5 K 4 (by simp[hl]);clear K;simp[M7,FM,MT,hC]
theorem Ub (t:Tm) (hb:t.size<=1099511627776):∃t',pc Q Em [B8 t]=some (B8 t')/\D5 t'=D5 t:=by
 obtain⟨t',hA,hE⟩:=nU (true,false) t hb;refine⟨t',?_,hE⟩;refine N4 Hc λfr hl h0=>?_;simp[Hc]at hl h0;simp[Hc,hl,h0,hA]
theorem YA (t:Tm) (nm:H7):pc Q FO [B8 t,.str nm]=some (.bool (decide (t.kind=3)&&decide (t.name=nm))):=by
 refine Q6 Mw λfr hl h0 h1=>?_;simp[Mw]at hl h0 h1;simp +contextual (maxSteps:=10000000) [Mw,hl,h0,h1]
theorem CK:∀(n:Nat) (t:Tm),t.size<=n->(D5 t).size=t.size:=by
 intro n
 induction n with
 |zero=>intro t h;have:=t.size_pos;omega
 |succ n ih =>
  intro t hn;obtain⟨k,nm,s,m,l⟩:=t;have K4:Tm.size (.mk k nm s m l)=1+Tm.sizes l:=rfl;have:∀l:List Tm,Tm.sizes l<=n->Tm.sizes (G8 l)=Tm.sizes l:=by
   intro l
   induction l with
   |nil=>intro _;rfl
   |cons a l ihl =>
    intro h;simp only[Tm.sizes]at h;simp only[G8,Tm.sizes,ih a (by omega),ihl (by omega)]
  rw[D5,Tm.size,this l (by omega),K4]
theorem EW:∀(l:I2),Tm.sizes (G8 l)=Tm.sizes l
 | []=>rfl
 |t::l=>by simp only[G8,Tm.sizes,CK _ t (xo _),EW l]
theorem Ry (l:List UInt8):Op.bytesLess l l=false:=by
 induction l with
 |nil=>rfl
 |cons a l ih=>simp[Op.bytesLess,ih]
theorem ch (a:Int):EU a a=0:=by simp[EU]
theorem cf (a:H7):Q9 a a=0:=by simp[Q9,Ry]
theorem VI:∀(n:Nat) (a b:Tm),a.size<=n->D5 a=D5 b->H0 a b=0:=by
 intro n
 induction n with
 |zero=>intro t _ h;have:=t.size_pos;omega
 |succ n ih =>
  intro a b hn he;obtain⟨k,nm,s,m,l⟩:=a;obtain⟨k',nm',s',m',l'⟩:=b;have K4:Tm.size (.mk k nm s m l)=1+Tm.sizes l:=rfl;simp only[D5,Tm.mk.injEq]at he;obtain⟨rfl,rfl,rfl,_,hl⟩:=he;have h1:Tm.sizes l=Tm.sizes l':=by rw[←EW l,hl,EW]
  have h2:l.length=l'.length:=by
   have:=congrArg List.length hl;simpa[D3]using this
  have:∀l l':List Tm,Tm.sizes l<=n->G8 l=G8 l'->FJ l l'=0:=by
   intro l
   induction l with
   |nil=>intro l' _ h;exact NE l'
   |cons a l ihl =>
    intro l' hs h;cases l' with
    |nil=>simp[G8]at h
    |cons b l' =>
     simp only[G8,List.cons.injEq]at h;simp only[Tm.sizes]at hs;simp[FJ,nz,ih a b (by omega) h.1,ihl l' (by omega) h.2]
  simp[H0,nz,ch,cf,h1,h2,this l l' (by omega) hl]
theorem ak:∀(l l':I2),G8 l=G8 l'->Nx l l'=true
 | [],[],_=>rfl
 | [],b::l',h=>by simp[G8]at h
 |a::l,[],h=>by simp[G8]at h
 |a::l,b::l',h=>by
  simp only[G8,List.cons.injEq]at h;simp[Nx,GW,VI _ a b (xo _) h.1,ak l l' h.2]
end Go.Abs.Q
namespace Go.Abs
open Go.Proofs Go.Shelf Go.RowKit Go.Lib Go.Sort
variable {P:Program} {ρ:Ren}
set_option maxHeartbeats 2000000 in
theorem gK (L:SlLaysF0.n20 P ρ) (p:Option Addr) (cap:Nat) (fv:Value) (w:World) :
  Calls P (ρ.f 20) #[.slice p 1 cap,.int .i64 0,.int .i64 1,fv] w λe w'=>e=.returned (.tuple #[])/\w'=w:=by
 have mixed:=L.mixed;have t0:=L.t0;have a0:=L.a0;have z0:=L.z0;have v0:=L.v0;have t3:=L.t3;have a3:=L.a3;have z3:=L.z3;have v3:=L.v3;have t4:=L.t4;have a4:=L.a4;have z4:=L.z4;have v4:=L.v4;have t22:=L.t22;have a22:=L.a22;have z22:=L.z22;have v22:=L.v22;have t25:=L.t25;have a25:=L.a25;have z25:=L.z25;have v25:=L.v25;obtain⟨_,_,FG⟩:=L.f20
 go_enter FG,SlBodyF.n20_ntmps ρ
 go_wp2
 refine wp_loop_rounds 1 ?_;rw[rounds_succ]
 go_wp2
 go_end0
 exact⟨rfl,rfl⟩
set_option maxHeartbeats 2000000 in
theorem iU (L:SlLaysF0.n14 P ρ) (p:Option Addr) (cap:Nat) (Q8:Int) (fv:Value) (w:World) :
  Calls P (ρ.f 14) #[.slice p 1 cap,.int .i64 0,.int .i64 1,.int .i64 Q8,fv] w λe w'=>e=.returned (.tuple #[])/\w'=w:=by
 have mixed:=L.mixed;have t0:=L.t0;have a0:=L.a0;have z0:=L.z0;have v0:=L.v0;have t3:=L.t3;have a3:=L.a3;have z3:=L.z3;have v3:=L.v3;have t4:=L.t4;have a4:=L.a4;have z4:=L.z4;have v4:=L.v4;have t5:=L.t5;have a5:=L.a5;have z5:=L.z5;have v5:=L.v5;have t9:=L.t9;have a9:=L.a9;have z9:=L.z9;have v9:=L.v9;have t22:=L.t22;have a22:=L.a22;have z22:=L.z22;have v22:=L.v22;have t25:=L.t25;have a25:=L.a25;have z25:=L.z25;have v25:=L.v25;have t39:=L.t39;have a39:=L.a39;have z39:=L.z39;have v39:=L.v39;have t45:=L.t45;have a45:=L.a45;have z45:=L.z45;have v45:=L.v45;have t46:=L.t46;have a46:=L.a46;have z46:=L.z46;have v46:=L.v46;have t50:=L.t50;have a50:=L.a50;have z50:=L.z50;have v50:=L.v50;have t53:=L.t53;have a53:=L.a53;have z53:=L.z53;have v53:=L.v53;have t55:=L.t55;have a55:=L.a55;have z55:=L.z55;have v55:=L.v55;have t66:=L.t66;have a66:=L.a66;have z66:=L.z66;have v66:=L.v66;have t70:=L.t70;have a70:=L.a70;have z70:=L.z70;have v70:=L.v70;have t76:=L.t76;have a76:=L.a76;have z76:=L.z76;have v76:=L.v76;have t77:=L.t77;have a77:=L.a77;have z77:=L.z77;have v77:=L.v77;have e20:∀args w,(callFunc (ρ.f 20) args).run P w=.ok (.enter (ρ.f 20) args) w:=L.f20.enters rfl;have hi:=λW=>gK (P:=P) (ρ:=ρ) {L with} p cap fv W
 obtain⟨_,_,FG⟩:=L.f14
 go_enter FG,SlBodyF.n14_ntmps ρ
 go_wp2
 refine wp_loop_rounds 1 ?_;rw[rounds_succ]
 go_wp2_with (go_at_fn (ρ.f 20);refine(hi _).mono ?_;rintro e w' ⟨rfl,rfl⟩)
 (try simp only[Exit.inBlock,Exit.then]);refine bodyPost_ret (results_none rfl _ _ _) rfl ?_
 exact⟨rfl,rfl⟩
set_option maxHeartbeats 2000000 in
theorem en (L:SlLaysF0.n6 P ρ) (p:Option Addr) (cap:Nat) (fv:Value) (w:World) :
  Calls P (ρ.f 6) #[.slice p 1 cap,fv] w λe w'=>e=.returned (.tuple #[])/\w'=w:=by
 have mixed:=L.mixed;have t0:=L.t0;have a0:=L.a0;have z0:=L.z0;have v0:=L.v0;have t3:=L.t3;have a3:=L.a3;have z3:=L.z3;have v3:=L.v3;have t4:=L.t4;have a4:=L.a4;have z4:=L.z4;have v4:=L.v4;have t5:=L.t5;have a5:=L.a5;have z5:=L.z5;have v5:=L.v5;have t9:=L.t9;have a9:=L.a9;have z9:=L.z9;have v9:=L.v9;have t22:=L.t22;have a22:=L.a22;have z22:=L.z22;have v22:=L.v22;have t25:=L.t25;have a25:=L.a25;have z25:=L.z25;have v25:=L.v25;have t39:=L.t39;have a39:=L.a39;have z39:=L.z39;have v39:=L.v39;have t45:=L.t45;have a45:=L.a45;have z45:=L.z45;have v45:=L.v45;have t46:=L.t46;have a46:=L.a46;have z46:=L.z46;have v46:=L.v46;have t50:=L.t50;have a50:=L.a50;have z50:=L.z50;have v50:=L.v50;have t53:=L.t53;have a53:=L.a53;have z53:=L.z53;have v53:=L.v53;have t55:=L.t55;have a55:=L.a55;have z55:=L.z55;have v55:=L.v55;have t66:=L.t66;have a66:=L.a66;have z66:=L.z66;have v66:=L.v66;have t70:=L.t70;have a70:=L.a70;have z70:=L.z70;have v70:=L.v70;have t76:=L.t76;have a76:=L.a76;have z76:=L.z76;have v76:=L.v76;have t77:=L.t77;have a77:=L.a77;have z77:=L.z77;have v77:=L.v77;have e14:∀args w,(callFunc (ρ.f 14) args).run P w=.ok (.enter (ρ.f 14) args) w:=L.f14.enters rfl;have e15:∀args w,(callFunc (ρ.f 15) args).run P w=.ok (.enter (ρ.f 15) args) w:=enters_of L.f15 (by kernel_rfl) rfl;have hp:=λQ8 W=>iU (P:=P) (ρ:=ρ) {L with} p cap Q8 fv W
 have hl:∀W,Calls P (ρ.f 15) #[.int .u64 1] W λe w'=>e=.returned (.int .i64 (Lib.bitLen 1:Nat))/\w'=W:=λW=>by
  have h:=Any.bits_Len (SlLaysF0.n15.bits (P:=P) (ρ:=ρ) {L with}) 1 W (by omega) (by omega)
  exact h
 obtain⟨_,_,FG⟩:=L.f6
 go_enter FG,SlBodyF.n6_ntmps ρ
 go_wp2_with (first|(go_at_fn (ρ.f 15);refine(hl _).mono ?_;rintro e w' ⟨rfl,rfl⟩)|(go_at_fn (ρ.f 14);refine(hp _ _).mono ?_;rintro e w' ⟨rfl,rfl⟩))
 go_end0
 exact⟨rfl,rfl⟩
end Go.Abs
