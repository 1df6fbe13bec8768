/- A part of the proof. -/
import Derived.Test.YtohjdamplbhdpaaGreatDoorSG20
set_option linter.all false
open List renaming getElem?_append_left->xk,mem_cons_self->xl,length_append->xm,getElem?_eq_getElem->xo,mem_cons_of_mem->xp,map_cons->xq,mem_cons->xr,pairwise_cons->xt,mem_map->xu,length_cons->xw,take_succ_eq_append_getElem->xy,length_filter_le->yA,getElem?_set_ne->yB,length_map->yC,flatMap_append->yD,append_assoc->yF,pairwise_iff_getElem->yG,map_append->yH,take_of_length_le->yI,take_append_drop->yJ,map_eq_nil_iff->yK,mem_map_of_mem->yL,filter_append->yM,flatMap_cons->yN,length->yO,getElem_mem->yP,mem_flatMap->yQ,not_mem_nil->yR,map_nil->yT,set_set->yU
open Nat renaming le_refl->xn
open Option renaming bind_some->xz
open Int renaming lt_or_eq_of_le->yE
open Bool renaming eq_iff_iff->yS
namespace Go.Abs.Q
open Go.Proofs
attribute [local simp] D0 D1 fin I1 E7 K8 I3
theorem ll {a b c:Tm} (h:H0 a b<=0) (k:H0 b c<0):H0 a c<0:=by
 have h1:=(cP a b c).1 h (by omega);rcases yE h1.1 with q|q
 .exact q
 .have:=h1.2 q;omega
theorem gt {a b c:Tm} (h:H0 a b<0) (k:H0 b c<=0):H0 a c<0:=by
 have h1:=(cP a b c).1 (by omega) k;rcases yE h1.1 with q|q
 .exact q
 .have:=h1.2 q;omega
theorem Wz {a b:Tm} (h:D5 a=D5 b):H0 a b<=0:=by rw[AF.2 h];omega
def O1 (R l:List Tm):Prop:=R.Pairwise (λa b=>H0 a b<0)/\∀e,e∈R.map D5↔e∈l.map D5
theorem UR:∀(q:I2) (p:Tm),(p::q).Pairwise (λa b=>H0 a b<=0)->(∀x∈keep p q,H0 p x<0/\x∈q)/\(keep p q).Pairwise (λa b=>H0 a b<0)/\(keep p q).length<=q.length/\∀x∈q,D5 x=D5 p\/D5 x∈(keep p q).map D5
 | [],p,_=>by simp[keep]
 |b::q,p,h=>by
  obtain⟨h1,h2⟩:=xt.1 h;obtain⟨i1,i2,i3,i4⟩:=UR q b h2;unfold keep;by_cases hc:H0 b p=0
  .rw[if_pos hc];have e:=AF.1 hc;refine⟨λx hx=>⟨ll (Wz e.symm) (i1 x hx).1,xp _ (i1 x hx).2⟩,i2,by simp only[xw];omega,λx hx=>?_⟩;rcases xr.1 hx with rfl|hx
   .exact .inl e
   .rcases i4 x hx with h|h
    .exact .inl (h.trans e)
    .exact .inr h
  .rw[if_neg hc];have hpb:H0 p b<0:=by
    have h3:=h1 b (xl);rcases yE h3 with q|q
    .exact q
    .exact absurd (KG.2.1 q) hc
   refine⟨λx hx=>?_,xt.2 ⟨λx hx=>(i1 x hx).1,i2⟩,by simp only[xw];omega,λx hx=>?_⟩
   .rcases xr.1 hx with rfl|hx
    .exact⟨hpb,xl⟩
    .exact⟨Ep hpb (i1 x hx).1,xp _ (i1 x hx).2⟩
   .refine .inr ?_;rw[xq];rcases xr.1 hx with rfl|hx
    .exact xl
    .rcases i4 x hx with h|h
     .rw[h];exact xl
     .exact xp _ h
theorem Kh (l:I2) (h:l.Pairwise (λa b=>H0 a b<=0)):O1 (P3 l) l/\(∀x∈P3 l,x∈l)/\(P3 l).length<=l.length:=by
 cases l with
 |nil=>exact⟨⟨List.Pairwise.nil,λ_=>Iff.rfl⟩,λ_ h=>h,xn _⟩
 |cons a q =>
  obtain⟨i1,i2,i3,i4⟩:=UR q a h;have hs:∀x∈P3 (a::q),x∈a::q:=λx hx=>by
   rcases xr.1 hx with rfl|hx
   .exact xl
   .exact xp _ (i1 x hx).2
  refine⟨⟨xt.2 ⟨λx hx=>(i1 x hx).1,i2⟩,λe=>⟨λhe=>?_,λhe=>?_⟩⟩,hs,by simp only[P3,xw];omega⟩
  .obtain⟨x,hx,rfl⟩:=xu.1 he;exact yL (hs x hx)
  .obtain⟨x,hx,rfl⟩:=xu.1 he;rw[P3,xq];rcases xr.1 hx with rfl|hx
   .exact xl
   .rcases i4 x hx with h|h
    .rw[h];exact xl
    .exact xp _ h
theorem YU:∀{R R':I2},R.Pairwise (λa b=>H0 a b<0)->R'.Pairwise (λa b=>H0 a b<0)->(∀e,e∈R.map D5↔e∈R'.map D5)->R.map D5=R'.map D5
 | [],[],_,_,_=>rfl
 | [],b::r',_,_,h=>absurd ((h (D5 b)).2 xl) yR
 |a::r,[],_,_,h=>absurd ((h (D5 a)).1 xl) yR
 |a::r,b::r',hp,hp',h=>by
  obtain⟨p1,p2⟩:=xt.1 hp;obtain⟨q1,q2⟩:=xt.1 hp';have key:∀{a b:Tm} {r r':List Tm},(∀x∈r',H0 b x<0)->D5 a∈(b::r').map D5->H0 b a<=0:=by
   intro a b r r' hq hm;rw[xq]at hm;rcases xr.1 hm with e|hm
   .exact Wz e.symm
   .obtain⟨y,hy,e⟩:=xu.1 hm;have:=gt (hq y hy) (Wz e);omega
  have k1:H0 b a<=0:=key (r:=r) q1 ((h _).1 xl);have k2:H0 a b<=0:=key (r:=r') p1 ((h _).2 xl);have k3:D5 a=D5 b:=by
   apply AF.1;have:=(cP a b a).1 k2 k1;rw[KF]at this;exact(this.2 rfl).1
  have tl:∀{a b:Tm} {r r':List Tm},D5 a=D5 b->(∀x∈r,H0 a x<0)->(∀e,e∈(a::r).map D5->e∈(b::r').map D5)->∀e,e∈r.map D5->e∈r'.map D5:=by
   intro a b r r' e0 hq hm e he;obtain⟨x,hx,rfl⟩:=xu.1 he;have:=hm _ (yL (xp a hx));rw[xq]at this;rcases xr.1 this with h1|h1
   .have h2:=AF.2 (h1.trans e0.symm);have h3:=hq x hx;have h4:=KG.2.1 h2;omega
   .exact h1
  rw[xq,xq,k3,YU p2 q2 λe=>⟨tl k3 p1 (λe=>(h e).1) e,tl k3.symm q1 (λe=>(h e).2) e⟩]
theorem WZ {R R' l l':I2} (h:O1 R l) (h':O1 R' l') (e:∀e,e∈l.map D5↔e∈l'.map D5):G8 R=G8 R':=by
 rw[D3,D3];exact YU h.1 h'.1 λx=>(h.2 x).trans ((e x).trans (h'.2 x).symm)
theorem QM {R R' l:I2} (h:O1 R l) (e:G8 R'=G8 R):O1 R' l:=by
 rw[D3,D3]at e;refine⟨?_,λx=>by rw[e];exact h.2 x⟩;have hl:R'.length=R.length:=by simpa using congrArg yO e
 rw[yG];intro i j hi hj hij;have h1:=(yG.1 h.1) i j (by omega) (by omega) hij;have g:∀i (hi:i<R'.length),D5 R'[i]=D5 (R[i]'(by omega)):=by
  intro i hi;have:=congrArg (·[i]?) e;simp only[List.getElem?_map,xo hi,xo (show i<R.length by omega),Option.map_some]at this;exact Option.some.inj this
 exact gt (ll (Wz (g i hi)) h1) (Wz (g j hj).symm)
@[simp] theorem sF (h:AH) (v:AV):US true h (some (v,h))=some (v,h):=gQ h v h.fams
theorem gn (R Z:I2) (N k:Nat) (hZ:Z.length=N) (hZR:Z.take R.length=R) (C2:N<=1099511627776) (hRl:R.length<=N) (K4:∀t∈R,t.size<=1099511627776) (fr:Fr) (h:AH) (hfam:h.fams[k]?=some ⟨A3 Z,4,true⟩) (hl:fr.length=23) (h0:A0 fr 0=.sl k N 0 R.length) (h9:A0 fr 9=.int .i64 R.length) (h10:A0 fr 10=.int .i64 0) :
  C8 (lp (A1 (Q8 Q) (G7 W9) V3) (fr,h)) λe D4 h'=>Kp V3.wr fr D4/\e=.exit 0/\∃(done:List Tm) (X:List AV),X=(done++Z.drop R.length).map B8/\h'=⟨h.boxes,h.fams.set k ⟨X,4,true⟩⟩/\G8 done=G8 R/\done.length=R.length:=by
 refine C3 rfl fr (λn fr h'=>∃(i:Nat),i+n=R.length/\A0 fr 10=.int .i64 (i:Nat)/\(∃(done:List Tm) (X:List AV),X=(done++Z.drop i).map B8/\h'=⟨h.boxes,h.fams.set k ⟨X,4,true⟩⟩/\G8 done=G8 (R.take i)/\done.length=i)) ?_ R.length h ⟨0,by omega,h10,⟨[],A3 Z,by simp[D7],by rw[Ck hfam],by simp[G8],rfl⟩⟩;rintro J Φ hJ hΦ n G9 H1 K ⟨i,hi,k10,hr⟩;have B4:=K.1.trans hl;have k0:=A5 K 0 h0;have k9:=A5 K 9 h9;clear K;by_cases A6:i<R.length
 .have V7:=E5 i (by omega);obtain⟨done,X,hX,rfl,hd,EF⟩:=hr;have hltZ:i<Z.length:=by omega
  obtain⟨t',hI,ht⟩:=SU _ R[i] (xn _) (K4 _ (yP A6));obtain⟨q1,q2,q3⟩:=NM B8 done Z hltZ EF;have q4:=NN B8 done Z hltZ EF t';have hzr:Z[i]=R[i]:=by
   have:=congrArg (·[i]?) hZR;simp only[List.getElem?_take_of_lt A6,xo hltZ,xo A6]at this;exact Option.some.inj this
  rw[hzr]at q2;rw[hZ]at q3;have e2:G8 (done++[t'])=G8 (R.take (i+1)):=by
   rw[xy A6,D3,yH,←D3,hd,D3,D3,yH,xq,yT,xq,yT,ht]
  have CI:=J0 hfam;rw[←hX]at q1 q3 q4;have hq2:X[i]?=some (B8 R[i]):=by subst hX;rw[xo q1,q2]
  clear hd ht hzr q2 hX;generalize hY:(done++[t']++Z.drop (i+1)).map B8=Y at *
  generalize R[i]=s at *
  simp[V3,B4,k0,k9,k10,A6,V7,hI,hq2,q3,q4,CI];exact O4 hJ ⟨i+1,by omega,by simp[B4],_,Y,hY.symm,rfl,e2,by simp[EF]⟩
 .obtain⟨done,X,hX,rfl,hd,EF⟩:=hr;have e:i=R.length:=by omega
  subst e;rw[List.take_length]at hd;simp[V3,B4,k9,k10];exact hΦ _ _ _ ⟨rfl,done,X,hX,rfl,hd,EF⟩
theorem df (fr:Fr) (h:AH) (hl:fr.length=23) (h9:A0 fr 9=.int .i64 0) (h10:A0 fr 10=.int .i64 0) :
  C8 (lp (A1 (Q8 Q) (G7 W9) V3) (fr,h)) λe D4 h'=>Kp V3.wr fr D4/\e=.exit 0/\h'=h:=by
 refine C3 rfl fr (λn D4 h'=>D4=fr/\h'=h) ?_ 0 h ⟨rfl,rfl⟩;rintro J Φ hJ hΦ n G9 H1 K ⟨rfl,rfl⟩;simp[V3,hl,h9,h10];exact hΦ _ _ _ ⟨rfl,rfl⟩
theorem Xw (a b:Tm) (h:a.size<=1099511627776) (h':b.size<=1099511627776):pc Q AA [B8 a,B8 b]=some (.bool (decide (H0 a b=0))):=by
 have hC:=Z4 _ a b (xn _) h h';refine Q6 Gp λfr hl h0 h1=>?_;simp[Gp]at hl h0 h1;simp[Gp,hl,h0,h1,hC]
theorem eK (a b:Tm) (h:a.size<=1099511627776) (h':b.size<=1099511627776):pc Q X6 [B8 a,B8 b]=some (.bool (decide (H0 a b=0))):=by
 have hC:=Z4 _ a b (xn _) h h';refine Q6 EM λfr hl h0 h1=>?_;simp[EM]at hl h0 h1;simp[EM,hl,h0,h1,hC]
theorem YQ (h:AH) (b:Bool):rc Q C9 [sl (true,b) 4 [],.fn A8 []] h=some (A9,h):=by
 refine JV (s:=Up 4) rfl rfl ?_;rfl
theorem Qh (g:FuncId) (h:AH) (b:Bool):rc Q B9 [sl (true,b) 4 [],.fn g []] h=some (sl (true,b) 4 [],h):=by
 suffices hq:∃v h',rc Q B9 [sl (true,b) 4 [],.fn g []] h=some (v,h')/\(v=sl (true,b) 4 []/\h'=h) by
  obtain⟨v,h',h1,rfl,rfl⟩:=hq;exact h1
 refine FT G6 λfr hl h0 h1=>?_;simp[G6]at hl h0 h1;simp[G6,hl,h0]
def qS (sz:Nat) (xs:List AV) (v:AV) (h:AH):Prop:=v.isTup=false/\v.cells=[v]/\∃m,Bn h v=some (sl m sz xs)
theorem Sa (k:Nat) (l:I2) (v:AV) (h:AH) (hg:cH k 4 (A3 l) v h) (K4:∀t∈l,t.size<=1099511627776) (C2:l.length<=1099511627776) :
  ∃(v':AV) (h':AH) (R:List Tm),rc Q W9 [v] h=some (v',h')/\h'.boxes=h.boxes/\O1 R l/\R.length<=l.length/\qS 4 (A3 R) v' h':=by
 suffices hq:∃v' h',rc Q W9 [v] h=some (v',h')/\∃(R:List Tm),h'.boxes=h.boxes/\O1 R l/\R.length<=l.length/\qS 4 (A3 R) v' h' by
  obtain⟨v',h',h1,R,h2⟩:=hq;exact⟨v',h',R,h1,h2⟩
 rcases hg with ⟨hl0,b,rfl⟩|⟨M5,rfl,hk⟩
 .have:l=[]:=by rw[D7]at hl0;exact yK.1 hl0
  subst this;have hS:=YQ h b;have hC:=Qh AA h b;refine YL CB λfr hl h0=>?_;simp[CB]at hl h0;simp[CB,hl,h0,hS,hC];refine C8.mono (df _ _ ?_ ?_ ?_) ?_<;>first|(simp[hl];done)|skip
  rintro e G9 h1 ⟨K,rfl,rfl⟩;have M7:G9.length=23:=K.1.trans (by simp[hl]);have MS:A0 G9 0=sl (true,b) 4 []:=A5 K 0 (by simp[hl]);clear K;simp[M7,MS];exact⟨[],⟨List.Pairwise.nil,λ_=>Iff.rfl⟩,rfl,rfl,rfl,_,rfl⟩
 .have hne':l≠[]:=by rintro rfl;exact M5 rfl
  have CI:=J0 hk;obtain⟨l',hp,hsort,hS⟩:=PI k h l hk hne' K4 C2;have hl':l'.length=l.length:=hp.length_eq;have hcm:QL AA l':=⟨rfl,λa ha b hb=>Xw a b (K4 a (hp.mem_iff.1 ha)) (K4 b (hp.mem_iff.1 hb))⟩;obtain⟨Z,hZ,hZR,hC⟩:=IZ AA l' hcm k ⟨h.boxes,h.fams.set k ⟨A3 l',4,true⟩⟩ (by simp[CI]) (by omega);obtain⟨s1,s2,s3⟩:=Kh l' hsort;rw[hl']at hC hZ;generalize P3 l'=R at *
  simp only[yU]at hC;refine YL CB λfr hl h0=>?_;simp[CB]at hl h0;simp[CB,hl,h0,hS,hC];refine C8.mono (gn R Z l.length k hZ hZR C2 (by omega) (λt ht=>K4 t (hp.mem_iff.1 (s2 t ht))) _ _ ?_ ?_ ?_ ?_ ?_) ?_<;>first|(simp[hl,CI];done)|skip
  rintro e G9 h1 ⟨K,rfl,done,X,hX,rfl,hd,EF⟩;have M7:G9.length=23:=K.1.trans (by simp[hl]);have MS:A0 G9 0=.sl k l.length 0 R.length:=A5 K 0 (by simp[hl]);clear K;simp[M7,MS];refine⟨done,QM ⟨s1.1,λe=>(s1.2 e).trans ?_⟩ hd,by omega,rfl,rfl,(false,true),?_⟩
  .simp only[xu,hp.mem_iff]
  .have e1:X.length=l.length:=by rw[hX];simp;omega
   have e2:X.take R.length=A3 done:=by rw[hX,yH,←EF,List.take_left' (by simp),D7]
   have e3:R.length<=l.length:=by omega
   rw[HL,Dn];simp[CI,e1,e2,e3]
theorem Xz (m:I8) (l:I2) (K4:∀t∈l,t.size<=1099511627776) (C2:l.length<=1048576) :
  ∃(R:List Tm) (m':Bool×Bool),pc Q BF [sl m 4 (A3 l)]=some (sl m' 4 (A3 R))/\O1 R l/\(∀x∈R,x∈l)/\R.length<=l.length:=by
 have hlv:(A3 l).length=l.length:=by rw[D7,yC]
 obtain⟨w,⟨B,F⟩,hC,hg,hb,hf⟩:=LK m (A3 l) (by omega) AH.empty;simp only[AH.empty,List.length_nil]at hC hg hb;subst hb
 suffices h:∃v,pc Q BF [sl m 4 (A3 l)]=some v/\∃q:List Tm×(Bool×Bool),v=sl q.2 4 (A3 q.1)/\O1 q.1 l/\(∀x∈q.1,x∈l)/\q.1.length<=l.length by
  obtain⟨v,h1,q,rfl,h2⟩:=h;exact⟨q.1,q.2,h1,h2⟩
 rcases hg with ⟨hl0,b,rfl⟩|⟨M5,rfl,hk⟩
 .have:l=[]:=by rw[D7]at hl0;exact yK.1 hl0
  subst this;have hS:=YQ ⟨[],F⟩ b;have hK:=Qh X6 ⟨[],F⟩ b;refine Jk o5 λΨ hΨ fr hl h0=>?_;simp[o5]at hl h0;simp[o5,hl,h0,hC,hS,hK];exact hΨ _ ⟨([],(true,b)),rfl,⟨List.Pairwise.nil,λ_=>Iff.rfl⟩,λ_ h=>h,xn _⟩
 .have hne':l≠[]:=by rintro rfl;exact M5 rfl
  have CI:=J0 hk;obtain⟨l',hp,hsort,hS⟩:=PI 0 ⟨[],F⟩ l hk hne' K4 (by omega);have hl':l'.length=l.length:=hp.length_eq;have hcm:QL X6 l':=⟨rfl,λa ha b hb=>eK a b (K4 a (hp.mem_iff.1 ha)) (K4 b (hp.mem_iff.1 hb))⟩;obtain⟨Z,hZ,hZR,hK⟩:=IZ X6 l' hcm 0 ⟨[],F.set 0 ⟨A3 l',4,true⟩⟩ (by simp only at CI;simp[CI]) (by omega);obtain⟨s1,s2,s3⟩:=Kh l' hsort;rw[hl']at hK hZ;generalize P3 l'=R at *
  simp only[yU]at hK hS CI;rw[hlv]at hC;have e1:(A3 Z).length=l.length:=by rw[D7,yC,hZ]
  have e2:(A3 Z).take R.length=A3 R:=by rw[←QI,hZR]
  have e3:R.length<=l.length:=by omega
  refine Jk o5 λΨ hΨ fr hl h0=>?_;simp[o5]at hl h0;simp[o5,hl,h0,hC,hS,hK,CI,e1,e2,e3];exact hΨ _ ⟨(R,(false,true)),rfl,⟨s1.1,λe=>(s1.2 e).trans (by simp only[xu,hp.mem_iff])⟩,λx hx=>hp.mem_iff.1 (s2 x hx),e3⟩
mutual
def EH:Tm->List Tm
 | .mk k nm s m l=>.mk k nm s m l::alls l
def alls:List Tm->List Tm
 | []=>[]
 |t::l=>EH t++alls l
end
theorem Ac (t:Tm):EH t=t::alls t.kids:=by cases t;rfl
theorem J1 (l:I2):alls l=l.flatMap EH:=by
 induction l with
 |nil=>rfl
 |cons t l ih=>rw[alls,ih,yN]
theorem Tq {l:I2} {i:Nat} (h:i<l.length):alls (l.take (i+1))=alls (l.take i)++EH l[i]:=by
 rw[xy h,J1,J1,yD,yN,List.flatMap_nil,List.append_nil]
mutual
theorem Oe:∀t:Tm,(EH t).length=t.size
 | .mk _ _ _ _ l=>by
  have:=Cf l;simp only[EH,Tm.size,xw];omega
theorem Cf:∀l:List Tm,(alls l).length=Tm.sizes l
 | []=>rfl
 |t::l=>by
  have:=Oe t;have:=Cf l;simp only[alls,Tm.sizes,xm];omega
end
theorem Tp:∀(n:Nat) (t:Tm),t.size<=n->∀x∈EH t,x.size<=t.size:=by
 intro n
 induction n with
 |zero=>intro t h;have:=t.size_pos;omega
 |succ n ih =>
  intro t hn x hx;rw[Ac]at hx;rcases xr.1 hx with rfl|hx
  .exact xn _
  .have K4:=t.kids_size;rw[J1]at hx;obtain⟨y,hy,hx⟩:=yQ.1 hx;have h1:=Tm.size_le hy;have:=ih y (by omega) x hx;omega
def HG (L:Nat) (h h':AH):Prop:=h.boxes.length<=h'.boxes.length/\∀j,L<=j->j<h.boxes.length->h'.boxes[j]?=h.boxes[j]?
theorem HG.trans {L:Nat} {a b c:AH} (h:HG L a b) (k:HG L b c):HG L a c :=
 ⟨Nat.le_trans h.1 k.1,λj h1 h2=>(k.2 j h1 (Nat.lt_of_lt_of_le h2 h.1)).trans (h.2 j h1 h2)⟩
theorem HG.refl (L:Nat) (a:AH):HG L a a:=⟨xn _,λ_ _ _=>rfl⟩
theorem HG.push (L:Nat) (a:AH) (c:E6):HG L a ⟨a.boxes++[c],a.fams⟩ :=
 ⟨by simp,λj _ h=>by simp[xk h]⟩
structure Vis (g:FuncId) (caps:List AV) (p:Tm->Bool) (L:Nat) (I:List Tm->AH->Prop):Prop where
 raw:C4 g=true
 rawv:GO X9=true
 noB:Bh g=false
 keep:∀G1 h c,L<=h.boxes.length->I G1 h->I G1 ⟨h.boxes++[c],h.fams⟩
 call:∀(x:Tm) (G1:List Tm) (h:AH),G1.length<1099511627776->L<=h.boxes.length->I G1 h ->
  ∃v h',rc Q g (B8 x::caps) h=some (v,h')/\I (G1++[x].filter p) h'/\HG L h h'
theorem di {g:FuncId} {caps:E6} {p:Tm->Bool} {L:Nat} {I:List Tm->AH->Prop} (V:Vis g caps p L I) (m:I8) (l:I2) (G1:I2) (C2:G1.length+Tm.sizes l<=1099511627776)
  (IH:∀t∈l,∀(G1:List Tm) (h:AH),G1.length+t.size<=1099511627776->L<=h.boxes.length->I G1 h->∃v h',rc Q X9 [B8 t,.fn g caps] h=some (v,h')/\I (G1++(EH t).filter p) h'/\HG L h h')
  (fr:Fr) (h:AH) (hL:L<=h.boxes.length) (hI:I G1 h) (hl:fr.length=20) (h1:A0 fr 1=.fn g caps) (h10:A0 fr 10=sl m 4 (A3 l)) (h11:A0 fr 11=.int .i64 l.length) (h12:A0 fr 12=.int .i64 0) :
  C8 (lp (A1 (Q8 Q) (G7 X9) Eg) (fr,h)) λe D4 h'=>Kp Eg.wr fr D4/\e=.exit 0/\I (G1++(alls l).filter p) h'/\HG L h h':=by
 have hll:=Tm.length_le l;refine C3 rfl fr (λn fr h'=>∃i:Nat,i+n=l.length/\A0 fr 12=.int .i64 (i:Nat)/\I (G1++(alls (l.take i)).filter p) h'/\HG L h h') ?_ l.length h ⟨0,by omega,h12,by simpa[alls]using hI,HG.refl _ _⟩;rintro J Φ hJ hΦ n G9 H1 K ⟨i,hi,k12,hI',hK⟩;have B4:=K.1.trans hl;have k1:=A5 K 1 h1;have k10:=A5 K 10 h10;have k11:=A5 K 11 h11;clear K;by_cases A6:i<l.length
 .have V7:=E5 i (by omega);have hx:=S4 A6;have hat:=Tq A6;have hb:(G1++(alls (l.take i)).filter p).length+l[i].size<=1099511627776:=by
   have a1:=yA p (alls (l.take i));have a2:=Cf (l.take (i+1));rw[hat,xm,Oe]at a2;have a3:Tm.sizes (l.take (i+1))<=Tm.sizes l:=by
    have e:=congrArg yO (congrArg alls (yJ (i+1) l));rw[J1,J1,yD,xm,←J1,←J1,←J1,Cf,Cf,Cf]at e;omega
   simp only[xm];omega
  obtain⟨v,⟨B',F'⟩,hc,hI2,hK2⟩:=IH l[i] (yP A6) _ ⟨H1.boxes++[(B8 l[i]).cells],H1.fams⟩ hb (by simp only[xm];have:=hK.1;omega) (V.keep _ _ _ (by have:=hK.1;omega) hI');rw[yF,←yM,←hat]at hI2;have hK3:=(hK.trans (HG.push L H1 (B8 l[i]).cells)).trans hK2;clear hat hb hI' IH;generalize l[i]=s at *
  obtain⟨B,F⟩:=H1;simp only[H3]at hc;simp[Eg,B4,k1,k10,k11,k12,A6,hx,hc,V7];exact O4 hJ ⟨i+1,by omega,by simp[B4],hI2,hK3⟩
 .rw[yI (by omega)]at hI';simp[Eg,B4,k11,k12,A6];exact hΦ _ _ _ ⟨rfl,hI',hK⟩
theorem bf {g:FuncId} {caps:E6} {p:Tm->Bool} {L:Nat} {I:List Tm->AH->Prop} (V:Vis g caps p L I) :
  ∀(n:Nat) (t:Tm),t.size<=n->∀(G1:List Tm) (h:AH),G1.length+t.size<=1099511627776->L<=h.boxes.length->I G1 h ->
   ∃v h',rc Q X9 [B8 t,.fn g caps] h=some (v,h')/\I (G1++(EH t).filter p) h'/\HG L h h':=by
 intro n
 induction n with
 |zero=>intro t h;have:=t.size_pos;omega
 |succ n ih =>
  intro t hn G1 h hb hL hI;have K4:=t.kids_size;obtain⟨B,F⟩:=h;simp only at hL;obtain⟨v1,⟨B1,F1⟩,hc1,hI1,hk1⟩:=V.call t G1 ⟨B++[(B8 t).cells],F⟩ (by omega) (by simp only[xm];omega) (V.keep _ ⟨B,F⟩ _ hL hI);have hk2:=(HG.push L ⟨B,F⟩ (B8 t).cells).trans hk1;have hown:B1[B.length]?=some (B8 t).cells:=by
   rw[hk1.2 B.length hL (by simp)];simp
  have hl0:(G1++[t].filter p).length+Tm.sizes t.kids<=1099511627776:=by
   have:=yA p [t];simp only[xm,List.length_singleton]at this ⊢;omega
  have Pk:=di V t.cm t.kids _ hl0 (λt' ht'=>ih t' (by have:=Tm.size_le ht';omega));clear ih hb hn hl0;have hraw:=V.raw;have hrv:=V.rawv;have hnb:=V.noB;simp only[H3]at hc1 hown;rw[show (EH t).filter p=[t].filter p++(alls t.kids).filter p from by rw[Ac,←yM];rfl,←yF];refine FT Mv λfr hl h0 h1=>?_;simp[Mv]at hl h0 h1;simp[Mv,hl,h0,h1,hc1,hraw,hrv,hnb,hown];refine C8.mono (Pk _ _ ?_ hI1 ?_ ?_ ?_ ?_ ?_) ?_<;>first|(simp[hl,h1];done)|skip
  .have:=hk2.1;simp only at this ⊢;omega
  rintro e G9 Jb ⟨K,rfl,hI2,hk3⟩;simp;exact⟨by rw[←yF];exact hI2,hk2.trans hk3⟩
def WP (sz:Nat) (G1:List AV) (v:AV) (h:AH):Prop:=(G1=[]/\v=.vs true 0 [])\/(G1≠[]/\∃k,v=.sl k G1.length 0 G1.length/\h.fams[k]?=some ⟨G1,sz,true⟩)
theorem WS {sz:Nat} {G1:E6} {v:AV} {h:AH} (hg:WP sz G1 v h):∃k,cH k sz G1 v h:=by
 rcases hg with ⟨rfl,rfl⟩|⟨M5,k,rfl,hk⟩
 .exact⟨0,.inl ⟨rfl,false,Fw sz⟩⟩
 .exact⟨k,.inr ⟨M5,rfl,hk⟩⟩
theorem Jz {sz:Nat} {G1:E6} {v:AV} {h h':AH} (hg:WP sz G1 v h) (e:h'.fams=h.fams):WP sz G1 v h':=by
 rcases hg with hg|⟨h1,k,h2,h3⟩
 .exact .inl hg
 .exact .inr ⟨h1,k,h2,by rw[e];exact h3⟩
theorem Ke {sz:Nat} {G1:E6} {v:AV} {h:AH} (hg:WP sz G1 v h):v.isTup=false/\v.cells=[v]/\CJ [v]=false:=by
 rcases hg with ⟨_,rfl⟩|⟨_,k,rfl,_⟩<;>exact⟨rfl,rfl,rfl⟩
theorem WQ {sz:Nat} {G1:E6} {v:AV} {h:AH} (hg:WP sz G1 v h) (h':AH):Pn h' v=some (.int .i64 G1.length,h'):=by
 rcases hg with ⟨rfl,rfl⟩|⟨M5,k,rfl,hk⟩<;>rfl
theorem WR {c:Ctx} {sz bytes:Nat} {G1:E6} {v z:AV} {h:AH} (hg:WP sz G1 v h) (hm:c.mutApp=true) (m:I8)
  (hb:(G1.length+1)*bytes<=140737488355328) (hb':G1.length<=1099511627776):∃k F,L5 c h sz bytes v (sl m sz [z])=some (.sl k (G1.length+1) 0 (G1.length+1),⟨h.boxes,F⟩)/\F[k]?=some ⟨G1++[z],sz,true⟩/\k<F.length /\
   (∀x,(G1++[z]).set G1.length x=G1++[x])/\∀x B,WP sz (G1++[x]) (.sl k (G1.length+1) 0 (G1.length+1)) ⟨B,F.set k ⟨G1++[x],sz,true⟩⟩:=by
 have hr:(G1.length+1)*bytes<=G4/\G1.length+1<=maxLen:=by simp only[G4,maxLen];omega
 rcases hg with ⟨rfl,rfl⟩|⟨M5,k,rfl,hk⟩
 .rw[aW,O5,xz,if_neg (by simp),if_pos (by simpa using hr),hm];exact⟨h.fams.length,_,rfl,by simp,by simp,by simp,λx B=>.inr ⟨by simp,_,rfl,by simp⟩⟩
 .have CH:=J0 hk;rw[RZ,O5,xz,hk,xz,if_pos ⟨rfl,rfl,by omega,by simpa using hr⟩];exact⟨k,_,rfl,by simp[CH],by simpa using CH,by simp,λx B=>.inr ⟨by simp,k,by simp,by simp[CH]⟩⟩
def aP (b:Nat) (G1:List Tm) (h:AH):Prop:=∃v,h.boxes[b]?=some [v]/\WP 4 (A3 G1) v h
@[simp] theorem mM (cs ds:E6):(AV.agg cs).reform ds=some (.agg ds):=rfl
@[simp] theorem vI (h:AH) (n k m i q sz:Nat) (v:AV):Sx h n (.ep k m i q sz) v=if KI v then ((h.fams[k]?).bind λf =>
  if f.xs.length=m/\f.sz=sz/\f.wr=true then
   (f.xs[i]?).bind λx=>(frz h false v).bind λu=>if u.cells.length=n/\q+n<=x.cells.length then
    (x.reform (I9 x.cells q u.cells)).map λy=>{h with fams:=h.fams.set k {f with xs:=f.xs.set i y}} else none
  else none).map (λh'=>(A9,h'))else none:=by
 have e:Ew h n v k m i q sz=((h.fams[k]?).bind λf =>
  if f.xs.length=m/\f.sz=sz/\f.wr=true then
   (f.xs[i]?).bind λx=>(frz h false v).bind λu=>if u.cells.length=n/\q+n<=x.cells.length then
    (x.reform (I9 x.cells q u.cells)).map λy=>{h with fams:=h.fams.set k {f with xs:=f.xs.set i y}} else none
  else none):=by
  simp only[Ew];cases h.fams[k]? with
  |none=>rfl
  |some f =>
   simp only[xz];split
   .cases f.xs[i]? with
    |none=>rfl
    |some x=>cases frz h false v<;>rfl
   .rfl
 rw[←e];simp only[Sx];split
 .cases Ew h n v k m i q sz<;>rfl
 .rfl
@[simp] theorem tZ (h:AH) (n:Nat) (v:AV) (b off:Nat):Sw h n (.ptr b off) v=(h.boxes[b]?).bind λcs=>if CJ cs=false/\v.isTup=false/\v.cells.length=n/\off+n<=cs.length then some (A9,{h with boxes:=h.boxes.set b (I9 cs off v.cells)})else none:=by
 simp only[Sw];cases h.boxes[b]?<;>rfl
theorem bz:B8 Yw=AV.agg [.int .i64 0,.str (bs []),.int .i64 0,sl (true,false) 1 []]:=rfl
theorem aw:KI (AV.agg [.int .i64 0,.str (bs []),.int .i64 0,.vs true 0 []])=true:=rfl
theorem WI (b:Nat):Vis W7 [.ptr b 0] (λ_=>true) (b+1) (aP b) where
 raw:=rfl
 rawv:=rfl
 noB:=rfl
 keep:=by
  rintro G1 h c hL ⟨v,h1,h2⟩;exact⟨v,by rw[xk (by omega)];exact h1,Jz h2 rfl⟩
 call:=by
  rintro x G1 ⟨B,F⟩ hb hL ⟨v,hv,hg⟩;simp only at hv hL;have hbl:=J0 hv;have hal:(A3 G1).length=G1.length:=by rw[D7,yC]
  obtain⟨k,F',ha,hk,CI,IK,hG⟩:=WR (c:=G7 W7) (bytes:=56) (z:=B8 Yw) (Jz (h':=⟨B++[(B8 x).cells],F⟩) hg rfl) rfl (true,true) (by omega) (by omega);obtain⟨c1,c2,c3⟩:=Ke hg;have C2:=WQ hg;have hG2:=hG (B8 x);have hs2:=IK (B8 x);rw[hal]at ha hG2 hs2 C2;simp only[H3,bz]at ha hk hs2;have hq:(B++[[AV.int .i64 x.kind,.str x.name,.int .i64 x.sort,sl x.cm 4 (A3 x.kids)]])[b]?=some [v]:=by rw[xk hbl];exact hv
  refine FT GF λfr hl h0 h1=>?_;simp[GF]at hl h0 h1;have hlt1:(G1.length:Int)<(G1.length:Int)+1:=by omega
  simp[GF,hl,h0,h1,hq,C2,ha,hk,c3,aw,A4,hbl,hal,hlt1];refine⟨⟨_,?_,by rw[Dz];exact hG2 _⟩,?_,λj hj hj2=>?_⟩
  .simp[xk,hbl]
  .simp
  .simp only at hj2 ⊢;rw[xk (by simpa using hj2),yB (by omega)]
def mF (a b:Nat) (kd:Int) (G1:List Tm) (h:AH):Prop:=h.boxes[a]?=some [.int .i64 kd]/\aP b G1 h
theorem aL (a b:Nat) (Lr:a<b) (kd:Int):Vis q9 [.ptr a 0,.ptr b 0] (λx=>decide (x.kind=kd)) (b+1) (mF a b kd) where
 raw:=rfl
 rawv:=rfl
 noB:=rfl
 keep:=by
  rintro G1 h c hL ⟨h0,v,h1,h2⟩;exact⟨by rw[xk (by omega)];exact h0,v,by rw[xk (by omega)];exact h1,Jz h2 rfl⟩
 call:=by
  rintro x G1 ⟨B,F⟩ hb hL ⟨hkd,v,hv,hg⟩;simp only at hv hL hkd;have hbl:=J0 hv;have hal:(A3 G1).length=G1.length:=by rw[D7,yC]
  have hq:(B++[[AV.int .i64 x.kind,.str x.name,.int .i64 x.sort,sl x.cm 4 (A3 x.kids)]])[b]?=some [v]:=by rw[xk hbl];exact hv
  have hq2:(B++[[AV.int .i64 x.kind,.str x.name,.int .i64 x.sort,sl x.cm 4 (A3 x.kids)]])[a]?=some [.int .i64 kd]:=by rw[xk (by omega)];exact hkd
  by_cases hc:x.kind=kd
  .subst hc;obtain⟨k,F',ha,hk,CI,IK,hG⟩:=WR (c:=G7 q9) (bytes:=56) (z:=B8 Yw) (Jz (h':=⟨B++[(B8 x).cells],F⟩) hg rfl) rfl (true,true) (by omega) (by omega);obtain⟨c1,c2,c3⟩:=Ke hg;have C2:=WQ hg;have hG2:=hG (B8 x);have hs2:=IK (B8 x);rw[hal]at ha hG2 hs2 C2;simp only[H3,bz]at ha hk hs2;have hlt1:(G1.length:Int)<(G1.length:Int)+1:=by omega
   refine lI BA λfr hl h0 h1 h2=>?_;simp[BA]at hl h0 h1 h2;simp[BA,hl,h0,h1,h2,hq,hq2,C2,ha,hk,c3,aw,A4,hbl,hal,hlt1];refine⟨⟨?_,_,?_,by rw[Dz];exact hG2 _⟩,?_,λj hj hj2=>?_⟩
   .simp only;rw[xk (by simp;omega),yB (by omega)];exact hkd
   .simp[xk,hbl]
   .simp
   .simp only at hj2 ⊢;rw[xk (by simpa using hj2),yB (by omega)]
  .refine lI BA λfr hl h0 h1 h2=>?_;simp[BA]at hl h0 h1 h2;simp[BA,hl,h0,h1,hq2,hc];exact⟨⟨hq2,v,hq,Jz hg rfl⟩,HG.push _ ⟨B,F⟩ _⟩
theorem TP (m:I8) (l:I2) (C2:Tm.sizes l<=1099511627776) (fr:Fr) (h:AH) (hh:h.boxes=[[.vs true 0 []]]) (hl:fr.length=18)
  (h3:A0 fr 3=.ptr 0 0) (h6:A0 fr 6=sl m 4 (A3 l)) (h7:A0 fr 7=.int .i64 l.length) (h8:A0 fr 8=.int .i64 0) :
  C8 (lp (A1 (Q8 Q) (G7 q8) BQ) (fr,h)) λe D4 h'=>Kp BQ.wr fr D4/\e=.exit 0/\aP 0 (alls l) h':=by
 have hll:=Tm.length_le l;refine C3 rfl fr (λn fr h'=>∃i:Nat,i+n=l.length/\A0 fr 8=.int .i64 (i:Nat)/\aP 0 (alls (l.take i)) h'/\1<=h'.boxes.length) ?_ l.length h ⟨0,by omega,h8,⟨_,by rw[hh];rfl,.inl ⟨rfl,rfl⟩⟩,by rw[hh];simp⟩;rintro J Φ hJ hΦ n G9 H1 K ⟨i,hi,k8,hI,hB⟩;have B4:=K.1.trans hl;have k3:=A5 K 3 h3;have k6:=A5 K 6 h6;have k7:=A5 K 7 h7;clear K;by_cases A6:i<l.length
 .have V7:=E5 i (by omega);have hx:=S4 A6;have hat:=Tq A6;have hV:=WI 0;have hb:(alls (l.take i)).length+l[i].size<=1099511627776:=by
   have a2:=Cf (l.take (i+1));rw[hat,xm,Oe]at a2;have a3:Tm.sizes (l.take (i+1))<=Tm.sizes l:=by
    have e:=congrArg yO (congrArg alls (yJ (i+1) l));rw[J1,J1,yD,xm,←J1,←J1,←J1,Cf,Cf,Cf]at e;omega
   omega
  obtain⟨v,⟨B',F'⟩,hc,hI2,hK2⟩:=bf hV _ l[i] (xn _) _ ⟨H1.boxes++[(B8 l[i]).cells],H1.fams⟩ hb (by simp) (hV.keep _ _ _ hB hI);rw[List.filter_eq_self.2 (λ_ _=>rfl),←hat]at hI2;have hB2:1<=B'.length:=by have:=hK2.1;simp at this;omega
  clear hat hb hI hV hK2;generalize l[i]=s at *
  obtain⟨B,F⟩:=H1;simp only[H3]at hc;simp[BQ,B4,k3,k6,k7,k8,A6,hx,hc,V7];exact O4 hJ ⟨i+1,by omega,by simp[B4],hI2,hB2⟩
 .rw[yI (by omega)]at hI;simp[BQ,B4,k7,k8,A6];exact hΦ _ _ _ ⟨rfl,hI⟩
theorem Qe (m:I8) (l:I2) (C2:Tm.sizes l<=1099511627776) :
  ∃(R:List Tm) (m':Bool×Bool),pc Q q8 [sl m 4 (A3 l)]=some (sl m' 4 (A3 R))/\O1 R (alls l)/\R.length<=Tm.sizes l:=by
 suffices h:∃v,pc Q q8 [sl m 4 (A3 l)]=some v/\∃q:List Tm×(Bool×Bool),v=sl q.2 4 (A3 q.1)/\O1 q.1 (alls l)/\q.1.length<=Tm.sizes l by
  obtain⟨v,h1,q,rfl,h2⟩:=h;exact⟨q.1,q.2,h1,h2⟩
 refine Jk Ha λΨ hΨ fr hl h0=>?_;simp[Ha]at hl h0;simp[Ha,hl,h0];refine C8.mono (TP m l C2 _ _ ?_ ?_ ?_ ?_ ?_ ?_) ?_<;>first|(simp[hl];done)|skip
 rintro e G9 ⟨B,F⟩ ⟨K,rfl,v,hv,hg⟩;simp only at hv;obtain⟨c1,c2,c3⟩:=Ke hg;obtain⟨k,hrow⟩:=WS hg;have hal:=Cf l;obtain⟨v',⟨B',F'⟩,R,ho,hb,IK,hRl,f1,f2,mm,f3⟩:=Sa k (alls l) v ⟨B,F⟩ hrow (λt ht=>by
  rw[J1]at ht;obtain⟨y,hy,ht⟩:=yQ.1 ht;have:=Tp _ y (xn _) t ht;have:=Tm.size_le hy;omega) (by omega)
 simp only at hb;subst hb;have M7:G9.length=18:=K.1.trans (by simp[hl]);have QX:A0 G9 3=.ptr 0 0:=A5 K 3 (by simp[hl]);clear K;simp[M7,QX,hv,c3,ho,f3];exact hΨ _ ⟨(R,mm),rfl,IK,by simpa[hal]using hRl⟩
theorem kl (t:Tm) (C2:t.size<=1099511627776) :
  ∃(R:List Tm) (m':Bool×Bool),pc Q MX [B8 t]=some (sl m' 4 (A3 R))/\O1 R ((EH t).filter λx=>decide (x.kind=1)):=by
 have hofk:∃(R:List Tm) (m':Bool×Bool),pc Q Ea [B8 t,.int .i64 1]=some (sl m' 4 (A3 R))/\O1 R ((EH t).filter λx=>decide (x.kind=1)):=by
  suffices h:∃v,pc Q Ea [B8 t,.int .i64 1]=some v/\∃q:List Tm×(Bool×Bool),v=sl q.2 4 (A3 q.1)/\O1 q.1 ((EH t).filter λx=>decide (x.kind=1)) by
   obtain⟨v,h1,q,rfl,h2⟩:=h;exact⟨q.1,q.2,h1,h2⟩
  have hV:=aL 1 2 (by omega) 1;obtain⟨w,⟨B,F⟩,hc,⟨_,v,hv,hg⟩,hK2⟩:=bf hV _ t (xn _) [] ⟨[(B8 t).cells,[.int .i64 1],[.vs true 0 []]],[]⟩ (by simpa using C2) (by simp) ⟨rfl,_,rfl,.inl ⟨rfl,rfl⟩⟩;rw[List.nil_append]at hg;simp only at hv;obtain⟨c1,c2,c3⟩:=Ke hg;obtain⟨k,hrow⟩:=WS hg;have hal:=Oe t;have hfl:=yA (λx:Tm=>decide (x.kind=1)) (EH t);obtain⟨v',⟨B',F'⟩,R,ho,hb,IK,hRl,f1,f2,mm,f3⟩:=Sa k _ v ⟨B,F⟩ hrow (λx hx=>by
   have:=Tp _ t (xn _) x (List.mem_filter.1 hx).1;omega) (by omega)
  simp only at hb;subst hb;simp only[H3]at hc;refine Ta Jx λΨ hΨ fr hl h0 h1=>?_;simp[Jx]at hl h0 h1;simp[Jx,hl,h0,h1,hc,hv,c3,ho,f3];exact hΨ _ ⟨(R,mm),rfl,IK⟩
 obtain⟨R,m',h1,h2⟩:=hofk;refine⟨R,m',?_,h2⟩;refine N4 Ms λfr hl h0=>?_;simp[Ms]at hl h0;simp[Ms,hl,h0,h1]
def P2 (l:List Tm) (t:Tm):Bool:=l.any λx=>GW x t
theorem s9 {l:I2} {t:Tm}:P2 l t=true↔D5 t∈l.map D5:=by
 simp only[P2,List.any_eq_true,GW,decide_eq_true_eq,xu,AF]
theorem cL {R l:I2} (h:O1 R l) (t:Tm):P2 R t=P2 l t:=by
 rw[yS,s9,s9];exact h.2 _
theorem RD {l:I2} {t t':Tm} (h:D5 t=D5 t'):P2 l t=P2 l t':=by
 rw[yS,s9,s9,h]
theorem jH (a b:I2):A3 (a++b)=A3 a++A3 b:=by simp[D7]
def rW (t:Tm):Bool:=((EH t).filter λx=>decide (x.kind=1)).isEmpty
theorem cN {R l:I2} (h:O1 R l):R.length=0↔l.isEmpty=true:=by
 have h2:=h.2;rw[List.isEmpty_iff];constructor
 .intro e;have:R=[]:=List.eq_nil_of_length_eq_zero e;subst this;cases l with
  |nil=>rfl
  |cons a l=>exact absurd ((h2 (D5 a)).2 (by simp)) (by simp)
 .rintro rfl;cases R with
  |nil=>rfl
  |cons a l=>exact absurd ((h2 (D5 a)).1 (by simp)) (by simp)
end Go.Abs.Q
