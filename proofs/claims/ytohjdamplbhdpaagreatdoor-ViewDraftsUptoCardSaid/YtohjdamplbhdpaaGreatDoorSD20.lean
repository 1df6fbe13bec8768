/- A part of the proof. -/
import Derived.Test.YtohjdamplbhdpaaGreatDoorSD19
set_option linter.all false
open List renaming mem_cons_self->oD,getElem?_eq_getElem->xX,mem_cons_of_mem->xY,map_cons->xZ,take_succ_eq_append_getElem->xa,mem_cons->xb,pairwise_cons->xc,mem_of_getElem?->xe,mem_map->xf,length_cons->xg,map_append->xh,replicate->xi,pairwise_iff_getElem->xk,take_length->xl,append_nil->xm,singleton_append->xn,map_eq_nil_iff->xo,mem_map_of_mem->xp,append_assoc->xq,getElem?_map->xr,not_mem_nil->xt,length_map->xu,take_left'->xw,map_take->xy,map_nil->xz,set_set->yA,length->yB
open Nat renaming le_refl->xd
open Int renaming lt_or_eq_of_le->xj
namespace Go.Abs.Q
open Go.Proofs
attribute [local simp] D1 D4 fin I2 G0 K7 I3
def keep (p:Tm):List Tm->List Tm
 | []=>[]
 |b::l=>if G9 b p=0 then keep b l else b::keep b l
def P4:List Tm->List Tm
 | []=>[]
 |a::l=>a::keep a l
def Px (g:FuncId) (l:List Tm):Prop:=C4 g=false/\∀a∈l,∀b∈l,pc Q g [B8 a,B8 b]=some (.bool (decide (G9 a b=0)))
theorem Sp {l:I1} {i:Nat} {t:Tm} (h:l[i]?=some t):(A4 l)[i]?=some (B8 t):=by
 rw[D7,xr,h];rfl
theorem ij (l:I1) (i:Nat) (t:Tm):(A4 l).set i (B8 t)=A4 (l.set i t):=by
 rw[D7,D7,List.map_set]
theorem RX {α:Type} {l:List α} {i:Nat} {p:α} {q:List α} (h:l.drop i=p::q):l[i]?=some p/\l.drop (i+1)=q/\i+1+q.length=l.length:=by
 have h1:(l.drop i)[0]?=some p:=by rw[h];rfl
 rw[List.getElem?_drop,Nat.add_zero]at h1;have h2:(l.drop i).drop 1=q:=by rw[h];rfl
 rw[List.drop_drop]at h2;have h3:=congrArg yB h;rw[List.length_drop,xg]at h3;obtain⟨h4,-⟩:=List.getElem?_eq_some_iff.1 h1;exact⟨h1,h2,by omega⟩
theorem ie {α:Type} {l:List α} {i:Nat} (x:α) (h:i<l.length):(l.set i x).take (i+1)=l.take i++[x]:=by
 rw[xa (by simpa using h),List.take_set_of_le (xd i)];simp
theorem gG (g:FuncId) (l R:I1) (hg:Px g l) (k N k0:Nat) (hN:l.length=N) (hN2:N<=1099511627776) (h1k:1<=k0) (p0:Tm) (q0:I1) (hd0:l.drop k0=p0::q0) (hR:l.take k0++keep p0 q0=R)
  (fr:Fr) (h:AH) (hfam:h.fams[k]?=some ⟨A4 l,4,true⟩) (hl:fr.length=66) (h0:A0 fr 0=.sl k N 0 N) (h1:A0 fr 1=.fn g []) (h6:A0 fr 6=.sl k N k0 (N-k0))
  (h5:A0 fr 5=.int .i64 (k0:Nat)) (h7:A0 fr 7=.int .i64 1) :
  C8 (lp (A1 (Q8 Q) (G8 B9) L6) (fr,h)) λe D3 h'=>Kp L6.wr fr D3/\e=.exit 2 /\
   ∃(Y:List Tm) (k':Nat),A0 D3 5=.int .i64 (k':Nat)/\h'=⟨h.boxes,h.fams.set k ⟨A4 Y,4,true⟩⟩/\Y.length=N/\k' < N/\1<=k'/\Y.take k'=R:=by
 have CF:=J1 hfam;obtain⟨d1,d2,d3⟩:=RX hd0;refine C3 rfl fr (λn fr h'=>∃(j kk:Nat) (Y:List Tm) (p:Tm) (q:List Tm),j+n=N-k0/\1<=j/\1<=kk/\kk<k0+j/\A0 fr 5=.int .i64 (kk:Nat)/\A0 fr 7=.int .i64 (j:Nat) /\
  h'=⟨h.boxes,h.fams.set k ⟨A4 Y,4,true⟩⟩/\Y.length=N/\(∀x∈Y,x∈l)/\Y.drop (k0+j-1)=p::q/\Y.take kk++keep p q=R) ?_ (N-k0-1) h
  ⟨1,k0,l,p0,q0,by omega,xd _,h1k,by omega,h5,h7,by rw[Ch hfam],hN,λ_ h=>h,by simpa using hd0,hR⟩
 rintro J Φ hJ hΦ n H0 H1 K ⟨j,kk,Y,p,q,hjn,hj,MA,hkj,k5,k7,rfl,hY,hYl,hYd,hYR⟩;have B5:=K.1.trans hl;have k0':=A5 K 0 h0;have k1':=A5 K 1 h1;have k6':=A5 K 6 h6;clear K;obtain⟨e1,e2,e3⟩:=RX hYd;by_cases A7:j<N-k0
 .have hlti:(j:Int)<((N-k0:Nat):Int):=by omega
  cases q with
  |nil=>simp at e3;omega
  |cons b q =>
   obtain⟨f1,f2,f3⟩:=RX e2;have hbY:b∈Y:=xe f1;have hpY:p∈Y:=xe e1;have hc:=hg.2 b (hYl _ hbY) p (hYl _ hpY);have hw1:=E6 j (by omega);have hw2:IntKind.i64.wrap ((j:Int)-1)=((j-1:Nat):Int):=by rw[M5 (by omega) (by omega)];omega
   have hw3:=E6 kk (by omega);have hb1:((j-1:Nat):Int)<((N-k0:Nat):Int):=by omega
   have hb2:(kk:Int)<N:=by omega
   have g1:=Sp e1;have g2:=Sp f1;rw[show k0+j-1+1=k0+j from by omega]at g2;rw[show k0+j-1=k0+(j-1) from by omega]at g1;have gl:(A4 Y).length=N:=by simpa using hY
   by_cases hcz:G9 b p=0
   .have hYR':Y.take kk++keep b q=R:=by rw[←hYR,keep,if_pos hcz]
    simp only[hcz,decide_true]at hc;simp[L6,B5,k1',k6',k7,hlti,hw1,hw2,hb1,g1,g2,gl,CF,hc,hg.1];exact O9 hJ ⟨j+1,kk,Y,b,q,by omega,by omega,MA,by omega,by simp[k5],by simp[B5],rfl,hY,hYl,by rw[show k0+(j+1)-1=k0+j-1+1 from by omega];exact e2,hYR'⟩
   .have hkY:kk<Y.length:=by omega
    have hYR':(Y.set kk b).take (kk+1)++keep b q=R:=by rw[←hYR,keep,if_neg hcz,ie _ hkY,xq,xn]
    have g3:=ij Y kk b;obtain⟨c,hc1⟩:∃c,Y[kk]?=some c:=⟨_,xX hkY⟩;have g4:=Sp hc1;simp only[hcz,decide_false]at hc;simp[L6,B5,k0',k1',k6',k5,k7,hlti,hw1,hw2,hw3,hb1,hb2,g1,g2,g3,g4,gl,CF,hc,hg.1];exact⟨n-1,by omega,hJ _ _ _ ⟨j+1,kk+1,Y.set kk b,b,q,by omega,by omega,by omega,by omega,by simp[B5],by simp[B5],rfl,by simpa using hY,λx hx=>by
     rcases List.mem_or_eq_of_mem_set hx with h|rfl
     .exact hYl _ h
     .exact hYl _ hbY,by rw[show k0+(j+1)-1=k0+j-1+1 from by omega,List.drop_set_of_lt (by omega)];exact e2,hYR'⟩⟩
 .have hlti:¬(j:Int)<((N-k0:Nat):Int):=by omega
  cases q with
  |cons b q=>simp at e3;omega
  |nil =>
   simp[L6,B5,k6',k7,hlti];exact hΦ _ _ _ ⟨rfl,Y,kk,by simp[k5],rfl,hY,by omega,MA,by rw[←hYR,keep,xm]⟩
def Yl:Tm:=.mk 0 (bs []) 0 (true,false) []
theorem ir:AV.agg [.int .i64 0,.str (bs []),.int .i64 0,.vs true 0 []]=B8 Yl:=rfl
theorem Um (l:I1) (i:Nat):A4 (l.take i)=(A4 l).take i:=by rw[D7,D7,xy]
@[simp] theorem uA (h:AH) (z:AV) (k n off len:Nat):PX h z (.sl k n off len)=(h.fams[k]?).bind λf=>if f.xs.length=n/\off+len<=n/\f.wr=true/\z.cells.length=f.sz then some (A9,{h with fams:=h.fams.set k {f with xs:=f.xs.take off++xi len z++f.xs.drop (off+len)}})else none:=by
 simp only[PX];cases h.fams[k]?<;>rfl
@[simp] theorem pq (h:AH) (sz k n off len:Nat) (lo hi:Option Int):TX h sz (.sl k n off len) (some lo) (some hi) (some none)=(h.fams[k]?).bind λf =>
  if (0<sz/\f.sz=sz/\f.xs.length=n)/\0<=lo.getD 0/\lo.getD 0<=hi.getD len/\hi.getD len<=len then some (.sl k n (off+(lo.getD 0).toNat) (hi.getD len-lo.getD 0).toNat,h)else none:=by
 simp only[TX,Jd];cases h.fams[k]? with
 |none=>rfl
 |some f =>
  simp only[Option.bind_some];by_cases h1:0<sz/\f.sz=sz/\f.xs.length=n
  .by_cases h2:0<=lo.getD 0/\lo.getD 0<=hi.getD len/\hi.getD len<=len
   .rw[if_pos h1,if_pos h2,if_pos ⟨h1,h2⟩]
   .rw[if_pos h1,if_neg h2,if_neg λk=>h2 k.2]
  .rw[if_neg h1,if_neg λk=>h1 k.1]
theorem jT (Y:I1) {N k':Nat} (hY:Y.length=N) (hk:k'<=N):(A4 Y).take k'++(xi (N-k') (AV.agg [.int .i64 0,.str (bs []),.int .i64 0,.vs true 0 []])++(A4 Y).drop N)=A4 (Y.take k'++xi (N-k') Yl):=by
 rw[ir,List.drop_of_length_le (by simp;omega),xm,D7,D7,xh,xy,List.map_replicate]
theorem IS (g:FuncId) (l:I1) (hg:Px g l) (k:Nat) (h:AH) (hk:h.fams[k]?=some ⟨A4 l,4,true⟩) (C2:l.length<=1099511627776) :
  ∃Z:List Tm,Z.length=l.length/\Z.take (P4 l).length=P4 l/\rc Q B9 [.sl k l.length 0 l.length,.fn g []] h=some (.sl k l.length 0 (P4 l).length,⟨h.boxes,h.fams.set k ⟨A4 Z,4,true⟩⟩):=by
 have CF:=J1 hk
 suffices hq:∃v h',rc Q B9 [.sl k l.length 0 l.length,.fn g []] h=some (v,h') /\
   ∃Z:List Tm,Z.length=l.length/\Z.take (P4 l).length=P4 l/\v=.sl k l.length 0 (P4 l).length/\h'=⟨h.boxes,h.fams.set k ⟨A4 Z,4,true⟩⟩ by
  obtain⟨v,h',h1,Z,h2,h3,rfl,rfl⟩:=hq;exact⟨Z,h2,h3,h1⟩
 have hsame:h=⟨h.boxes,h.fams.set k ⟨A4 l,4,true⟩⟩:=by rw[Ch hk]
 have hl0:(A4 l).length=l.length:=by simp
 refine FM G7 λfr hl h0 h1=>?_;simp[G7]at hl h0 h1;by_cases hs:l.length<2
 .have hs':(l.length:Int)<2:=by omega
  have Cr:P4 l=l:=by
   match l,hs with
   | [],_=>rfl
   | [a],_=>rfl
   |_::_::_,h=>exact absurd h (by simp)
  simp[G7,hl,h0,hs'];exact⟨l,rfl,by rw[Cr,xl],by rw[Cr],hsame⟩
 have hs':¬(l.length:Int)<2:=by omega
 simp[G7,hl,h0,hs'];obtain⟨a,q1,hd1⟩:∃a q1,l=a::q1:=by
  cases l with
  |nil=>simp at hs
  |cons a q=>exact⟨a,q,rfl⟩
 refine(C3 (Ψ:=λe D3 h'=>e=.exit 0/\P4 l=l/\h'=h\/e=.ret/\∃Z:List Tm,Z.length=l.length/\Z.take (P4 l).length=P4 l/\A0 D3 4=.sl k l.length 0 (P4 l).length/\h'=⟨h.boxes,h.fams.set k ⟨A4 Z,4,true⟩⟩) rfl _ (λn D3 h'=>h'=h/\∃(j:Nat) (p:Tm) (q:List Tm),j+n=l.length/\1<=j/\A0 D3 5=.int .i64 (j:Nat)/\l.drop (j-1)=p::q/\l.take j++keep p q=P4 l) ?_ (l.length-1) h ⟨rfl,1,a,q1,by omega,xd _,by simp[hl],by simpa using hd1,by rw[hd1];rfl⟩).mono ?_
 .rintro J Φ hJ hΦ n H0 H1 K ⟨rfl,j,p,q,hjn,hj,k5,hYd,hR⟩;have B5:H0.length=66:=K.1.trans (by simp[hl]);have k0:=A5 K 0 (by simp[h0]:_=AV.sl k l.length 0 l.length);have k1:=A5 K 1 (by simp[h1]:_=AV.fn g []);clear K h0 h1;obtain⟨e1,e2,e3⟩:=RX hYd;by_cases A7:j<l.length
  .have hlti:(j:Int)<l.length:=by omega
   cases q with
   |nil=>simp at e3;omega
   |cons b q =>
    obtain⟨f1,f2,f3⟩:=RX e2;have hc:=hg.2 b (xe f1) p (xe e1);have hw1:=E6 j (by omega);have hw2:IntKind.i64.wrap ((j:Int)-1)=((j-1:Nat):Int):=by rw[M5 (by omega) (by omega)];omega
    have hb1:((j-1:Nat):Int)<(l.length:Int):=by omega
    have g1:=Sp e1;have g2:=Sp f1;rw[show j-1+1=j from by omega]at g2 f1;by_cases hcz:G9 b p=0
    .have hR':l.take j++keep b q=P4 l:=by rw[←hR,keep,if_pos hcz]
     have hd':l.drop j=b::q:=by rw[←e2,show j-1+1=j from by omega]
     have Pb:j<=l.length:=by omega
     simp only[hcz,decide_true]at hc;simp[V7,B5,k0,k1,k5,hlti,hw2,hb1,g1,g2,hk,hc,hg.1,Pb];refine C8.mono (gG g l (P4 l) hg k l.length j rfl C2 hj b q hd' hR' _ _ hk ?_ ?_ ?_ ?_ ?_ ?_) ?_<;>first|(simp[B5,k0,k1,k5];done)|skip
     rintro e Cq h2 ⟨K,rfl,Y,k',m5,rfl,hYl,CE,hk1,hYR⟩;have JS:Cq.length=66:=K.1.trans (by simp[B5]);have m0:=A5 K 0 (by simp[k0]:_=AV.sl k l.length 0 l.length);clear K;have Cr:(P4 l).length=k':=by rw[←hYR,List.length_take];omega
     have hle':k'<=l.length:=by omega
     have hcr:=jT Y hYl hle';have hYl':(A4 Y).length=l.length:=by simpa using hYl
     have hmin:min k' Y.length+(l.length-k')=l.length:=by omega
     simp[JS,m0,m5,CF,hle',hYl',hcr,hmin];refine hΦ _ _ _ (.inr ⟨rfl,Y.take k'++xi (l.length-k') Yl,?_,?_,?_,rfl⟩)
     .simp;omega
     .rw[Cr,xw (by simp;omega)];exact hYR
     .simp[JS,Cr]
    .have hR':l.take (j+1)++keep b q=P4 l:=by
      have Qc:l[j]?=some b:=f1;rw[←hR,keep,if_neg hcz,xa A7,xq];have:l[j]=b:=by rw[xX A7]at Qc;exact Option.some.inj Qc
      rw[this,xn]
     simp only[hcz,decide_false]at hc;simp[V7,B5,k0,k1,k5,hlti,hw1,hw2,hb1,g1,g2,hk,hc,hg.1];exact O9 hJ ⟨rfl,j+1,b,q,by omega,by omega,by simp[B5],by rw[←e2];congr 1;omega,hR'⟩
  .have hlti:¬(j:Int)<l.length:=by omega
   cases q with
   |cons b q=>simp at e3;omega
   |nil =>
    simp[V7,B5,k0,k5,hlti];exact hΦ _ _ _ (.inl ⟨rfl,by rw[←hR,keep,xm,List.take_of_length_le (by omega)],rfl⟩)
 .rintro e Cq h2 ⟨K,⟨rfl,Cr,rfl⟩|⟨rfl,Z,hZ,hZ2,k4,rfl⟩⟩
  .have JS:Cq.length=66:=K.1.trans (by simp[hl]);have m0:=A5 K 0 (by simp[h0]:_=AV.sl k l.length 0 l.length);clear K;simp[JS,m0];exact⟨l,rfl,by rw[Cr,xl],by rw[Cr],hsame⟩
  .simp[k4];exact⟨Z,hZ,hZ2,rfl⟩
theorem lT {a b c:Tm} (h:G9 a b<=0) (k:G9 b c<0):G9 a c<0:=by
 have h1:=(br a b c).1 h (by omega);rcases xj h1.1 with q|q
 .exact q
 .have:=h1.2 q;omega
theorem gU {a b c:Tm} (h:G9 a b<0) (k:G9 b c<=0):G9 a c<0:=by
 have h1:=(br a b c).1 (by omega) k;rcases xj h1.1 with q|q
 .exact q
 .have:=h1.2 q;omega
theorem Wq {a b:Tm} (h:D2 a=D2 b):G9 a b<=0:=by rw[AC.2 h];omega
def O1 (R l:List Tm):Prop:=R.Pairwise (λa b=>G9 a b<0)/\∀e,e∈R.map D2↔e∈l.map D2
theorem UI:∀(q:I1) (p:Tm),(p::q).Pairwise (λa b=>G9 a b<=0)->(∀x∈keep p q,G9 p x<0/\x∈q)/\(keep p q).Pairwise (λa b=>G9 a b<0)/\(keep p q).length<=q.length/\∀x∈q,D2 x=D2 p\/D2 x∈(keep p q).map D2
 | [],p,_=>by simp[keep]
 |b::q,p,h=>by
  obtain⟨h1,h2⟩:=xc.1 h;obtain⟨i1,i2,i3,i4⟩:=UI q b h2;unfold keep;by_cases hc:G9 b p=0
  .rw[if_pos hc];have e:=AC.1 hc;refine⟨λx hx=>⟨lT (Wq e.symm) (i1 x hx).1,xY _ (i1 x hx).2⟩,i2,by simp only[xg];omega,λx hx=>?_⟩;rcases xb.1 hx with rfl|hx
   .exact .inl e
   .rcases i4 x hx with h|h
    .exact .inl (h.trans e)
    .exact .inr h
  .rw[if_neg hc];have hpb:G9 p b<0:=by
    have h3:=h1 b (oD);rcases xj h3 with q|q
    .exact q
    .exact absurd (Jy.2.1 q) hc
   refine⟨λx hx=>?_,xc.2 ⟨λx hx=>(i1 x hx).1,i2⟩,by simp only[xg];omega,λx hx=>?_⟩
   .rcases xb.1 hx with rfl|hx
    .exact⟨hpb,oD⟩
    .exact⟨El hpb (i1 x hx).1,xY _ (i1 x hx).2⟩
   .refine .inr ?_;rw[xZ];rcases xb.1 hx with rfl|hx
    .exact oD
    .rcases i4 x hx with h|h
     .rw[h];exact oD
     .exact xY _ h
theorem KW (l:I1) (h:l.Pairwise (λa b=>G9 a b<=0)):O1 (P4 l) l/\(∀x∈P4 l,x∈l)/\(P4 l).length<=l.length:=by
 cases l with
 |nil=>exact⟨⟨List.Pairwise.nil,λ_=>Iff.rfl⟩,λ_ h=>h,xd _⟩
 |cons a q =>
  obtain⟨i1,i2,i3,i4⟩:=UI q a h;have hs:∀x∈P4 (a::q),x∈a::q:=λx hx=>by
   rcases xb.1 hx with rfl|hx
   .exact oD
   .exact xY _ (i1 x hx).2
  refine⟨⟨xc.2 ⟨λx hx=>(i1 x hx).1,i2⟩,λe=>⟨λhe=>?_,λhe=>?_⟩⟩,hs,by simp only[P4,xg];omega⟩
  .obtain⟨x,hx,rfl⟩:=xf.1 he;exact xp (hs x hx)
  .obtain⟨x,hx,rfl⟩:=xf.1 he;rw[P4,xZ];rcases xb.1 hx with rfl|hx
   .exact oD
   .rcases i4 x hx with h|h
    .rw[h];exact oD
    .exact xY _ h
theorem YL:∀{R R':I1},R.Pairwise (λa b=>G9 a b<0)->R'.Pairwise (λa b=>G9 a b<0)->(∀e,e∈R.map D2↔e∈R'.map D2)->R.map D2=R'.map D2
 | [],[],_,_,_=>rfl
 | [],b::r',_,_,h=>absurd ((h (D2 b)).2 oD) xt
 |a::r,[],_,_,h=>absurd ((h (D2 a)).1 oD) xt
 |a::r,b::r',hp,hp',h=>by
  obtain⟨p1,p2⟩:=xc.1 hp;obtain⟨q1,q2⟩:=xc.1 hp';have key:∀{a b:Tm} {r r':List Tm},(∀x∈r',G9 b x<0)->D2 a∈(b::r').map D2->G9 b a<=0:=by
   intro a b r r' hq hm;rw[xZ]at hm;rcases xb.1 hm with e|hm
   .exact Wq e.symm
   .obtain⟨y,hy,e⟩:=xf.1 hm;have:=gU (hq y hy) (Wq e);omega
  have k1:G9 b a<=0:=key (r:=r) q1 ((h _).1 oD);have k2:G9 a b<=0:=key (r:=r') p1 ((h _).2 oD);have k3:D2 a=D2 b:=by
   apply AC.1;have:=(br a b a).1 k2 k1;rw[Jx]at this;exact(this.2 rfl).1
  have tl:∀{a b:Tm} {r r':List Tm},D2 a=D2 b->(∀x∈r,G9 a x<0)->(∀e,e∈(a::r).map D2->e∈(b::r').map D2)->∀e,e∈r.map D2->e∈r'.map D2:=by
   intro a b r r' e0 hq hm e he;obtain⟨x,hx,rfl⟩:=xf.1 he;have:=hm _ (xp (xY a hx));rw[xZ]at this;rcases xb.1 this with h1|h1
   .have h2:=AC.2 (h1.trans e0.symm);have h3:=hq x hx;have h4:=Jy.2.1 h2;omega
   .exact h1
  rw[xZ,xZ,k3,YL p2 q2 λe=>⟨tl k3 p1 (λe=>(h e).1) e,tl k3.symm q1 (λe=>(h e).2) e⟩]
theorem WR {R R' l l':I1} (h:O1 R l) (h':O1 R' l') (e:∀e,e∈l.map D2↔e∈l'.map D2):H3 R=H3 R':=by
 rw[E4,E4];exact YL h.1 h'.1 λx=>(h.2 x).trans ((e x).trans (h'.2 x).symm)
theorem Py {R R' l:I1} (h:O1 R l) (e:H3 R'=H3 R):O1 R' l:=by
 rw[E4,E4]at e;refine⟨?_,λx=>by rw[e];exact h.2 x⟩;have hl:R'.length=R.length:=by simpa using congrArg yB e
 rw[xk];intro i j hi hj hij;have h1:=(xk.1 h.1) i j (by omega) (by omega) hij;have g:∀i (hi:i<R'.length),D2 R'[i]=D2 (R[i]'(by omega)):=by
  intro i hi;have:=congrArg (·[i]?) e;simp only[xr,xX hi,xX (show i<R.length by omega),Option.map_some]at this;exact Option.some.inj this
 exact gU (lT (Wq (g i hi)) h1) (Wq (g j hj).symm)
@[simp] theorem rp (h:AH) (v:AV):UJ true h (some (v,h))=some (v,h):=fy h v h.fams
theorem gQ (R Z:I1) (N k:Nat) (hZ:Z.length=N) (hZR:Z.take R.length=R) (C2:N<=1099511627776) (hRl:R.length<=N) (K3:∀t∈R,t.size<=1099511627776) (fr:Fr) (h:AH) (hfam:h.fams[k]?=some ⟨A4 Z,4,true⟩) (hl:fr.length=23) (h0:A0 fr 0=.sl k N 0 R.length) (h9:A0 fr 9=.int .i64 R.length) (h10:A0 fr 10=.int .i64 0) :
  C8 (lp (A1 (Q8 Q) (G8 W9) V4) (fr,h)) λe D3 h'=>Kp V4.wr fr D3/\e=.exit 0/\∃(done:List Tm) (X:List AV),X=(done++Z.drop R.length).map B8/\h'=⟨h.boxes,h.fams.set k ⟨X,4,true⟩⟩/\H3 done=H3 R/\done.length=R.length:=by
 refine C3 rfl fr (λn fr h'=>∃(i:Nat),i+n=R.length/\A0 fr 10=.int .i64 (i:Nat)/\(∃(done:List Tm) (X:List AV),X=(done++Z.drop i).map B8/\h'=⟨h.boxes,h.fams.set k ⟨X,4,true⟩⟩/\H3 done=H3 (R.take i)/\done.length=i)) ?_ R.length h ⟨0,by omega,h10,⟨[],A4 Z,by simp[D7],by rw[Ch hfam],by simp[H3],rfl⟩⟩;rintro J Φ hJ hΦ n H0 H1 K ⟨i,hi,k10,hr⟩;have B5:=K.1.trans hl;have k0:=A5 K 0 h0;have k9:=A5 K 9 h9;clear K;by_cases A7:i<R.length
 .have V9:=E6 i (by omega);obtain⟨done,X,hX,rfl,hd,EF⟩:=hr;have hltZ:i<Z.length:=by omega
  obtain⟨t',hI,ht⟩:=SK _ R[i] (xd _) (K3 _ (List.getElem_mem A7));obtain⟨q1,q2,q3⟩:=NB B8 done Z hltZ EF;have q4:=NC B8 done Z hltZ EF t';have hzr:Z[i]=R[i]:=by
   have:=congrArg (·[i]?) hZR;simp only[List.getElem?_take_of_lt A7,xX hltZ,xX A7]at this;exact Option.some.inj this
  rw[hzr]at q2;rw[hZ]at q3;have e2:H3 (done++[t'])=H3 (R.take (i+1)):=by
   rw[xa A7,E4,xh,←E4,hd,E4,E4,xh,xZ,xz,xZ,xz,ht]
  have CF:=J1 hfam;rw[←hX]at q1 q3 q4;have hq2:X[i]?=some (B8 R[i]):=by subst hX;rw[xX q1,q2]
  clear hd ht hzr q2 hX;generalize hY:(done++[t']++Z.drop (i+1)).map B8=Y at *
  generalize R[i]=s at *
  simp[V4,B5,k0,k9,k10,A7,V9,hI,hq2,q3,q4,CF];exact O9 hJ ⟨i+1,by omega,by simp[B5],_,Y,hY.symm,rfl,e2,by simp[EF]⟩
 .obtain⟨done,X,hX,rfl,hd,EF⟩:=hr;have e:i=R.length:=by omega
  subst e;rw[xl]at hd;simp[V4,B5,k9,k10];exact hΦ _ _ _ ⟨rfl,done,X,hX,rfl,hd,EF⟩
theorem dH (fr:Fr) (h:AH) (hl:fr.length=23) (h9:A0 fr 9=.int .i64 0) (h10:A0 fr 10=.int .i64 0) :
  C8 (lp (A1 (Q8 Q) (G8 W9) V4) (fr,h)) λe D3 h'=>Kp V4.wr fr D3/\e=.exit 0/\h'=h:=by
 refine C3 rfl fr (λn D3 h'=>D3=fr/\h'=h) ?_ 0 h ⟨rfl,rfl⟩;rintro J Φ hJ hΦ n H0 H1 K ⟨rfl,rfl⟩;simp[V4,hl,h9,h10];exact hΦ _ _ _ ⟨rfl,rfl⟩
theorem Xn (a b:Tm) (h:a.size<=1099511627776) (h':b.size<=1099511627776):pc Q y7 [B8 a,B8 b]=some (.bool (decide (G9 a b=0))):=by
 have hC:=Z3 _ a b (xd _) h h';refine R9 Gh λfr hl h0 h1=>?_;simp[Gh]at hl h0 h1;simp[Gh,hl,h0,h1,hC]
theorem dq (a b:Tm) (h:a.size<=1099511627776) (h':b.size<=1099511627776):pc Q X5 [B8 a,B8 b]=some (.bool (decide (G9 a b=0))):=by
 have hC:=Z3 _ a b (xd _) h h';refine R9 EM λfr hl h0 h1=>?_;simp[EM]at hl h0 h1;simp[EM,hl,h0,h1,hC]
theorem YH (h:AH) (b:Bool):rc Q C9 [sl (true,b) 4 [],.fn A8 []] h=some (A9,h):=by
 refine JL (s:=Uh 4) rfl rfl ?_;rfl
theorem QU (g:FuncId) (h:AH) (b:Bool):rc Q B9 [sl (true,b) 4 [],.fn g []] h=some (sl (true,b) 4 [],h):=by
 suffices hq:∃v h',rc Q B9 [sl (true,b) 4 [],.fn g []] h=some (v,h')/\(v=sl (true,b) 4 []/\h'=h) by
  obtain⟨v,h',h1,rfl,rfl⟩:=hq;exact h1
 refine FM G7 λfr hl h0 h1=>?_;simp[G7]at hl h0 h1;simp[G7,hl,h0]
def qH (sz:Nat) (xs:List AV) (v:AV) (h:AH):Prop:=v.isTup=false/\v.cells=[v]/\∃m,Bj h v=some (sl m sz xs)
theorem ST (k:Nat) (l:I1) (v:AV) (h:AH) (hg:bg k 4 (A4 l) v h) (K3:∀t∈l,t.size<=1099511627776) (C2:l.length<=1099511627776) :
  ∃(v':AV) (h':AH) (R:List Tm),rc Q W9 [v] h=some (v',h')/\h'.boxes=h.boxes/\O1 R l/\R.length<=l.length/\qH 4 (A4 R) v' h':=by
 suffices hq:∃v' h',rc Q W9 [v] h=some (v',h')/\∃(R:List Tm),h'.boxes=h.boxes/\O1 R l/\R.length<=l.length/\qH 4 (A4 R) v' h' by
  obtain⟨v',h',h1,R,h2⟩:=hq;exact⟨v',h',R,h1,h2⟩
 rcases hg with ⟨hl0,b,rfl⟩|⟨M8,rfl,hk⟩
 .have:l=[]:=by rw[D7]at hl0;exact xo.1 hl0
  subst this;have hS:=YH h b;have hC:=QU y7 h b;refine YC By λfr hl h0=>?_;simp[By]at hl h0;simp[By,hl,h0,hS,hC];refine C8.mono (dH _ _ ?_ ?_ ?_) ?_<;>first|(simp[hl];done)|skip
  rintro e H0 h1 ⟨K,rfl,rfl⟩;have M7:H0.length=23:=K.1.trans (by simp[hl]);have MB:A0 H0 0=sl (true,b) 4 []:=A5 K 0 (by simp[hl]);clear K;simp[M7,MB];exact⟨[],⟨List.Pairwise.nil,λ_=>Iff.rfl⟩,rfl,rfl,rfl,_,rfl⟩
 .have hne':l≠[]:=by rintro rfl;exact M8 rfl
  have CF:=J1 hk;obtain⟨l',hp,hsort,hS⟩:=Ox k h l hk hne' K3 C2;have hl':l'.length=l.length:=hp.length_eq;have hcm:Px y7 l':=⟨rfl,λa ha b hb=>Xn a b (K3 a (hp.mem_iff.1 ha)) (K3 b (hp.mem_iff.1 hb))⟩;obtain⟨Z,hZ,hZR,hC⟩:=IS y7 l' hcm k ⟨h.boxes,h.fams.set k ⟨A4 l',4,true⟩⟩ (by simp[CF]) (by omega);obtain⟨s1,s2,s3⟩:=KW l' hsort;rw[hl']at hC hZ;generalize P4 l'=R at *
  simp only[yA]at hC;refine YC By λfr hl h0=>?_;simp[By]at hl h0;simp[By,hl,h0,hS,hC];refine C8.mono (gQ R Z l.length k hZ hZR C2 (by omega) (λt ht=>K3 t (hp.mem_iff.1 (s2 t ht))) _ _ ?_ ?_ ?_ ?_ ?_) ?_<;>first|(simp[hl,CF];done)|skip
  rintro e H0 h1 ⟨K,rfl,done,X,hX,rfl,hd,EF⟩;have M7:H0.length=23:=K.1.trans (by simp[hl]);have MB:A0 H0 0=.sl k l.length 0 R.length:=A5 K 0 (by simp[hl]);clear K;simp[M7,MB];refine⟨done,Py ⟨s1.1,λe=>(s1.2 e).trans ?_⟩ hd,by omega,rfl,rfl,(false,true),?_⟩
  .simp only[xf,hp.mem_iff]
  .have e1:X.length=l.length:=by rw[hX];simp;omega
   have e2:X.take R.length=A4 done:=by rw[hX,xh,←EF,xw (by simp),D7]
   have e3:R.length<=l.length:=by omega
   rw[HD,Do];simp[CF,e1,e2,e3]
theorem Xq (m:J0) (l:I1) (K3:∀t∈l,t.size<=1099511627776) (C2:l.length<=1048576) :
  ∃(R:List Tm) (m':Bool×Bool),pc Q BD [sl m 4 (A4 l)]=some (sl m' 4 (A4 R))/\O1 R l/\(∀x∈R,x∈l)/\R.length<=l.length:=by
 have hlv:(A4 l).length=l.length:=by rw[D7,xu]
 obtain⟨w,⟨B,F⟩,hC,hg,hb,hf⟩:=Kv m (A4 l) (by omega) AH.empty;simp only[AH.empty,List.length_nil]at hC hg hb;subst hb
 suffices h:∃v,pc Q BD [sl m 4 (A4 l)]=some v/\∃q:List Tm×(Bool×Bool),v=sl q.2 4 (A4 q.1)/\O1 q.1 l/\(∀x∈q.1,x∈l)/\q.1.length<=l.length by
  obtain⟨v,h1,q,rfl,h2⟩:=h;exact⟨q.1,q.2,h1,h2⟩
 rcases hg with ⟨hl0,b,rfl⟩|⟨M8,rfl,hk⟩
 .have:l=[]:=by rw[D7]at hl0;exact xo.1 hl0
  subst this;have hS:=YH ⟨[],F⟩ b;have hK:=QU X5 ⟨[],F⟩ b;refine Ja o6 λΨ hΨ fr hl h0=>?_;simp[o6]at hl h0;simp[o6,hl,h0,hC,hS,hK];exact hΨ _ ⟨([],(true,b)),rfl,⟨List.Pairwise.nil,λ_=>Iff.rfl⟩,λ_ h=>h,xd _⟩
 .have hne':l≠[]:=by rintro rfl;exact M8 rfl
  have CF:=J1 hk;obtain⟨l',hp,hsort,hS⟩:=Ox 0 ⟨[],F⟩ l hk hne' K3 (by omega);have hl':l'.length=l.length:=hp.length_eq;have hcm:Px X5 l':=⟨rfl,λa ha b hb=>dq a b (K3 a (hp.mem_iff.1 ha)) (K3 b (hp.mem_iff.1 hb))⟩;obtain⟨Z,hZ,hZR,hK⟩:=IS X5 l' hcm 0 ⟨[],F.set 0 ⟨A4 l',4,true⟩⟩ (by simp only at CF;simp[CF]) (by omega);obtain⟨s1,s2,s3⟩:=KW l' hsort;rw[hl']at hK hZ;generalize P4 l'=R at *
  simp only[yA]at hK hS CF;rw[hlv]at hC;have e1:(A4 Z).length=l.length:=by rw[D7,xu,hZ]
  have e2:(A4 Z).take R.length=A4 R:=by rw[←Um,hZR]
  have e3:R.length<=l.length:=by omega
  refine Ja o6 λΨ hΨ fr hl h0=>?_;simp[o6]at hl h0;simp[o6,hl,h0,hC,hS,hK,CF,e1,e2,e3];exact hΨ _ ⟨(R,(false,true)),rfl,⟨s1.1,λe=>(s1.2 e).trans (by simp only[xf,hp.mem_iff])⟩,λx hx=>hp.mem_iff.1 (s2 x hx),e3⟩
end Go.Abs.Q
