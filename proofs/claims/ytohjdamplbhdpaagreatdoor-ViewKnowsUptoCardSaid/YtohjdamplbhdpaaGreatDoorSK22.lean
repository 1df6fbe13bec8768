/- A part of the proof. -/
import Derived.Test.YtohjdamplbhdpaaGreatDoorSK21
set_option linter.all false
open List renaming getElem?_append_left->A0A,mem_cons_self->A0B,getElem?_eq_getElem->A0C,length_append->A0D,take_succ_eq_append_getElem->A0F,mem_cons_of_mem->A0G,map_cons->A0H,mem_cons->A0I,pairwise_cons->A0J,append_assoc->A0K,mem_map->A0L,length_cons->A0M,mem_of_getElem?->A0N,take_of_length_le->A0P,length_filter_le->A0Q,append_nil->A0R,getElem?_set_ne->A0S,length_map->A0T,map_append->A0U,flatMap_append->A0V,replicate->A0W,pairwise_iff_getElem->A0Y,getElem_mem->A0Z,take_length->A0a,length->A0b,singleton_append->A0c,take_append_drop->A0d,map_eq_nil_iff->A0e,mem_map_of_mem->A0f,filter_append->A0g,flatMap_cons->A0h,getElem?_map->A0i,mem_flatMap->A0j,not_mem_nil->A0k,take_left'->A0m,map_take->A0n,map_nil->A0o,set_set->A0p
open Nat renaming le_refl->A0E
open Option renaming bind_some->A0O
open Int renaming lt_or_eq_of_le->A0X
open Bool renaming eq_iff_iff->A0l
namespace Go.Abs.Q
open Go.Proofs
attribute [local simp] D9 E4 fin I8 G6 P7 M4
def keep (p:Tm):List Tm->List Tm
 | []=>[]
 |b::l=>if H7 b p=0 then keep b l else b::keep b l
def R0:List Tm->List Tm
 | []=>[]
 |a::l=>a::keep a l
def Sm (g:FuncId) (l:List Tm):Prop:=C4 g=false/\∀a∈l,∀b∈l,pc Q g [B7 a,B7 b]=some (.bool (decide (H7 a b=0)))
theorem VZ {l:I6} {i:Nat} {t:Tm} (h:l[i]?=some t):(A4 l)[i]?=some (B7 t):=by
 rw[D6,A0i,h];rfl
theorem mi (l:I6) (i:Nat) (t:Tm):(A4 l).set i (B7 t)=A4 (l.set i t):=by
 rw[D6,D6,List.map_set]
theorem UL {α:Type} {l:List α} {i:Nat} {p:α} {q:List α} (h:l.drop i=p::q):l[i]?=some p/\l.drop (i+1)=q/\i+1+q.length=l.length:=by
 have h1:(l.drop i)[0]?=some p:=by rw[h];rfl
 rw[List.getElem?_drop,Nat.add_zero]at h1;have h2:(l.drop i).drop 1=q:=by rw[h];rfl
 rw[List.drop_drop]at h2;have h3:=congrArg A0b h;rw[List.length_drop,A0M]at h3;obtain⟨h4,-⟩:=List.getElem?_eq_some_iff.1 h1;exact⟨h1,h2,by omega⟩
theorem md {α:Type} {l:List α} {i:Nat} (x:α) (h:i<l.length):(l.set i x).take (i+1)=l.take i++[x]:=by
 rw[A0F (by simpa using h),List.take_set_of_le (A0E i)];simp
theorem lB (g:FuncId) (l R:I6) (hg:Sm g l) (k N k0:Nat) (hN:l.length=N) (hN2:N<=1099511627776) (h1k:1<=k0) (p0:Tm) (q0:I6) (hd0:l.drop k0=p0::q0) (hR:l.take k0++keep p0 q0=R)
  (fr:Fr) (h:AH) (hfam:h.fams[k]?=some ⟨A4 l,4,true⟩) (hl:fr.length=66) (h0:A0 fr 0=.sl k N 0 N) (h1:A0 fr 1=.fn g []) (h6:A0 fr 6=.sl k N k0 (N-k0))
  (h5:A0 fr 5=.int .i64 (k0:Nat)) (h7:A0 fr 7=.int .i64 1) :
  B9 (lp (A3 (L5 Q) (E5 D0) M7) (fr,h)) λe C6 h'=>Kp M7.wr fr C6/\e=.exit 2 /\
   ∃(Y:List Tm) (k':Nat),A0 C6 5=.int .i64 (k':Nat)/\h'=⟨h.boxes,h.fams.set k ⟨A4 Y,4,true⟩⟩/\Y.length=N/\k' < N/\1<=k'/\Y.take k'=R:=by
 have HH:=I2 hfam;obtain⟨d1,d2,d3⟩:=UL hd0;refine B5 rfl fr (λn fr h'=>∃(j kk:Nat) (Y:List Tm) (p:Tm) (q:List Tm),j+n=N-k0/\1<=j/\1<=kk/\kk<k0+j/\A0 fr 5=.int .i64 (kk:Nat)/\A0 fr 7=.int .i64 (j:Nat) /\
  h'=⟨h.boxes,h.fams.set k ⟨A4 Y,4,true⟩⟩/\Y.length=N/\(∀x∈Y,x∈l)/\Y.drop (k0+j-1)=p::q/\Y.take kk++keep p q=R) ?_ (N-k0-1) h
  ⟨1,k0,l,p0,q0,by omega,A0E _,h1k,by omega,h5,h7,by rw[DC hfam],hN,λ_ h=>h,by simpa using hd0,hR⟩
 rintro J Φ hJ hΦ n E1 H1 K ⟨j,kk,Y,p,q,hjn,hj,Rx,hkj,k5,k7,rfl,hY,hYl,hYd,hYR⟩;have A6:=K.1.trans hl;have k0':=A9 K 0 h0;have k1':=A9 K 1 h1;have k6':=A9 K 6 h6;clear K;obtain⟨e1,e2,e3⟩:=UL hYd;by_cases A7:j<N-k0
 .have hlti:(j:Int)<((N-k0:Nat):Int):=by omega
  cases q with
  |nil=>simp at e3;omega
  |cons b q =>
   obtain⟨f1,f2,f3⟩:=UL e2;have hbY:b∈Y:=A0N f1;have hpY:p∈Y:=A0N e1;have hc:=hg.2 b (hYl _ hbY) p (hYl _ hpY);have hw1:=D1 j (by omega);have hw2:IntKind.i64.wrap ((j:Int)-1)=((j-1:Nat):Int):=by rw[U4 (by omega) (by omega)];omega
   have hw3:=D1 kk (by omega);have hb1:((j-1:Nat):Int)<((N-k0:Nat):Int):=by omega
   have hb2:(kk:Int)<N:=by omega
   have g1:=VZ e1;have g2:=VZ f1;rw[show k0+j-1+1=k0+j from by omega]at g2;rw[show k0+j-1=k0+(j-1) from by omega]at g1;have gl:(A4 Y).length=N:=by simpa using hY
   by_cases hcz:H7 b p=0
   .have hYR':Y.take kk++keep b q=R:=by rw[←hYR,keep,if_pos hcz]
    simp only[hcz,decide_true]at hc;simp[M7,A6,k1',k6',k7,hlti,hw1,hw2,hb1,g1,g2,gl,HH,hc,hg.1];exact G8 hJ ⟨j+1,kk,Y,b,q,by omega,by omega,Rx,by omega,by simp[k5],by simp[A6],rfl,hY,hYl,by rw[show k0+(j+1)-1=k0+j-1+1 from by omega];exact e2,hYR'⟩
   .have hkY:kk<Y.length:=by omega
    have hYR':(Y.set kk b).take (kk+1)++keep b q=R:=by rw[←hYR,keep,if_neg hcz,md _ hkY,A0K,A0c]
    have g3:=mi Y kk b;obtain⟨c,hc1⟩:∃c,Y[kk]?=some c:=⟨_,A0C hkY⟩;have g4:=VZ hc1;simp only[hcz,decide_false]at hc;simp[M7,A6,k0',k1',k6',k5,k7,hlti,hw1,hw2,hw3,hb1,hb2,g1,g2,g3,g4,gl,HH,hc,hg.1];exact⟨n-1,by omega,hJ _ _ _ ⟨j+1,kk+1,Y.set kk b,b,q,by omega,by omega,by omega,by omega,by simp[A6],by simp[A6],rfl,by simpa using hY,λx hx=>by
     rcases List.mem_or_eq_of_mem_set hx with h|rfl
     .exact hYl _ h
     .exact hYl _ hbY,by rw[show k0+(j+1)-1=k0+j-1+1 from by omega,List.drop_set_of_lt (by omega)];exact e2,hYR'⟩⟩
 .have hlti:¬(j:Int)<((N-k0:Nat):Int):=by omega
  cases q with
  |cons b q=>simp at e3;omega
  |nil =>
   simp[M7,A6,k6',k7,hlti];exact hΦ _ _ _ ⟨rfl,Y,kk,by simp[k5],rfl,hY,by omega,Rx,by rw[←hYR,keep,A0R]⟩
def jd:Tm:=.mk 0 (bs []) 0 (true,false) []
theorem mw:AV.agg [.int .i64 0,.str (bs []),.int .i64 0,.vs true 0 []]=B7 jd:=rfl
theorem XK (l:I6) (i:Nat):A4 (l.take i)=(A4 l).take i:=by rw[D6,D6,A0n]
@[simp] theorem xC (h:AH) (z:AV) (k n off len:Nat):SM h z (.sl k n off len)=(h.fams[k]?).bind λf=>if f.xs.length=n/\off+len<=n/\f.wr=true/\z.cells.length=f.sz then some (C3,{h with fams:=h.fams.set k {f with xs:=f.xs.take off++A0W len z++f.xs.drop (off+len)}})else none:=by
 simp only[SM];cases h.fams[k]?<;>rfl
@[simp] theorem th (h:AH) (sz k n off len:Nat) (lo hi:Option Int):Vz h sz (.sl k n off len) (some lo) (some hi) (some none)=(h.fams[k]?).bind λf =>
  if (0<sz/\f.sz=sz/\f.xs.length=n)/\0<=lo.getD 0/\lo.getD 0<=hi.getD len/\hi.getD len<=len then some (.sl k n (off+(lo.getD 0).toNat) (hi.getD len-lo.getD 0).toNat,h)else none:=by
 simp only[Vz,Mf];cases h.fams[k]? with
 |none=>rfl
 |some f =>
  simp only[A0O];by_cases h1:0<sz/\f.sz=sz/\f.xs.length=n
  .by_cases h2:0<=lo.getD 0/\lo.getD 0<=hi.getD len/\hi.getD len<=len
   .rw[if_pos h1,if_pos h2,if_pos ⟨h1,h2⟩]
   .rw[if_pos h1,if_neg h2,if_neg λk=>h2 k.2]
  .rw[if_neg h1,if_neg λk=>h1 k.1]
theorem nR (Y:I6) {N k':Nat} (hY:Y.length=N) (hk:k'<=N):(A4 Y).take k'++(A0W (N-k') (AV.agg [.int .i64 0,.str (bs []),.int .i64 0,.vs true 0 []])++(A4 Y).drop N)=A4 (Y.take k'++A0W (N-k') jd):=by
 rw[mw,List.drop_of_length_le (by simp;omega),A0R,D6,D6,A0U,A0n,List.map_replicate]
theorem LN (g:FuncId) (l:I6) (hg:Sm g l) (k:Nat) (h:AH) (hk:h.fams[k]?=some ⟨A4 l,4,true⟩) (B8:l.length<=1099511627776) :
  ∃Z:List Tm,Z.length=l.length/\Z.take (R0 l).length=R0 l/\rc Q D0 [.sl k l.length 0 l.length,.fn g []] h=some (.sl k l.length 0 (R0 l).length,⟨h.boxes,h.fams.set k ⟨A4 Z,4,true⟩⟩):=by
 have HH:=I2 hk
 suffices hq:∃v h',rc Q D0 [.sl k l.length 0 l.length,.fn g []] h=some (v,h') /\
   ∃Z:List Tm,Z.length=l.length/\Z.take (R0 l).length=R0 l/\v=.sl k l.length 0 (R0 l).length/\h'=⟨h.boxes,h.fams.set k ⟨A4 Z,4,true⟩⟩ by
  obtain⟨v,h',h1,Z,h2,h3,rfl,rfl⟩:=hq;exact⟨Z,h2,h3,h1⟩
 have hsame:h=⟨h.boxes,h.fams.set k ⟨A4 l,4,true⟩⟩:=by rw[DC hk]
 have hl0:(A4 l).length=l.length:=by simp
 refine Gh H5 λfr hl h0 h1=>?_;simp[H5]at hl h0 h1;by_cases hs:l.length<2
 .have hs':(l.length:Int)<2:=by omega
  have GF:R0 l=l:=by
   match l,hs with
   | [],_=>rfl
   | [a],_=>rfl
   |_::_::_,h=>exact absurd h (by simp)
  simp[H5,hl,h0,hs'];exact⟨l,rfl,by rw[GF,A0a],by rw[GF],hsame⟩
 have hs':¬(l.length:Int)<2:=by omega
 simp[H5,hl,h0,hs'];obtain⟨a,q1,hd1⟩:∃a q1,l=a::q1:=by
  cases l with
  |nil=>simp at hs
  |cons a q=>exact⟨a,q,rfl⟩
 refine(B5 (Ψ:=λe C6 h'=>e=.exit 0/\R0 l=l/\h'=h\/e=.ret/\∃Z:List Tm,Z.length=l.length/\Z.take (R0 l).length=R0 l/\A0 C6 4=.sl k l.length 0 (R0 l).length/\h'=⟨h.boxes,h.fams.set k ⟨A4 Z,4,true⟩⟩) rfl _ (λn C6 h'=>h'=h/\∃(j:Nat) (p:Tm) (q:List Tm),j+n=l.length/\1<=j/\A0 C6 5=.int .i64 (j:Nat)/\l.drop (j-1)=p::q/\l.take j++keep p q=R0 l) ?_ (l.length-1) h ⟨rfl,1,a,q1,by omega,A0E _,by simp[hl],by simpa using hd1,by rw[hd1];rfl⟩).mono ?_
 .rintro J Φ hJ hΦ n E1 H1 K ⟨rfl,j,p,q,hjn,hj,k5,hYd,hR⟩;have A6:E1.length=66:=K.1.trans (by simp[hl]);have k0:=A9 K 0 (by simp[h0]:_=AV.sl k l.length 0 l.length);have k1:=A9 K 1 (by simp[h1]:_=AV.fn g []);clear K h0 h1;obtain⟨e1,e2,e3⟩:=UL hYd;by_cases A7:j<l.length
  .have hlti:(j:Int)<l.length:=by omega
   cases q with
   |nil=>simp at e3;omega
   |cons b q =>
    obtain⟨f1,f2,f3⟩:=UL e2;have hc:=hg.2 b (A0N f1) p (A0N e1);have hw1:=D1 j (by omega);have hw2:IntKind.i64.wrap ((j:Int)-1)=((j-1:Nat):Int):=by rw[U4 (by omega) (by omega)];omega
    have hb1:((j-1:Nat):Int)<(l.length:Int):=by omega
    have g1:=VZ e1;have g2:=VZ f1;rw[show j-1+1=j from by omega]at g2 f1;by_cases hcz:H7 b p=0
    .have hR':l.take j++keep b q=R0 l:=by rw[←hR,keep,if_pos hcz]
     have hd':l.drop j=b::q:=by rw[←e2,show j-1+1=j from by omega]
     have NF:j<=l.length:=by omega
     simp only[hcz,decide_true]at hc;simp[X5,A6,k0,k1,k5,hlti,hw2,hb1,g1,g2,hk,hc,hg.1,NF];refine B9.mono (lB g l (R0 l) hg k l.length j rfl B8 hj b q hd' hR' _ _ hk ?_ ?_ ?_ ?_ ?_ ?_) ?_<;>first|(simp[A6,k0,k1,k5];done)|skip
     rintro e V8 h2 ⟨K,rfl,Y,k',m5,rfl,hYl,Dd,hk1,hYR⟩;have GI:V8.length=66:=K.1.trans (by simp[A6]);have m0:=A9 K 0 (by simp[k0]:_=AV.sl k l.length 0 l.length);clear K;have GF:(R0 l).length=k':=by rw[←hYR,List.length_take];omega
     have hle':k'<=l.length:=by omega
     have hcr:=nR Y hYl hle';have hYl':(A4 Y).length=l.length:=by simpa using hYl
     have hmin:min k' Y.length+(l.length-k')=l.length:=by omega
     simp[GI,m0,m5,HH,hle',hYl',hcr,hmin];refine hΦ _ _ _ (.inr ⟨rfl,Y.take k'++A0W (l.length-k') jd,?_,?_,?_,rfl⟩)
     .simp;omega
     .rw[GF,A0m (by simp;omega)];exact hYR
     .simp[GI,GF]
    .have hR':l.take (j+1)++keep b q=R0 l:=by
      have i7:l[j]?=some b:=f1;rw[←hR,keep,if_neg hcz,A0F A7,A0K];have:l[j]=b:=by rw[A0C A7]at i7;exact Option.some.inj i7
      rw[this,A0c]
     simp only[hcz,decide_false]at hc;simp[X5,A6,k0,k1,k5,hlti,hw1,hw2,hb1,g1,g2,hk,hc,hg.1];exact G8 hJ ⟨rfl,j+1,b,q,by omega,by omega,by simp[A6],by rw[←e2];congr 1;omega,hR'⟩
  .have hlti:¬(j:Int)<l.length:=by omega
   cases q with
   |cons b q=>simp at e3;omega
   |nil =>
    simp[X5,A6,k0,k5,hlti];exact hΦ _ _ _ (.inl ⟨rfl,by rw[←hR,keep,A0R,A0P (by omega)],rfl⟩)
 .rintro e V8 h2 ⟨K,⟨rfl,GF,rfl⟩|⟨rfl,Z,hZ,hZ2,k4,rfl⟩⟩
  .have GI:V8.length=66:=K.1.trans (by simp[hl]);have m0:=A9 K 0 (by simp[h0]:_=AV.sl k l.length 0 l.length);clear K;simp[GI,m0];exact⟨l,rfl,by rw[GF,A0a],by rw[GF],hsame⟩
  .simp[k4];exact⟨Z,hZ,hZ2,rfl⟩
theorem qQ {a b c:Tm} (h:H7 a b<=0) (k:H7 b c<0):H7 a c<0:=by
 have h1:=(gI a b c).1 h (by omega);rcases A0X h1.1 with q|q
 .exact q
 .have:=h1.2 q;omega
theorem lP {a b c:Tm} (h:H7 a b<0) (k:H7 b c<=0):H7 a c<0:=by
 have h1:=(gI a b c).1 (by omega) k;rcases A0X h1.1 with q|q
 .exact q
 .have:=h1.2 q;omega
theorem Zb {a b:Tm} (h:E8 a=E8 b):H7 a b<=0:=by rw[Bz.2 h];omega
def P8 (R l:List Tm):Prop:=R.Pairwise (λa b=>H7 a b<0)/\∀e,e∈R.map E8↔e∈l.map E8
theorem Wc:∀(q:I6) (p:Tm),(p::q).Pairwise (λa b=>H7 a b<=0)->(∀x∈keep p q,H7 p x<0/\x∈q)/\(keep p q).Pairwise (λa b=>H7 a b<0)/\(keep p q).length<=q.length/\∀x∈q,E8 x=E8 p\/E8 x∈(keep p q).map E8
 | [],p,_=>by simp[keep]
 |b::q,p,h=>by
  obtain⟨h1,h2⟩:=A0J.1 h;obtain⟨i1,i2,i3,i4⟩:=Wc q b h2;unfold keep;by_cases hc:H7 b p=0
  .rw[if_pos hc];have e:=Bz.1 hc;refine⟨λx hx=>⟨qQ (Zb e.symm) (i1 x hx).1,A0G _ (i1 x hx).2⟩,i2,by simp only[A0M];omega,λx hx=>?_⟩;rcases A0I.1 hx with rfl|hx
   .exact .inl e
   .rcases i4 x hx with h|h
    .exact .inl (h.trans e)
    .exact .inr h
  .rw[if_neg hc];have hpb:H7 p b<0:=by
    have h3:=h1 b (A0B);rcases A0X h3 with q|q
    .exact q
    .exact absurd (NB.2.1 q) hc
   refine⟨λx hx=>?_,A0J.2 ⟨λx hx=>(i1 x hx).1,i2⟩,by simp only[A0M];omega,λx hx=>?_⟩
   .rcases A0I.1 hx with rfl|hx
    .exact⟨hpb,A0B⟩
    .exact⟨HG hpb (i1 x hx).1,A0G _ (i1 x hx).2⟩
   .refine .inr ?_;rw[A0H];rcases A0I.1 hx with rfl|hx
    .exact A0B
    .rcases i4 x hx with h|h
     .rw[h];exact A0B
     .exact A0G _ h
theorem NY (l:I6) (h:l.Pairwise (λa b=>H7 a b<=0)):P8 (R0 l) l/\(∀x∈R0 l,x∈l)/\(R0 l).length<=l.length:=by
 cases l with
 |nil=>exact⟨⟨List.Pairwise.nil,λ_=>Iff.rfl⟩,λ_ h=>h,A0E _⟩
 |cons a q =>
  obtain⟨i1,i2,i3,i4⟩:=Wc q a h;have hs:∀x∈R0 (a::q),x∈a::q:=λx hx=>by
   rcases A0I.1 hx with rfl|hx
   .exact A0B
   .exact A0G _ (i1 x hx).2
  refine⟨⟨A0J.2 ⟨λx hx=>(i1 x hx).1,i2⟩,λe=>⟨λhe=>?_,λhe=>?_⟩⟩,hs,by simp only[R0,A0M];omega⟩
  .obtain⟨x,hx,rfl⟩:=A0L.1 he;exact A0f (hs x hx)
  .obtain⟨x,hx,rfl⟩:=A0L.1 he;rw[R0,A0H];rcases A0I.1 hx with rfl|hx
   .exact A0B
   .rcases i4 x hx with h|h
    .rw[h];exact A0B
    .exact A0G _ h
theorem bU:∀{R R':I6},R.Pairwise (λa b=>H7 a b<0)->R'.Pairwise (λa b=>H7 a b<0)->(∀e,e∈R.map E8↔e∈R'.map E8)->R.map E8=R'.map E8
 | [],[],_,_,_=>rfl
 | [],b::r',_,_,h=>absurd ((h (E8 b)).2 A0B) A0k
 |a::r,[],_,_,h=>absurd ((h (E8 a)).1 A0B) A0k
 |a::r,b::r',hp,hp',h=>by
  obtain⟨p1,p2⟩:=A0J.1 hp;obtain⟨q1,q2⟩:=A0J.1 hp';have key:∀{a b:Tm} {r r':List Tm},(∀x∈r',H7 b x<0)->E8 a∈(b::r').map E8->H7 b a<=0:=by
   intro a b r r' hq hm;rw[A0H]at hm;rcases A0I.1 hm with e|hm
   .exact Zb e.symm
   .obtain⟨y,hy,e⟩:=A0L.1 hm;have:=lP (hq y hy) (Zb e);omega
  have k1:H7 b a<=0:=key (r:=r) q1 ((h _).1 A0B);have k2:H7 a b<=0:=key (r:=r') p1 ((h _).2 A0B);have k3:E8 a=E8 b:=by
   apply Bz.1;have:=(gI a b a).1 k2 k1;rw[NA]at this;exact(this.2 rfl).1
  have tl:∀{a b:Tm} {r r':List Tm},E8 a=E8 b->(∀x∈r,H7 a x<0)->(∀e,e∈(a::r).map E8->e∈(b::r').map E8)->∀e,e∈r.map E8->e∈r'.map E8:=by
   intro a b r r' e0 hq hm e he;obtain⟨x,hx,rfl⟩:=A0L.1 he;have:=hm _ (A0f (A0G a hx));rw[A0H]at this;rcases A0I.1 this with h1|h1
   .have h2:=Bz.2 (h1.trans e0.symm);have h3:=hq x hx;have h4:=NB.2.1 h2;omega
   .exact h1
  rw[A0H,A0H,k3,bU p2 q2 λe=>⟨tl k3 p1 (λe=>(h e).1) e,tl k3.symm q1 (λe=>(h e).2) e⟩]
theorem ZG {R R' l l':I6} (h:P8 R l) (h':P8 R' l') (e:∀e,e∈l.map E8↔e∈l'.map E8):H2 R=H2 R':=by
 rw[E3,E3];exact bU h.1 h'.1 λx=>(h.2 x).trans ((e x).trans (h'.2 x).symm)
theorem Sn {R R' l:I6} (h:P8 R l) (e:H2 R'=H2 R):P8 R' l:=by
 rw[E3,E3]at e;refine⟨?_,λx=>by rw[e];exact h.2 x⟩;have hl:R'.length=R.length:=by simpa using congrArg A0b e
 rw[A0Y];intro i j hi hj hij;have h1:=(A0Y.1 h.1) i j (by omega) (by omega) hij;have g:∀i (hi:i<R'.length),E8 R'[i]=E8 (R[i]'(by omega)):=by
  intro i hi;have:=congrArg (·[i]?) e;simp only[A0i,A0C hi,A0C (show i<R.length by omega),Option.map_some]at this;exact Option.some.inj this
 exact lP (qQ (Zb (g i hi)) h1) (Zb (g j hj).symm)
@[simp] theorem vP (h:AH) (v:AV):Ve true h (some (v,h))=some (v,h):=ku h v h.fams
theorem lL (R Z:I6) (N k:Nat) (hZ:Z.length=N) (hZR:Z.take R.length=R) (B8:N<=1099511627776) (hRl:R.length<=N) (I9:∀t∈R,t.size<=1099511627776) (fr:Fr) (h:AH) (hfam:h.fams[k]?=some ⟨A4 Z,4,true⟩) (hl:fr.length=23) (h0:A0 fr 0=.sl k N 0 R.length) (h9:A0 fr 9=.int .i64 R.length) (h10:A0 fr 10=.int .i64 0) :
  B9 (lp (A3 (L5 Q) (E5 Z0) X2) (fr,h)) λe C6 h'=>Kp X2.wr fr C6/\e=.exit 0/\∃(done:List Tm) (X:List AV),X=(done++Z.drop R.length).map B7/\h'=⟨h.boxes,h.fams.set k ⟨X,4,true⟩⟩/\H2 done=H2 R/\done.length=R.length:=by
 refine B5 rfl fr (λn fr h'=>∃(i:Nat),i+n=R.length/\A0 fr 10=.int .i64 (i:Nat)/\(∃(done:List Tm) (X:List AV),X=(done++Z.drop i).map B7/\h'=⟨h.boxes,h.fams.set k ⟨X,4,true⟩⟩/\H2 done=H2 (R.take i)/\done.length=i)) ?_ R.length h ⟨0,by omega,h10,⟨[],A4 Z,by simp[D6],by rw[DC hfam],by simp[H2],rfl⟩⟩;rintro J Φ hJ hΦ n E1 H1 K ⟨i,hi,k10,hr⟩;have A6:=K.1.trans hl;have k0:=A9 K 0 h0;have k9:=A9 K 9 h9;clear K;by_cases A7:i<R.length
 .have Q6:=D1 i (by omega);obtain⟨done,X,hX,rfl,hd,DX⟩:=hr;have hltZ:i<Z.length:=by omega
  obtain⟨t',hI,ht⟩:=Ut _ R[i] (A0E _) (I9 _ (A0Z A7));obtain⟨q1,q2,q3⟩:=Pt B7 done Z hltZ DX;have q4:=Pu B7 done Z hltZ DX t';have hzr:Z[i]=R[i]:=by
   have:=congrArg (·[i]?) hZR;simp only[List.getElem?_take_of_lt A7,A0C hltZ,A0C A7]at this;exact Option.some.inj this
  rw[hzr]at q2;rw[hZ]at q3;have e2:H2 (done++[t'])=H2 (R.take (i+1)):=by
   rw[A0F A7,E3,A0U,←E3,hd,E3,E3,A0U,A0H,A0o,A0H,A0o,ht]
  have HH:=I2 hfam;rw[←hX]at q1 q3 q4;have hq2:X[i]?=some (B7 R[i]):=by subst hX;rw[A0C q1,q2]
  clear hd ht hzr q2 hX;generalize hY:(done++[t']++Z.drop (i+1)).map B7=Y at *
  generalize R[i]=s at *
  simp[X2,A6,k0,k9,k10,A7,Q6,hI,hq2,q3,q4,HH];exact G8 hJ ⟨i+1,by omega,by simp[A6],_,Y,hY.symm,rfl,e2,by simp[DX]⟩
 .obtain⟨done,X,hX,rfl,hd,DX⟩:=hr;have e:i=R.length:=by omega
  subst e;rw[A0a]at hd;simp[X2,A6,k9,k10];exact hΦ _ _ _ ⟨rfl,done,X,hX,rfl,hd,DX⟩
theorem iD (fr:Fr) (h:AH) (hl:fr.length=23) (h9:A0 fr 9=.int .i64 0) (h10:A0 fr 10=.int .i64 0) :
  B9 (lp (A3 (L5 Q) (E5 Z0) X2) (fr,h)) λe C6 h'=>Kp X2.wr fr C6/\e=.exit 0/\h'=h:=by
 refine B5 rfl fr (λn C6 h'=>C6=fr/\h'=h) ?_ 0 h ⟨rfl,rfl⟩;rintro J Φ hJ hΦ n E1 H1 K ⟨rfl,rfl⟩;simp[X2,hl,h9,h10];exact hΦ _ _ _ ⟨rfl,rfl⟩
theorem ah (a b:Tm) (h:a.size<=1099511627776) (h':b.size<=1099511627776):pc Q An [B7 a,B7 b]=some (.bool (decide (H7 a b=0))):=by
 have hC:=m9 _ a b (A0E _) h h';refine O2 JM λfr hl h0 h1=>?_;simp[JM]at hl h0 h1;simp[JM,hl,h0,h1,hC]
theorem jB (a b:Tm) (h:a.size<=1099511627776) (h':b.size<=1099511627776):pc Q b9 [B7 a,B7 b]=some (.bool (decide (H7 a b=0))):=by
 have hC:=m9 _ a b (A0E _) h h';refine O2 GN λfr hl h0 h1=>?_;simp[GN]at hl h0 h1;simp[GN,hl,h0,h1,hC]
theorem bM (h:AH) (b:Bool):rc Q D5 [sl (true,b) 4 [],.fn C2 []] h=some (C3,h):=by
 refine MN (s:=XD 4) rfl rfl ?_;rfl
theorem TK (g:FuncId) (h:AH) (b:Bool):rc Q D0 [sl (true,b) 4 [],.fn g []] h=some (sl (true,b) 4 [],h):=by
 suffices hq:∃v h',rc Q D0 [sl (true,b) 4 [],.fn g []] h=some (v,h')/\(v=sl (true,b) 4 []/\h'=h) by
  obtain⟨v,h',h1,rfl,rfl⟩:=hq;exact h1
 refine Gh H5 λfr hl h0 h1=>?_;simp[H5]at hl h0 h1;simp[H5,hl,h0]
def uE (sz:Nat) (xs:List AV) (v:AV) (h:AH):Prop:=v.isTup=false/\v.cells=[v]/\∃m,Cs h v=some (sl m sz xs)
theorem VE (k:Nat) (l:I6) (v:AV) (h:AH) (hg:gB k 4 (A4 l) v h) (I9:∀t∈l,t.size<=1099511627776) (B8:l.length<=1099511627776) :
  ∃(v':AV) (h':AH) (R:List Tm),rc Q Z0 [v] h=some (v',h')/\h'.boxes=h.boxes/\P8 R l/\R.length<=l.length/\uE 4 (A4 R) v' h':=by
 suffices hq:∃v' h',rc Q Z0 [v] h=some (v',h')/\∃(R:List Tm),h'.boxes=h.boxes/\P8 R l/\R.length<=l.length/\uE 4 (A4 R) v' h' by
  obtain⟨v',h',h1,R,h2⟩:=hq;exact⟨v',h',R,h1,h2⟩
 rcases hg with ⟨hl0,b,rfl⟩|⟨P1,rfl,hk⟩
 .have:l=[]:=by rw[D6]at hl0;exact A0e.1 hl0
  subst this;have hS:=bM h b;have hC:=TK An h b;refine bE DQ λfr hl h0=>?_;simp[DQ]at hl h0;simp[DQ,hl,h0,hS,hC];refine B9.mono (iD _ _ ?_ ?_ ?_) ?_<;>first|(simp[hl];done)|skip
  rintro e E1 h1 ⟨K,rfl,rfl⟩;have J5:E1.length=23:=K.1.trans (by simp[hl]);have Ox:A0 E1 0=sl (true,b) 4 []:=A9 K 0 (by simp[hl]);clear K;simp[J5,Ox];exact⟨[],⟨List.Pairwise.nil,λ_=>Iff.rfl⟩,rfl,rfl,rfl,_,rfl⟩
 .have hne':l≠[]:=by rintro rfl;exact P1 rfl
  have HH:=I2 hk;obtain⟨l',hp,hsort,hS⟩:=Rl k h l hk hne' I9 B8;have hl':l'.length=l.length:=hp.length_eq;have hcm:Sm An l':=⟨rfl,λa ha b hb=>ah a b (I9 a (hp.mem_iff.1 ha)) (I9 b (hp.mem_iff.1 hb))⟩;obtain⟨Z,hZ,hZR,hC⟩:=LN An l' hcm k ⟨h.boxes,h.fams.set k ⟨A4 l',4,true⟩⟩ (by simp[HH]) (by omega);obtain⟨s1,s2,s3⟩:=NY l' hsort;rw[hl']at hC hZ;generalize R0 l'=R at *
  simp only[A0p]at hC;refine bE DQ λfr hl h0=>?_;simp[DQ]at hl h0;simp[DQ,hl,h0,hS,hC];refine B9.mono (lL R Z l.length k hZ hZR B8 (by omega) (λt ht=>I9 t (hp.mem_iff.1 (s2 t ht))) _ _ ?_ ?_ ?_ ?_ ?_) ?_<;>first|(simp[hl,HH];done)|skip
  rintro e E1 h1 ⟨K,rfl,done,X,hX,rfl,hd,DX⟩;have J5:E1.length=23:=K.1.trans (by simp[hl]);have Ox:A0 E1 0=.sl k l.length 0 R.length:=A9 K 0 (by simp[hl]);clear K;simp[J5,Ox];refine⟨done,Sn ⟨s1.1,λe=>(s1.2 e).trans ?_⟩ hd,by omega,rfl,rfl,(false,true),?_⟩
  .simp only[A0L,hp.mem_iff]
  .have e1:X.length=l.length:=by rw[hX];simp;omega
   have e2:X.take R.length=A4 done:=by rw[hX,A0U,←DX,A0m (by simp),D6]
   have e3:R.length<=l.length:=by omega
   rw[Jt,Cr];simp[HH,e1,e2,e3]
theorem ap (m:J3) (l:I6) (I9:∀t∈l,t.size<=1099511627776) (B8:l.length<=1048576) :
  ∃(R:List Tm) (m':Bool×Bool),pc Q CD [sl m 4 (A4 l)]=some (sl m' 4 (A4 R))/\P8 R l/\(∀x∈R,x∈l)/\R.length<=l.length:=by
 have hlv:(A4 l).length=l.length:=by rw[D6,A0T]
 obtain⟨w,⟨B,F⟩,hC,hg,hb,hf⟩:=Nv m (A4 l) (by omega) AH.empty;simp only[AH.empty,List.length_nil]at hC hg hb;subst hb
 suffices h:∃v,pc Q CD [sl m 4 (A4 l)]=some v/\∃q:List Tm×(Bool×Bool),v=sl q.2 4 (A4 q.1)/\P8 q.1 l/\(∀x∈q.1,x∈l)/\q.1.length<=l.length by
  obtain⟨v,h1,q,rfl,h2⟩:=h;exact⟨q.1,q.2,h1,h2⟩
 rcases hg with ⟨hl0,b,rfl⟩|⟨P1,rfl,hk⟩
 .have:l=[]:=by rw[D6]at hl0;exact A0e.1 hl0
  subst this;have hS:=bM ⟨[],F⟩ b;have hK:=TK b9 ⟨[],F⟩ b;refine HL AD λΨ hΨ fr hl h0=>?_;simp[AD]at hl h0;simp[AD,hl,h0,hC,hS,hK];exact hΨ _ ⟨([],(true,b)),rfl,⟨List.Pairwise.nil,λ_=>Iff.rfl⟩,λ_ h=>h,A0E _⟩
 .have hne':l≠[]:=by rintro rfl;exact P1 rfl
  have HH:=I2 hk;obtain⟨l',hp,hsort,hS⟩:=Rl 0 ⟨[],F⟩ l hk hne' I9 (by omega);have hl':l'.length=l.length:=hp.length_eq;have hcm:Sm b9 l':=⟨rfl,λa ha b hb=>jB a b (I9 a (hp.mem_iff.1 ha)) (I9 b (hp.mem_iff.1 hb))⟩;obtain⟨Z,hZ,hZR,hK⟩:=LN b9 l' hcm 0 ⟨[],F.set 0 ⟨A4 l',4,true⟩⟩ (by simp only at HH;simp[HH]) (by omega);obtain⟨s1,s2,s3⟩:=NY l' hsort;rw[hl']at hK hZ;generalize R0 l'=R at *
  simp only[A0p]at hK hS HH;rw[hlv]at hC;have e1:(A4 Z).length=l.length:=by rw[D6,A0T,hZ]
  have e2:(A4 Z).take R.length=A4 R:=by rw[←XK,hZR]
  have e3:R.length<=l.length:=by omega
  refine HL AD λΨ hΨ fr hl h0=>?_;simp[AD]at hl h0;simp[AD,hl,h0,hC,hS,hK,HH,e1,e2,e3];exact hΨ _ ⟨(R,(false,true)),rfl,⟨s1.1,λe=>(s1.2 e).trans (by simp only[A0L,hp.mem_iff])⟩,λx hx=>hp.mem_iff.1 (s2 x hx),e3⟩
mutual
def GW:Tm->List Tm
 | .mk k nm s m l=>.mk k nm s m l::alls l
def alls:List Tm->List Tm
 | []=>[]
 |t::l=>GW t++alls l
end
theorem Cp (t:Tm):GW t=t::alls t.kids:=by cases t;rfl
theorem K6 (l:I6):alls l=l.flatMap GW:=by
 induction l with
 |nil=>rfl
 |cons t l ih=>rw[alls,ih,A0h]
theorem WH {l:I6} {i:Nat} (h:i<l.length):alls (l.take (i+1))=alls (l.take i)++GW l[i]:=by
 rw[A0F h,K6,K6,A0V,A0h,List.flatMap_nil,A0R]
mutual
theorem RG:∀t:Tm,(GW t).length=t.size
 | .mk _ _ _ _ l=>by
  have:=Eu l;simp only[GW,Tm.size,A0M];omega
theorem Eu:∀l:List Tm,(alls l).length=Tm.sizes l
 | []=>rfl
 |t::l=>by
  have:=RG t;have:=Eu l;simp only[alls,Tm.sizes,A0D];omega
end
theorem WG:∀(n:Nat) (t:Tm),t.size<=n->∀x∈GW t,x.size<=t.size:=by
 intro n
 induction n with
 |zero=>intro t h;have:=t.size_pos;omega
 |succ n ih =>
  intro t hn x hx;rw[Cp]at hx;rcases A0I.1 hx with rfl|hx
  .exact A0E _
  .have I9:=t.kids_size;rw[K6]at hx;obtain⟨y,hy,hx⟩:=A0j.1 hx;have h1:=Tm.size_le hy;have:=ih y (by omega) x hx;omega
def Jj (L:Nat) (h h':AH):Prop:=h.boxes.length<=h'.boxes.length/\∀j,L<=j->j<h.boxes.length->h'.boxes[j]?=h.boxes[j]?
theorem Jj.trans {L:Nat} {a b c:AH} (h:Jj L a b) (k:Jj L b c):Jj L a c :=
 ⟨Nat.le_trans h.1 k.1,λj h1 h2=>(k.2 j h1 (Nat.lt_of_lt_of_le h2 h.1)).trans (h.2 j h1 h2)⟩
theorem Jj.refl (L:Nat) (a:AH):Jj L a a:=⟨A0E _,λ_ _ _=>rfl⟩
theorem Jj.push (L:Nat) (a:AH) (c:G1):Jj L a ⟨a.boxes++[c],a.fams⟩ :=
 ⟨by simp,λj _ h=>by simp[A0A h]⟩
structure Vis (g:FuncId) (caps:List AV) (p:Tm->Bool) (L:Nat) (I:List Tm->AH->Prop):Prop where
 raw:C4 g=true
 rawv:Jy d6=true
 noB:Cm g=false
 keep:∀D7 h c,L<=h.boxes.length->I D7 h->I D7 ⟨h.boxes++[c],h.fams⟩
 call:∀(x:Tm) (D7:List Tm) (h:AH),D7.length<1099511627776->L<=h.boxes.length->I D7 h ->
  ∃v h',rc Q g (B7 x::caps) h=some (v,h')/\I (D7++[x].filter p) h'/\Jj L h h'
theorem iM {g:FuncId} {caps:G1} {p:Tm->Bool} {L:Nat} {I:List Tm->AH->Prop} (V:Vis g caps p L I) (m:J3) (l:I6) (D7:I6) (B8:D7.length+Tm.sizes l<=1099511627776)
  (IH:∀t∈l,∀(D7:List Tm) (h:AH),D7.length+t.size<=1099511627776->L<=h.boxes.length->I D7 h->∃v h',rc Q d6 [B7 t,.fn g caps] h=some (v,h')/\I (D7++(GW t).filter p) h'/\Jj L h h')
  (fr:Fr) (h:AH) (hL:L<=h.boxes.length) (hI:I D7 h) (hl:fr.length=20) (h1:A0 fr 1=.fn g caps) (h10:A0 fr 10=sl m 4 (A4 l)) (h11:A0 fr 11=.int .i64 l.length) (h12:A0 fr 12=.int .i64 0) :
  B9 (lp (A3 (L5 Q) (E5 d6) Gs) (fr,h)) λe C6 h'=>Kp Gs.wr fr C6/\e=.exit 0/\I (D7++(alls l).filter p) h'/\Jj L h h':=by
 have hll:=Tm.length_le l;refine B5 rfl fr (λn fr h'=>∃i:Nat,i+n=l.length/\A0 fr 12=.int .i64 (i:Nat)/\I (D7++(alls (l.take i)).filter p) h'/\Jj L h h') ?_ l.length h ⟨0,by omega,h12,by simpa[alls]using hI,Jj.refl _ _⟩;rintro J Φ hJ hΦ n E1 H1 K ⟨i,hi,k12,hI',hK⟩;have A6:=K.1.trans hl;have k1:=A9 K 1 h1;have k10:=A9 K 10 h10;have k11:=A9 K 11 h11;clear K;by_cases A7:i<l.length
 .have Q6:=D1 i (by omega);have hx:=N6 A7;have hat:=WH A7;have hb:(D7++(alls (l.take i)).filter p).length+l[i].size<=1099511627776:=by
   have a1:=A0Q p (alls (l.take i));have a2:=Eu (l.take (i+1));rw[hat,A0D,RG]at a2;have a3:Tm.sizes (l.take (i+1))<=Tm.sizes l:=by
    have e:=congrArg A0b (congrArg alls (A0d (i+1) l));rw[K6,K6,A0V,A0D,←K6,←K6,←K6,Eu,Eu,Eu]at e;omega
   simp only[A0D];omega
  obtain⟨v,⟨B',F'⟩,hc,hI2,hK2⟩:=IH l[i] (A0Z A7) _ ⟨H1.boxes++[(B7 l[i]).cells],H1.fams⟩ hb (by simp only[A0D];have:=hK.1;omega) (V.keep _ _ _ (by have:=hK.1;omega) hI');rw[A0K,←A0g,←hat]at hI2;have hK3:=(hK.trans (Jj.push L H1 (B7 l[i]).cells)).trans hK2;clear hat hb hI' IH;generalize l[i]=s at *
  obtain⟨B,F⟩:=H1;simp only[L0]at hc;simp[Gs,A6,k1,k10,k11,k12,A7,hx,hc,Q6];exact G8 hJ ⟨i+1,by omega,by simp[A6],hI2,hK3⟩
 .rw[A0P (by omega)]at hI';simp[Gs,A6,k11,k12,A7];exact hΦ _ _ _ ⟨rfl,hI',hK⟩
theorem fc {g:FuncId} {caps:G1} {p:Tm->Bool} {L:Nat} {I:List Tm->AH->Prop} (V:Vis g caps p L I) :
  ∀(n:Nat) (t:Tm),t.size<=n->∀(D7:List Tm) (h:AH),D7.length+t.size<=1099511627776->L<=h.boxes.length->I D7 h ->
   ∃v h',rc Q d6 [B7 t,.fn g caps] h=some (v,h')/\I (D7++(GW t).filter p) h'/\Jj L h h':=by
 intro n
 induction n with
 |zero=>intro t h;have:=t.size_pos;omega
 |succ n ih =>
  intro t hn D7 h hb hL hI;have I9:=t.kids_size;obtain⟨B,F⟩:=h;simp only at hL;obtain⟨v1,⟨B1,F1⟩,hc1,hI1,hk1⟩:=V.call t D7 ⟨B++[(B7 t).cells],F⟩ (by omega) (by simp only[A0D];omega) (V.keep _ ⟨B,F⟩ _ hL hI);have hk2:=(Jj.push L ⟨B,F⟩ (B7 t).cells).trans hk1;have hown:B1[B.length]?=some (B7 t).cells:=by
   rw[hk1.2 B.length hL (by simp)];simp
  have hl0:(D7++[t].filter p).length+Tm.sizes t.kids<=1099511627776:=by
   have:=A0Q p [t];simp only[A0D,List.length_singleton]at this ⊢;omega
  have KB:=iM V t.cm t.kids _ hl0 (λt' ht'=>ih t' (by have:=Tm.size_le ht';omega));clear ih hb hn hl0;have hraw:=V.raw;have hrv:=V.rawv;have hnb:=V.noB;simp only[L0]at hc1 hown;rw[show (GW t).filter p=[t].filter p++(alls t.kids).filter p from by rw[Cp,←A0g];rfl,←A0K];refine Gh Pb λfr hl h0 h1=>?_;simp[Pb]at hl h0 h1;simp[Pb,hl,h0,h1,hc1,hraw,hrv,hnb,hown];refine B9.mono (KB _ _ ?_ hI1 ?_ ?_ ?_ ?_ ?_) ?_<;>first|(simp[hl,h1];done)|skip
  .have:=hk2.1;simp only at this ⊢;omega
  rintro e E1 Ei ⟨K,rfl,hI2,hk3⟩;simp;exact⟨by rw[←A0K];exact hI2,hk2.trans hk3⟩
def Yw (sz:Nat) (D7:List AV) (v:AV) (h:AH):Prop:=(D7=[]/\v=.vs true 0 [])\/(D7≠[]/\∃k,v=.sl k D7.length 0 D7.length/\h.fams[k]?=some ⟨D7,sz,true⟩)
theorem Yz {sz:Nat} {D7:G1} {v:AV} {h:AH} (hg:Yw sz D7 v h):∃k,gB k sz D7 v h:=by
 rcases hg with ⟨rfl,rfl⟩|⟨P1,k,rfl,hk⟩
 .exact⟨0,.inl ⟨rfl,false,IN sz⟩⟩
 .exact⟨k,.inr ⟨P1,rfl,hk⟩⟩
theorem Mw {sz:Nat} {D7:G1} {v:AV} {h h':AH} (hg:Yw sz D7 v h) (e:h'.fams=h.fams):Yw sz D7 v h':=by
 rcases hg with hg|⟨h1,k,h2,h3⟩
 .exact .inl hg
 .exact .inr ⟨h1,k,h2,by rw[e];exact h3⟩
theorem NU {sz:Nat} {D7:G1} {v:AV} {h:AH} (hg:Yw sz D7 v h):v.isTup=false/\v.cells=[v]/\EA [v]=false:=by
 rcases hg with ⟨_,rfl⟩|⟨_,k,rfl,_⟩<;>exact⟨rfl,rfl,rfl⟩
theorem Yx {sz:Nat} {D7:G1} {v:AV} {h:AH} (hg:Yw sz D7 v h) (h':AH):Xv h' v=some (.int .i64 D7.length,h'):=by
 rcases hg with ⟨rfl,rfl⟩|⟨P1,k,rfl,hk⟩<;>rfl
theorem Yy {c:Ctx} {sz bytes:Nat} {D7:G1} {v z:AV} {h:AH} (hg:Yw sz D7 v h) (hm:c.mutApp=true) (m:J3)
  (hb:(D7.length+1)*bytes<=140737488355328) (hb':D7.length<=1099511627776):∃k F,N1 c h sz bytes v (sl m sz [z])=some (.sl k (D7.length+1) 0 (D7.length+1),⟨h.boxes,F⟩)/\F[k]?=some ⟨D7++[z],sz,true⟩/\k<F.length /\
   (∀x,(D7++[z]).set D7.length x=D7++[x])/\∀x B,Yw sz (D7++[x]) (.sl k (D7.length+1) 0 (D7.length+1)) ⟨B,F.set k ⟨D7++[x],sz,true⟩⟩:=by
 have hr:(D7.length+1)*bytes<=H6/\D7.length+1<=maxLen:=by simp only[H6,maxLen];omega
 rcases hg with ⟨rfl,rfl⟩|⟨P1,k,rfl,hk⟩
 .rw[Pj,T7,A0O,if_neg (by simp),if_pos (by simpa using hr),hm];exact⟨h.fams.length,_,rfl,by simp,by simp,by simp,λx B=>.inr ⟨by simp,_,rfl,by simp⟩⟩
 .have Dd:=I2 hk;rw[Kx,T7,A0O,hk,A0O,if_pos ⟨rfl,rfl,by omega,by simpa using hr⟩];exact⟨k,_,rfl,by simp[Dd],by simpa using Dd,by simp,λx B=>.inr ⟨by simp,k,by simp,by simp[Dd]⟩⟩
def eP (b:Nat) (D7:List Tm) (h:AH):Prop:=∃v,h.boxes[b]?=some [v]/\Yw 4 (A4 D7) v h
@[simp] theorem qn (cs ds:G1):(AV.agg cs).reform ds=some (.agg ds):=rfl
@[simp] theorem xw (h:AH) (n k m i q sz:Nat) (v:AV):VV h n (.ep k m i q sz) v=if MC v then ((h.fams[k]?).bind λf =>
  if f.xs.length=m/\f.sz=sz/\f.wr=true then
   (f.xs[i]?).bind λx=>(JW h false v).bind λu=>if u.cells.length=n/\q+n<=x.cells.length then
    (x.reform (L9 x.cells q u.cells)).map λy=>{h with fams:=h.fams.set k {f with xs:=f.xs.set i y}} else none
  else none).map (λh'=>(C3,h'))else none:=by
 have e:HO h n v k m i q sz=((h.fams[k]?).bind λf =>
  if f.xs.length=m/\f.sz=sz/\f.wr=true then
   (f.xs[i]?).bind λx=>(JW h false v).bind λu=>if u.cells.length=n/\q+n<=x.cells.length then
    (x.reform (L9 x.cells q u.cells)).map λy=>{h with fams:=h.fams.set k {f with xs:=f.xs.set i y}} else none
  else none):=by
  simp only[HO];cases h.fams[k]? with
  |none=>rfl
  |some f =>
   simp only[A0O];split
   .cases f.xs[i]? with
    |none=>rfl
    |some x=>cases JW h false v<;>rfl
   .rfl
 rw[←e];simp only[VV];split
 .cases HO h n v k m i q sz<;>rfl
 .rfl
@[simp] theorem wW (h:AH) (n:Nat) (v:AV) (b off:Nat):VU h n (.ptr b off) v=(h.boxes[b]?).bind λcs=>if EA cs=false/\v.isTup=false/\v.cells.length=n/\off+n<=cs.length then some (C3,{h with boxes:=h.boxes.set b (L9 cs off v.cells)})else none:=by
 simp only[VU];cases h.boxes[b]?<;>rfl
theorem ft:B7 jd=AV.agg [.int .i64 0,.str (bs []),.int .i64 0,sl (true,false) 1 []]:=rfl
theorem ev:MC (AV.agg [.int .i64 0,.str (bs []),.int .i64 0,.vs true 0 []])=true:=rfl
theorem Yn (b:Nat):Vis Y8 [.ptr b 0] (λ_=>true) (b+1) (eP b) where
 raw:=rfl
 rawv:=rfl
 noB:=rfl
 keep:=by
  rintro D7 h c hL ⟨v,h1,h2⟩;exact⟨v,by rw[A0A (by omega)];exact h1,Mw h2 rfl⟩
 call:=by
  rintro x D7 ⟨B,F⟩ hb hL ⟨v,hv,hg⟩;simp only at hv hL;have hbl:=I2 hv;have hal:(A4 D7).length=D7.length:=by rw[D6,A0T]
  obtain⟨k,F',ha,hk,HH,LA,hG⟩:=Yy (c:=E5 Y8) (bytes:=56) (z:=B7 jd) (Mw (h':=⟨B++[(B7 x).cells],F⟩) hg rfl) rfl (true,true) (by omega) (by omega);obtain⟨c1,c2,c3⟩:=NU hg;have B8:=Yx hg;have hG2:=hG (B7 x);have hs2:=LA (B7 x);rw[hal]at ha hG2 hs2 B8;simp only[L0,ft]at ha hk hs2;have hq:(B++[[AV.int .i64 x.kind,.str x.name,.int .i64 x.sort,sl x.cm 4 (A4 x.kids)]])[b]?=some [v]:=by rw[A0A hbl];exact hv
  refine Gh Ia λfr hl h0 h1=>?_;simp[Ia]at hl h0 h1;have hlt1:(D7.length:Int)<(D7.length:Int)+1:=by omega
  simp[Ia,hl,h0,h1,hq,B8,ha,hk,c3,ev,A5,hbl,hal,hlt1];refine⟨⟨_,?_,by rw[o8];exact hG2 _⟩,?_,λj hj hj2=>?_⟩
  .simp[A0A,hbl]
  .simp
  .simp only at hj2 ⊢;rw[A0A (by simpa using hj2),A0S (by omega)]
def qh (a b:Nat) (kd:Int) (D7:List Tm) (h:AH):Prop:=h.boxes[a]?=some [.int .i64 kd]/\eP b D7 h
theorem eJ (a b:Nat) (OW:a<b) (kd:Int):Vis AO [.ptr a 0,.ptr b 0] (λx=>decide (x.kind=kd)) (b+1) (qh a b kd) where
 raw:=rfl
 rawv:=rfl
 noB:=rfl
 keep:=by
  rintro D7 h c hL ⟨h0,v,h1,h2⟩;exact⟨by rw[A0A (by omega)];exact h0,v,by rw[A0A (by omega)];exact h1,Mw h2 rfl⟩
 call:=by
  rintro x D7 ⟨B,F⟩ hb hL ⟨hkd,v,hv,hg⟩;simp only at hv hL hkd;have hbl:=I2 hv;have hal:(A4 D7).length=D7.length:=by rw[D6,A0T]
  have hq:(B++[[AV.int .i64 x.kind,.str x.name,.int .i64 x.sort,sl x.cm 4 (A4 x.kids)]])[b]?=some [v]:=by rw[A0A hbl];exact hv
  have hq2:(B++[[AV.int .i64 x.kind,.str x.name,.int .i64 x.sort,sl x.cm 4 (A4 x.kids)]])[a]?=some [.int .i64 kd]:=by rw[A0A (by omega)];exact hkd
  by_cases hc:x.kind=kd
  .subst hc;obtain⟨k,F',ha,hk,HH,LA,hG⟩:=Yy (c:=E5 AO) (bytes:=56) (z:=B7 jd) (Mw (h':=⟨B++[(B7 x).cells],F⟩) hg rfl) rfl (true,true) (by omega) (by omega);obtain⟨c1,c2,c3⟩:=NU hg;have B8:=Yx hg;have hG2:=hG (B7 x);have hs2:=LA (B7 x);rw[hal]at ha hG2 hs2 B8;simp only[L0,ft]at ha hk hs2;have hlt1:(D7.length:Int)<(D7.length:Int)+1:=by omega
   refine pj Bx λfr hl h0 h1 h2=>?_;simp[Bx]at hl h0 h1 h2;simp[Bx,hl,h0,h1,h2,hq,hq2,B8,ha,hk,c3,ev,A5,hbl,hal,hlt1];refine⟨⟨?_,_,?_,by rw[o8];exact hG2 _⟩,?_,λj hj hj2=>?_⟩
   .simp only;rw[A0A (by simp;omega),A0S (by omega)];exact hkd
   .simp[A0A,hbl]
   .simp
   .simp only at hj2 ⊢;rw[A0A (by simpa using hj2),A0S (by omega)]
  .refine pj Bx λfr hl h0 h1 h2=>?_;simp[Bx]at hl h0 h1 h2;simp[Bx,hl,h0,h1,hq2,hc];exact⟨⟨hq2,v,hq,Mw hg rfl⟩,Jj.push _ ⟨B,F⟩ _⟩
theorem Vl (m:J3) (l:I6) (B8:Tm.sizes l<=1099511627776) (fr:Fr) (h:AH) (hh:h.boxes=[[.vs true 0 []]]) (hl:fr.length=18)
  (h3:A0 fr 3=.ptr 0 0) (h6:A0 fr 6=sl m 4 (A4 l)) (h7:A0 fr 7=.int .i64 l.length) (h8:A0 fr 8=.int .i64 0) :
  B9 (lp (A3 (L5 Q) (E5 AN) CT) (fr,h)) λe C6 h'=>Kp CT.wr fr C6/\e=.exit 0/\eP 0 (alls l) h':=by
 have hll:=Tm.length_le l;refine B5 rfl fr (λn fr h'=>∃i:Nat,i+n=l.length/\A0 fr 8=.int .i64 (i:Nat)/\eP 0 (alls (l.take i)) h'/\1<=h'.boxes.length) ?_ l.length h ⟨0,by omega,h8,⟨_,by rw[hh];rfl,.inl ⟨rfl,rfl⟩⟩,by rw[hh];simp⟩;rintro J Φ hJ hΦ n E1 H1 K ⟨i,hi,k8,hI,hB⟩;have A6:=K.1.trans hl;have k3:=A9 K 3 h3;have k6:=A9 K 6 h6;have k7:=A9 K 7 h7;clear K;by_cases A7:i<l.length
 .have Q6:=D1 i (by omega);have hx:=N6 A7;have hat:=WH A7;have hV:=Yn 0;have hb:(alls (l.take i)).length+l[i].size<=1099511627776:=by
   have a2:=Eu (l.take (i+1));rw[hat,A0D,RG]at a2;have a3:Tm.sizes (l.take (i+1))<=Tm.sizes l:=by
    have e:=congrArg A0b (congrArg alls (A0d (i+1) l));rw[K6,K6,A0V,A0D,←K6,←K6,←K6,Eu,Eu,Eu]at e;omega
   omega
  obtain⟨v,⟨B',F'⟩,hc,hI2,hK2⟩:=fc hV _ l[i] (A0E _) _ ⟨H1.boxes++[(B7 l[i]).cells],H1.fams⟩ hb (by simp) (hV.keep _ _ _ hB hI);rw[List.filter_eq_self.2 (λ_ _=>rfl),←hat]at hI2;have hB2:1<=B'.length:=by have:=hK2.1;simp at this;omega
  clear hat hb hI hV hK2;generalize l[i]=s at *
  obtain⟨B,F⟩:=H1;simp only[L0]at hc;simp[CT,A6,k3,k6,k7,k8,A7,hx,hc,Q6];exact G8 hJ ⟨i+1,by omega,by simp[A6],hI2,hB2⟩
 .rw[A0P (by omega)]at hI;simp[CT,A6,k7,k8,A7];exact hΦ _ _ _ ⟨rfl,hI⟩
theorem TE (m:J3) (l:I6) (B8:Tm.sizes l<=1099511627776) :
  ∃(R:List Tm) (m':Bool×Bool),pc Q AN [sl m 4 (A4 l)]=some (sl m' 4 (A4 R))/\P8 R (alls l)/\R.length<=Tm.sizes l:=by
 suffices h:∃v,pc Q AN [sl m 4 (A4 l)]=some v/\∃q:List Tm×(Bool×Bool),v=sl q.2 4 (A4 q.1)/\P8 q.1 (alls l)/\q.1.length<=Tm.sizes l by
  obtain⟨v,h1,q,rfl,h2⟩:=h;exact⟨q.1,q.2,h1,h2⟩
 refine HL KP λΨ hΨ fr hl h0=>?_;simp[KP]at hl h0;simp[KP,hl,h0];refine B9.mono (Vl m l B8 _ _ ?_ ?_ ?_ ?_ ?_ ?_) ?_<;>first|(simp[hl];done)|skip
 rintro e E1 ⟨B,F⟩ ⟨K,rfl,v,hv,hg⟩;simp only at hv;obtain⟨c1,c2,c3⟩:=NU hg;obtain⟨k,hrow⟩:=Yz hg;have hal:=Eu l;obtain⟨v',⟨B',F'⟩,R,ho,hb,LA,hRl,f1,f2,mm,f3⟩:=VE k (alls l) v ⟨B,F⟩ hrow (λt ht=>by
  rw[K6]at ht;obtain⟨y,hy,ht⟩:=A0j.1 ht;have:=WG _ y (A0E _) t ht;have:=Tm.size_le hy;omega) (by omega)
 simp only at hb;subst hb;have J5:E1.length=18:=K.1.trans (by simp[hl]);have ON:A0 E1 3=.ptr 0 0:=A9 K 3 (by simp[hl]);clear K;simp[J5,ON,hv,c3,ho,f3];exact hΨ _ ⟨(R,mm),rfl,LA,by simpa[hal]using hRl⟩
theorem oq (t:Tm) (B8:t.size<=1099511627776) :
  ∃(R:List Tm) (m':Bool×Bool),pc Q PE [B7 t]=some (sl m' 4 (A4 R))/\P8 R ((GW t).filter λx=>decide (x.kind=1)):=by
 have hofk:∃(R:List Tm) (m':Bool×Bool),pc Q Ge [B7 t,.int .i64 1]=some (sl m' 4 (A4 R))/\P8 R ((GW t).filter λx=>decide (x.kind=1)):=by
  suffices h:∃v,pc Q Ge [B7 t,.int .i64 1]=some v/\∃q:List Tm×(Bool×Bool),v=sl q.2 4 (A4 q.1)/\P8 q.1 ((GW t).filter λx=>decide (x.kind=1)) by
   obtain⟨v,h1,q,rfl,h2⟩:=h;exact⟨q.1,q.2,h1,h2⟩
  have hV:=eJ 1 2 (by omega) 1;obtain⟨w,⟨B,F⟩,hc,⟨_,v,hv,hg⟩,hK2⟩:=fc hV _ t (A0E _) [] ⟨[(B7 t).cells,[.int .i64 1],[.vs true 0 []]],[]⟩ (by simpa using B8) (by simp) ⟨rfl,_,rfl,.inl ⟨rfl,rfl⟩⟩;rw[List.nil_append]at hg;simp only at hv;obtain⟨c1,c2,c3⟩:=NU hg;obtain⟨k,hrow⟩:=Yz hg;have hal:=RG t;have hfl:=A0Q (λx:Tm=>decide (x.kind=1)) (GW t);obtain⟨v',⟨B',F'⟩,R,ho,hb,LA,hRl,f1,f2,mm,f3⟩:=VE k _ v ⟨B,F⟩ hrow (λx hx=>by
   have:=WG _ t (A0E _) x (List.mem_filter.1 hx).1;omega) (by omega)
  simp only at hb;subst hb;simp only[L0]at hc;refine Qp Mu λΨ hΨ fr hl h0 h1=>?_;simp[Mu]at hl h0 h1;simp[Mu,hl,h0,h1,hc,hv,c3,ho,f3];exact hΨ _ ⟨(R,mm),rfl,LA⟩
 obtain⟨R,m',h1,h2⟩:=hofk;refine⟨R,m',?_,h2⟩;refine M2 PY λfr hl h0=>?_;simp[PY]at hl h0;simp[PY,hl,h0,h1]
def O5 (l:List Tm) (t:Tm):Bool:=l.any λx=>KZ x t
theorem CA {l:I6} {t:Tm}:O5 l t=true↔E8 t∈l.map E8:=by
 simp only[O5,List.any_eq_true,KZ,decide_eq_true_eq,A0L,Bz]
theorem gd (x:Tm) (l:I6) (t:Tm):O5 (x::l) t=(KZ x t||O5 l t):=rfl
theorem gE {R l:I6} (h:P8 R l) (t:Tm):O5 R t=O5 l t:=by
 rw[A0l,CA,CA];exact h.2 _
theorem Tg {l:I6} {t t':Tm} (h:E8 t=E8 t'):O5 l t=O5 l t':=by
 rw[A0l,CA,CA,h]
theorem lA (m:J3) (l:I6) (t:Tm) (B8:l.length<=1099511627776) (hs:∀x∈l,x.size<=1099511627776) (ht:t.size<=1099511627776) (fr:Fr) (h:AH) (hh:h=⟨[(B7 t).cells],[]⟩) (hl:fr.length=18) (h0:A0 fr 0=sl m 4 (A4 l)) (h3:A0 fr 3=.ptr 0 0) (h5:A0 fr 5=.int .i64 0) :
  B9 (lp (A3 (L5 Q) (E5 MF) EV) (fr,h)) λe C6 h'=>Kp EV.wr fr C6/\(e=.exit 0/\O5 l t=false\/e=.ret/\A0 C6 4=.bool true/\O5 l t=true):=by
 refine B5 rfl fr (λn fr h'=>∃(i:Nat),i+n=l.length/\A0 fr 5=.int .i64 (i:Nat)/\(h'=⟨[(B7 t).cells],[]⟩/\O5 (l.drop i) t=O5 l t)) ?_ l.length h ⟨0,by omega,h5,hh,rfl⟩;rintro J Φ hJ hΦ n E1 H1 K ⟨i,hi,k5,hr⟩;have A6:=K.1.trans hl;have k0:=A9 K 0 h0;have k3:=A9 K 3 h3;clear K;by_cases A7:i<l.length
 .have Q6:=D1 i (by omega);obtain⟨rfl,hr⟩:=hr;have hx:=N6 A7;have hS:=YM l[i] t (hs _ (A0Z A7)) ht;rw[List.drop_eq_getElem_cons A7,gd]at hr;clear hh;generalize l[i]=s at *
  by_cases hc:KZ s t=true
  .rw[hc]at hS hr;rw[Bool.true_or]at hr;simp[EV,A6,k0,k3,k5,A7,hx,hS];exact hΦ _ _ _ (.inr ⟨rfl,by simp[A6],hr.symm⟩)
  .simp only[Bool.not_eq_true]at hc;rw[hc]at hS hr;simp[EV,A6,k0,k3,k5,A7,Q6,hx,hS];exact G8 hJ ⟨i+1,by omega,by simp[A6],by simp,by simpa using hr⟩
 .obtain⟨rfl,hr⟩:=hr;rw[List.drop_eq_nil_of_le (by omega)]at hr;simp[EV,A6,k0,k5,A7];exact hΦ _ _ _ (.inl ⟨rfl,hr.symm⟩)
theorem sA (m:J3) (l:I6) (t:Tm) (B8:l.length<=1099511627776) (hs:∀x∈l,x.size<=1099511627776) (ht:t.size<=1099511627776) :
  pc Q MF [sl m 4 (A4 l),B7 t]=some (.bool (O5 l t)):=by
 refine O2 PW λfr hl h0 h1=>?_;simp[PW]at hl h0 h1;simp[PW,h1];refine B9.mono (lA m l t B8 hs ht _ _ ?_ ?_ ?_ ?_ ?_) ?_<;>first|(simp[hl,h0];done)|skip
 rintro e E1 Ei ⟨K,⟨rfl,hh⟩|⟨rfl,h4,hh⟩⟩
 .have A6:E1.length=18:=K.1.trans (by simp[hl]);simp[A6,hh]
 .simp[h4,hh]
theorem mh (a b:I6):A4 (a++b)=A4 a++A4 b:=by simp[D6]
def uu (t:Tm):Bool:=((GW t).filter λx=>decide (x.kind=1)).isEmpty
theorem gG {R l:I6} (h:P8 R l):R.length=0↔l.isEmpty=true:=by
 have h2:=h.2;rw[List.isEmpty_iff];constructor
 .intro e;have:R=[]:=List.eq_nil_of_length_eq_zero e;subst this;cases l with
  |nil=>rfl
  |cons a l=>exact absurd ((h2 (E8 a)).2 (by simp)) (by simp)
 .rintro rfl;cases R with
  |nil=>rfl
  |cons a l=>exact absurd ((h2 (E8 a)).1 (by simp)) (by simp)
end Go.Abs.Q
