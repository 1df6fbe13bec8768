/- A part of the proof. -/
import Derived.Test.YtohjdamplbhdpaaGreatDoorSD22
set_option linter.all false
open List renaming length_append->oD,map_cons->xX,mem_flatMap->xZ,take_succ_eq_append_getElem->xa,map_nil->xb,flatMap_append->xc,any_cons->xd,drop_eq_getElem_cons->xe,getElem?_eq_getElem->xf,length_map->xi,drop_eq_nil_of_le->xj,take_of_length_le->xk,mem_cons_of_mem->xl,mem_cons->xm,mem_map_of_mem->xn,mem_cons_self->xo,flatMap_cons->xp,flatMap_nil->xr,getElem_mem->xt,not_mem_nil->xu,append_nil->xw,any_nil->xz,mem_map->yA
open Bool renaming and_eq_true->xY,eq_iff_iff->xh,or_false->xy
open Option renaming bind_some->xg
open Nat renaming le_refl->xq
namespace Go.Abs.Q
open Go.Proofs
attribute [local simp] D1 D4 fin I2 G0 K7 I3 N4 O5
def Yo (sz:Nat) (G2:List AV) (v:AV) (h:AH):Prop:=(G2=[]/\v=.vs true 0 [])\/∃k,v=.sl k G2.length 0 G2.length/\h.fams[k]?=some ⟨G2,sz,false⟩
theorem eh {c:Ctx} {sz bytes:Nat} {G2 ys:E5} {v x:AV} {h:AH} (hg:Yo sz G2 v h) (hm:c.mutApp=false) (hx:elems h sz x=some ys)
  (hb:(G2.length+ys.length)*bytes<=G5/\G2.length+ys.length<=maxLen):∃v' h',L5 c h sz bytes v x=some (v',h')/\Yo sz (G2++ys) v' h'/\h'.boxes=h.boxes:=by
 rcases hg with ⟨rfl,rfl⟩|⟨k,rfl,hk⟩
 .obtain⟨v',h',h1,h2,h3⟩:=aA (OJ sz h) hm hx hb;refine⟨v',h',h1,?_,h3⟩;rcases h2 with h2|⟨_,h2⟩
  .exact .inl h2
  .exact .inr h2
 .rw[RN,hx,xg,hk,xg];rw[if_pos ⟨rfl,rfl,by omega,hb⟩];have CE:=J1 hk;exact⟨_,_,rfl,.inr ⟨k,by simp,by simp[CE]⟩,rfl⟩
theorem WG {sz:Nat} {G2:E5} {v:AV} {h:AH} (hg:Yo sz G2 v h):v.isTup=false/\v.cells=[v]/\∃m,Bj h v=some (sl m sz G2):=by
 rcases hg with ⟨rfl,rfl⟩|⟨k,rfl,hk⟩
 .exact⟨rfl,rfl,(true,false),by rw[Fk sz];rfl⟩
 .refine⟨rfl,rfl,(false,true),?_⟩;rw[HD,Do,hk,xg,if_pos ⟨rfl,by omega,rfl⟩];simp
abbrev ML:=(Bool×Bool)×List Tm
def ZQ (q:ML):AV:=sl q.1 4 (A4 q.2)
@[simp] theorem pd (q:ML):(ZQ q).cells=[ZQ q]:=rfl
@[simp] theorem pe (q:ML):(ZQ q).isTup=false:=rfl
def Iu (l:List ML):Nat:=(l.flatMap λq=>q.2).length
theorem Uk {l:List ML} {i:Nat} (h:i<l.length):Iu (l.take (i+1))=Iu (l.take i)+l[i].2.length:=by
 unfold Iu;rw[xa h,xc,oD,xp,xr,xw]
theorem bW (l:List ML) (i:Nat):Iu (l.take i)<=Iu l:=by
 have:Iu l=Iu (l.take i)+Iu (l.drop i):=by
  conv=>lhs;rw[←List.take_append_drop i l]
  unfold Iu;rw[xc,oD]
 omega
theorem gE (l:List ML):(l.flatMap λq=>q.2).length=Iu l:=rfl
theorem kB (h:AH) (q:ML):Pf h (ZQ q)=some (.int .i64 q.2.length,h):=by simp[ZQ]
theorem cz (m:J0) (l:List ML) (C2:l.length<=1048576) (hs:Iu l<=1048576) (fr:Fr) (h:AH) (h3:A0 fr 3=.int .i64 0) (hl:fr.length=36) (h9:A0 fr 9=sl m 1 (l.map ZQ)) (h10:A0 fr 10=.int .i64 l.length) (h11:A0 fr 11=.int .i64 0) :
  C8 (lp (A1 (Q8 Q) (G8 M9) X4) (fr,h)) λe D3 h'=>Kp X4.wr fr D3/\(e=.exit 0/\h'=h/\A0 D3 3=.int .i64 (Iu l:Nat)):=by
 refine C3 rfl fr (λn fr h'=>∃(i:Nat),i+n=l.length/\A0 fr 11=.int .i64 (i:Nat)/\(h'=h/\A0 fr 3=.int .i64 (Iu (l.take i):Nat))) ?_ l.length h ⟨0,by omega,h11,rfl,h3⟩;rintro J Φ hJ hΦ n H0 H1 K ⟨i,hi,k11,hr⟩;have B5:=K.1.trans hl;have k9:=A5 K 9 h9;have k10:=A5 K 10 h10;clear K;by_cases A7:i<l.length
 .have V9:=E6 i (by omega);obtain⟨rfl,k3⟩:=hr;have hx:=H8 (f:=ZQ) (xf A7);have DG:=Uk A7;have cZ:=bW l (i+1);have hL:=kB H1 l[i];have hw:IntKind.i64.wrap ((Iu (l.take i):Int)+(l[i].2.length:Int))=((Iu (l.take (i+1)):Nat):Int):=by rw[M5 (by omega) (by omega)];omega
  generalize l[i]=s at *
  have ov:¬((Iu (l.take (i+1)):Nat):Int)<0:=by omega
  simp[X4,B5,k9,k10,k11,A7,V9,k3,hx,hL,hw,ov];exact O9 hJ ⟨i+1,by omega,by simp[B5],rfl,by simp[B5]⟩
 .obtain⟨rfl,k3⟩:=hr;rw[xk (by omega)]at k3;simp[X4,B5,k10,k11,A7];exact hΦ _ _ _ ⟨rfl,rfl,by simp[k3]⟩
theorem cy (m:J0) (l:List ML) (C2:l.length<=1048576) (hs:Iu l<=1048576) (fr:Fr) (h:AH) (h6:Yo 4 [] (A0 fr 6) h) (hl:fr.length=36) (h25:A0 fr 25=sl m 1 (l.map ZQ)) (h26:A0 fr 26=.int .i64 l.length) (h27:A0 fr 27=.int .i64 0) :
  C8 (lp (A1 (Q8 Q) (G8 M9) X3) (fr,h)) λe D3 h'=>Kp X3.wr fr D3/\(e=.exit 2/\h'.boxes=h.boxes/\Yo 4 (A4 (l.flatMap λq=>q.2)) (A0 D3 6) h'):=by
 refine C3 rfl fr (λn fr h'=>∃(i:Nat),i+n=l.length/\A0 fr 27=.int .i64 (i:Nat)/\(h'.boxes=h.boxes/\Yo 4 (A4 ((l.take i).flatMap λq=>q.2)) (A0 fr 6) h')) ?_ l.length h ⟨0,by omega,h27,rfl,h6⟩;rintro J Φ hJ hΦ n H0 H1 K ⟨i,hi,k27,hr⟩;have B5:=K.1.trans hl;have k25:=A5 K 25 h25;have k26:=A5 K 26 h26;clear K;by_cases A7:i<l.length
 .have V9:=E6 i (by omega);obtain⟨hB,hg⟩:=hr;have hx:=H8 (f:=ZQ) (xf A7);have DG:=Uk A7;have cZ:=bW l (i+1);have hfl:=gE (l.take i);have hap:(l.take (i+1)).flatMap (λq=>q.2)=(l.take i).flatMap (λq=>q.2)++l[i].2:=by
   rw[xa A7,xc,xp,xr,xw]
  generalize hv6:A0 H0 6=v6 at hg;obtain⟨v',h2,ha,DF,hb2⟩:=eh (c:=G8 M9) (bytes:=56) (x:=ZQ l[i]) hg rfl (O4 H1 l[i].1 4 (A4 l[i].2)) (by
   rw[D7,D7,xi,xi,hfl];simp only[G5,maxLen];omega)
  rw[←ii,←hap]at DF;generalize l[i]=s at *
  simp[X3,B5,k25,k26,k27,A7,V9,hv6,hx,ha];exact O9 hJ ⟨i+1,by omega,by simp[B5],by rw[hb2];exact hB,by simpa[B5]using DF⟩
 .obtain⟨hB,hg⟩:=hr;rw[xk (by omega)]at hg;simp[X3,B5,k26,k27,A7];exact hΦ _ _ _ ⟨rfl,hB,by simpa[B5]using hg⟩
theorem kw (n:Nat) (hn:n<=1048576) (h:AH):∃v F,rc Q N3 [.vs true 0 [],.int .i64 (n:Nat)] h=some (v,⟨h.boxes,F⟩)/\Yo 4 [] v ⟨h.boxes,F⟩/\v.isTup=false/\v.cells=[v]:=by
 have hrun:∀O:Orc,(UC 4 56).run O [.vs true 0 [],.int .i64 (n:Nat)] h=My 4 56 [.vs true 0 [],.int .i64 (n:Nat)] h:=λ_=>rfl;by_cases h0:n=0
 .subst h0;refine⟨_,h.fams,JL (s:=UC 4 56) rfl rfl ((hrun _).trans ?_),.inl ⟨rfl,rfl⟩,rfl,rfl⟩;simp only[My];rw[if_pos (by decide)]
 .refine⟨_,h.fams++[⟨[],4,false⟩],JL (s:=UC 4 56) rfl rfl ((hrun _).trans ?_),.inr ⟨h.fams.length,rfl,by simp⟩,rfl,rfl⟩;simp only[My];rw[if_neg (by omega),if_pos ⟨by omega,by simp only[G5];omega,by simp only[maxLen];omega⟩];rfl
theorem US (m:J0) (l:List ML) (C2:l.length<=1048576) (hs:Iu l<=1048576):∃m',pc Q M9 [sl m 1 (l.map ZQ)]=some (sl m' 4 (A4 (l.flatMap λq=>q.2))):=by
 suffices h:∃v,pc Q M9 [sl m 1 (l.map ZQ)]=some v/\∃q:Bool×Bool,v=sl q 4 (A4 (l.flatMap λq=>q.2)) by
  obtain⟨v,h1,q,rfl⟩:=h;exact⟨q,h1⟩
 refine Ja Dg λΨ hΨ fr hl h0=>?_;simp[Dg]at hl h0;simp[Dg,hl,h0];refine C8.mono (cz m l C2 hs _ _ ?_ ?_ ?_ ?_ ?_) ?_<;>first|(simp[hl];done)|skip
 rintro e H0 h1 ⟨K,rfl,rfl,k3⟩;have M7:H0.length=36:=K.1.trans (by simp[hl]);have MB:A0 H0 0=sl m 1 (l.map ZQ):=A5 K 0 (by simp[h0]);clear K;obtain⟨v,F,hG,hg,c1,c2⟩:=kw (Iu l) hs AH.empty;simp only[AH.empty]at hG hg;simp[M7,MB,k3,hG];refine C8.mono (cy m l C2 hs _ _ ?_ ?_ ?_ ?_ ?_) ?_<;>first|(simp[M7];done)|skip
 .simpa[M7]using hg
 rintro e Cq ⟨B,F2⟩ ⟨K,rfl,hB,hg2⟩;have JS:Cq.length=36:=K.1.trans (by simp[M7]);generalize hv6:A0 Cq 6=v6 at hg2;obtain⟨d1,d2,mm,hz⟩:=WG hg2;simp[JS,hv6,hz];exact hΨ _ ⟨mm,rfl⟩
theorem JC {a b:Tm} (h:D2 a=D2 b):a.kind=b.kind/\a.name=b.name/\a.sort=b.sort/\H3 a.kids=H3 b.kids:=by
 obtain⟨k,nm,s,m,l⟩:=a;obtain⟨k',nm',s',m',l'⟩:=b;simp only[D2,Tm.mk.injEq]at h;exact⟨h.1,h.2.1,h.2.2.1,h.2.2.2.2⟩
theorem PT {U l:I1} (h:O1 U l) {x:Tm} (hx:x∈U):∃y∈l,D2 y=D2 x:=by
 obtain⟨y,hy,e⟩:=yA.1 ((h.2 (D2 x)).1 (xn hx));exact⟨y,hy,e⟩
theorem cV {l:I1} (h:∀t∈l,GoodT t):qG (alls l):=by
 intro x hx hk;rw[I9]at hx;obtain⟨y,hy,hx⟩:=xZ.1 hx;exact(h y hy).free x hx hk
theorem jC {U l:I1} (h:O1 U l) (hl:qG l):qG U:=by
 intro x hx hk;obtain⟨y,hy,e⟩:=PT h hx;obtain⟨e1,e2,-⟩:=JC e;rw[←e2];exact hl y hy (by rw[e1];exact hk)
theorem Sh:∀{l:I1},(∀t∈l,GoodT t)->Tm.sizes l<=400*l.length
 | [],_=>xq _
 |t::l,h=>by
  have h1:=(h t xo).size;have h2:=Sh λx hx=>h x (xl _ hx);simp only[Tm.sizes,List.length_cons];omega
def il (n:Nat) (U:List Tm) (m:Bool×Bool):AV:=if 60<n\/200<U.length then .tup [sl (true,false) 1 [],.int .i64 3]else .tup [sl m 4 (A4 U),.int .i64 0]
theorem Xt (m1 m2:J0) (k l:I1) (hk:∀t∈k,GoodT t) (hl:∀t∈l,GoodT t) (CF:k.length<=1048576) (hll:l.length<=1) :
  ∃(U:List Tm) (m':Bool×Bool),pc Q DT [sl m1 4 (A4 k),sl m2 4 (A4 l)]=some (il k.length U m')/\(k.length<=60->O1 U (alls (k++l))/\U.length<=24400):=by
 by_cases h60:60<k.length
 .have h60':(60:Int)<k.length:=by omega
  refine⟨[],(true,true),?_,λh=>by omega⟩;rw[il,if_pos (.inl h60)];refine R9 L3 λfr hl h0 h1=>?_;simp[L3]at hl h0 h1;simp[L3,hl,h0,h60']
 .have h60':¬(60:Int)<k.length:=by omega
  have LP:∀t∈k++l,GoodT t:=λt ht=>by
   rcases List.mem_append.1 ht with h|h
   .exact hk t h
   .exact hl t h
  have K3:=Sh LP;rw[oD]at K3;have hfl:(([(m1,k),(m2,l)]:List ML).flatMap λq=>q.2)=k++l:=by simp
  obtain⟨mc,hC⟩:=US (true,true) [(m1,k),(m2,l)] (by simp) (by
   have:Iu [(m1,k),(m2,l)]=k.length+l.length:=by unfold Iu;rw[hfl,oD]
   omega)
  rw[hfl]at hC;simp only[xX,xb,ZQ]at hC;have hR:=dl mc (k++l) (by rw[oD];omega) LP;obtain⟨U,mu,hS,ID,hUl⟩:=QQ mc (k++l) (by omega);have hUf:=jC ID (cV LP);have hsm:=gx mu U (by omega) hUf;refine⟨U,mu,?_,λ_=>⟨ID,by omega⟩⟩;unfold mB at hsm;by_cases hb:200<U.length
  .rw[if_pos hb]at hsm;rw[il,if_pos (.inr hb)];refine R9 L3 λfr hl h0 h1=>?_;simp[L3]at hl h0 h1;simp[L3,hl,h0,h1,h60',hC,hR,hS,hsm,A3]
  .rw[if_neg hb]at hsm;rw[il,if_neg (by omega)];refine R9 L3 λfr hl h0 h1=>?_;simp[L3]at hl h0 h1;simp[L3,hl,h0,h1,h60',hC,hR,hS,hsm,A3]
def QL (t:Tm):Bool:=decide (t.kind=2)&&(decide (t.sort=1)||decide (t.sort=5)||(decide (t.sort=4)&&decide (t.name=bs [103])))
theorem nL (s:H6) (h:Nx s (bs [101,35])=false):pc Q EJ [.str s,.str (bs [101,35])]=some (.tup [.str s,.bool false]):=by
 have hP:=NY s (bs [101,35]);rw[h]at hP;have hL:pc Q Bm [.str s,.str (bs [101,35])]=some (.tup [.str s,.bool false]):=by
  refine R9 Bu λfr hl h0 h1=>?_;simp[Bu]at hl h0 h1;simp[Bu,hl,h0,h1,hP]
 refine R9 EO λfr hl h0 h1=>?_;simp[EO]at hl h0 h1;simp[EO,hl,h0,h1,hL]
theorem dY (t:Tm) (hf:t.kind=3->t.name∈AD) (ho:t.kind=2->Nx t.name (bs [101,35])=false):pc Q Eo [B8 t]=some (.bool (QL t)):=by
 unfold QL;by_cases hk:t.kind=3
 .have hag:AV.agg [.int .i64 3,.str t.name,.int .i64 t.sort,sl t.cm 4 (A4 t.kids)]=B8 t:=by rw[←hk];exact Vx t
  have hI:=Pm t (true,true) [bs [122,101,114,111],bs [111,110,101]] (by decide);have e:=OC hf (l:=[bs [122,101,114,111],bs [111,110,101]]) (by decide);unfold GF at e;rw[e]at hI;simp only[GD,xX,xb]at hI;refine N0 B6 λfr hl h0=>?_;simp[B6]at hl h0;simp[B6,hl,h0,hk,hag,hI,A3]
 .by_cases hk2:t.kind=2
  .have hC:=nL t.name (ho hk2);by_cases s1:t.sort=1
   .refine N0 B6 λfr hl h0=>?_;simp[B6]at hl h0;simp[B6,hl,h0,hk2,hC,s1]
   .by_cases s5:t.sort=5
    .refine N0 B6 λfr hl h0=>?_;simp[B6]at hl h0;simp[B6,hl,h0,hk2,hC,s5]
    .by_cases s4:t.sort=4
     .by_cases hg:t.name=bs [103]
      .refine N0 B6 λfr hl h0=>?_;simp[B6]at hl h0;simp[B6,hl,h0,hk2,s4,hg];simp[hg]at hC;simp[hl,hC]
      .refine N0 B6 λfr hl h0=>?_;simp[B6]at hl h0;simp[B6,hl,h0,hk2,hC,s4,hg]
     .by_cases s0:t.sort=0
      .refine N0 B6 λfr hl h0=>?_;simp[B6]at hl h0;simp[B6,hl,h0,hk2,hC,s0]
      .by_cases s2:t.sort=2
       .refine N0 B6 λfr hl h0=>?_;simp[B6]at hl h0;simp[B6,hl,h0,hk2,hC,s2]
       .by_cases s3:t.sort=3
        .refine N0 B6 λfr hl h0=>?_;simp[B6]at hl h0;simp[B6,hl,h0,hk2,hC,s3]
        .refine N0 B6 λfr hl h0=>?_;simp[B6]at hl h0;simp[B6,hl,h0,hk2,hC,s1,s5,s4,s0,s2,s3]
  .refine N0 B6 λfr hl h0=>?_;simp[B6]at hl h0;simp[B6,hl,h0,hk,hk2]
structure OkT (t:Tm):Prop where
 free:ef t
 valid:vE t=0
 own:∀x∈EH t,x.kind=2->Nx x.name (bs [101,35])=false
theorem GoodT.ok {t:Tm} (h:GoodT t):OkT t:=⟨h.free,h.valid,h.own⟩
theorem OkT.size {t:Tm} (h:OkT t):t.size<=400:=(Hk (Eb h.valid).1).2
theorem OkT.nm {t:Tm} (h:OkT t):t.kind=3->t.name∈AD:=h.free.name
theorem OkT.ow {t:Tm} (h:OkT t):t.kind=2->Nx t.name (bs [101,35])=false:=h.own t (by rw[AY];exact xo)
mutual
theorem RL:∀t:Tm,EH (D2 t)=(EH t).map D2
 | .mk k nm s m l=>by rw[D2,EH,EH,xX,D2,Ql l]
theorem Ql:∀l:List Tm,alls (H3 l)=(alls l).map D2
 | []=>rfl
 |t::l=>by rw[H3,alls,alls,List.map_append,RL t,Ql l]
end
theorem fC:∀l:List Tm,(H3 l).any JI=l.any JI
 | []=>rfl
 | .mk k nm s m l::l'=>by
  rw[H3,xd,xd,fC l'];rfl
theorem ew (nm:H6) (l:I1):WB nm (H3 l)=WB nm l:=by
 unfold WB;rw[fC];cases l with
 |nil=>rfl
 |cons a l=>cases a;rfl
mutual
theorem lh:∀t:Tm,RF (D2 t)=RF t
 | .mk k nm s m l=>by rw[D2,RF,RF,bZ l,ew,E4,xi]
theorem bZ:∀l:List Tm,LZ (H3 l)=LZ l
 | []=>rfl
 |t::l=>by rw[H3,LZ,LZ,lh t,bZ l]
end
theorem tZ {a b:Tm} (h:D2 a=D2 b):vE a=vE b:=by
 have:∀t,vE t=vE (D2 t):=λt=>by unfold vE;rw[Ss,lh]
 rw[this a,h,←this b]
theorem Uv {a b:Tm} (h:D2 a=D2 b) {x:Tm} (hx:x∈EH a):∃y∈EH b,D2 y=D2 x:=by
 have h1:D2 x∈(EH b).map D2:=by
  rw[←RL,←h,RL];exact xn hx
 obtain⟨y,hy,e⟩:=yA.1 h1;exact⟨y,hy,e⟩
theorem OkT.er {a b:Tm} (h:OkT a) (e:D2 b=D2 a):OkT b where
 free:=by
  intro x hx hk;obtain⟨y,hy,e1⟩:=Uv e hx;obtain⟨e2,e3,-⟩:=JC e1;rw[←e3];exact h.free y hy (by rw[e2];exact hk)
 valid:=by rw[tZ e];exact h.valid
 own:=by
  intro x hx hk;obtain⟨y,hy,e1⟩:=Uv e hx;obtain⟨e2,e3,-⟩:=JC e1;rw[←e3];exact h.own y hy (by rw[e2];exact hk)
theorem Ya:∀{l:I1},LZ l=0->∀t∈l,RF t=0
 |t::l,h,x,hx=>by
  rw[Ul]at h;by_cases ht:RF t=0
  .rw[if_neg (by simp[ht])]at h;rcases xm.1 hx with rfl|hx
   .exact ht
   .exact Ya h x hx
  .rw[if_pos ht]at h;exact absurd h ht
theorem So {t:Tm} (h:RF t=0) (hk:t.kind=3):Kd t.name t.kids.length=true/\LZ t.kids=0:=by
 obtain⟨k,nm,s,m,l⟩:=t;have hk:k=3:=hk;rw[bY hk]at h;by_cases h1:JE nm=0
 .rw[if_pos h1]at h;exact absurd h (by decide)
 rw[if_neg h1]at h;by_cases h2:Kd nm l.length=false
 .rw[if_pos h2]at h;exact absurd h (by decide)
 rw[if_neg h2]at h;by_cases h3:WB nm l=0
 .rw[if_neg (by simp[h3])]at h;have h3:Kd nm l.length=true:=by simpa using h2
  exact⟨h3,h⟩
 .rw[if_pos h3]at h;exact absurd h h3
theorem jY {t x:Tm} (h:x∈t.kids):Ip x<Ip t:=by
 obtain⟨k,nm,s,m,l⟩:=t;have:∀l:List Tm,x∈l->Ip x<=Hb l:=by
  intro l
  induction l with
  |nil=>intro h;exact absurd h xu
  |cons a l ih =>
   intro h;rw[Hb];rcases xm.1 h with rfl|h
   .exact Nat.le_max_left _ _
   .exact Nat.le_trans (ih h) (Nat.le_max_right _ _)
 have:=this l h;rw[Ip];omega
theorem Su {t:Tm}:S6 t=0↔L0 t=0/\t.size<=400/\Ip t<=40:=by
 unfold S6;by_cases h:L0 t=0
 .rw[if_neg (by simp[h])];by_cases h2:400<t.size\/40<Ip t
  .rw[if_pos h2];exact⟨λh=>absurd h (by decide),λ⟨_,a,b⟩=>by omega⟩
  .rw[if_neg h2];exact⟨λ_=>⟨h,by omega,by omega⟩,λ_=>rfl⟩
 .rw[if_pos h];exact⟨λk=>absurd k h,λk=>absurd k.1 h⟩
theorem jt {t x:Tm} (h:L0 t=0) (hx:x∈t.kids):t.kind=3:=by
 obtain⟨k,nm,s,m,l⟩:=t;obtain⟨h1,-⟩:=CP h;obtain⟨-,h2,h3,-⟩:=IM h1;have hl:l.length≠0:=by
  intro e;have:l=[]:=List.eq_nil_of_length_eq_zero e;subst this;exact absurd hx xu
 show k=3;rcases h3 with h|h|h
 .exact absurd (h2 (.inl h)) hl
 .exact absurd (h2 (.inr h)) hl
 .exact h
theorem OkT.kid {t x:Tm} (h:OkT t) (hx:x∈t.kids):OkT x where
 free:=h.free.kid hx
 valid:=by
  obtain⟨h1,h2⟩:=Eb h.valid;obtain⟨h3,h4,h5⟩:=Su.1 h1;have hk:=jt h3 hx;have hs:=t.kids_size;have hs2:=Tm.size_le hx;have hd:=jY hx;have hn:L0 x=0:=by
   obtain⟨k,nm,s,m,l⟩:=t;exact BJ (CP h3).2 x hx
  have hv:S6 x=0:=Su.2 ⟨hn,by omega,by omega⟩;unfold vE;rw[if_neg (by simp[hv])];exact Ya (So h2 hk).2 x hx
 own:=λy hy=>h.own y (by
  rw[AY,I9];exact xl _ (xZ.2 ⟨x,hx,hy⟩))
theorem OkT.all:∀(n:Nat) (t:Tm),t.size<=n->OkT t->∀x∈EH t,OkT x:=by
 intro n
 induction n with
 |zero=>intro t h;have:=t.size_pos;omega
 |succ n ih =>
  intro t hn h x hx;have hs:=t.kids_size;rw[AY,I9]at hx;rcases xm.1 hx with rfl|hx
  .exact h
  .obtain⟨y,hy,hx⟩:=xZ.1 hx;have:=Tm.size_le hy;exact ih y (by omega) (h.kid hy) x hx
theorem OkT.alls {l:I1} (h:∀t∈l,OkT t):∀x∈alls l,OkT x:=by
 intro x hx;rw[I9]at hx;obtain⟨y,hy,hx⟩:=xZ.1 hx;exact OkT.all _ y (xq _) (h y hy) x hx
theorem OkT.set {U l:I1} (h:O1 U l) (hl:∀x∈l,OkT x):∀x∈U,OkT x:=by
 intro x hx;obtain⟨y,hy,e⟩:=PT h hx;exact(hl y hy).er e.symm
theorem fa {n:Nat} {nm:H6} (hn:nm=bs [112,97,105,114]\/nm=bs [101,110,99]\/nm=bs [97,101,110,99]\/nm=bs [115,105,103,110]\/nm=bs [115,104,107]) (h:Kd nm n=true):n=2:=by
 have e:(LY nm).2.1=2/\(LY nm).2.2.1=2:=by
  rcases hn with rfl|rfl|rfl|rfl|rfl<;>decide
 simp only[Kd,e.1,e.2,xY,decide_eq_true_eq]at h;omega
theorem fZ {n:Nat} {nm:H6} (hn:nm=bs [112,107]\/nm=bs [104,97,115,104]\/nm=bs [115,107]) (h:Kd nm n=true):n=1:=by
 have e:(LY nm).2.1=1/\(LY nm).2.2.1=1:=by
  rcases hn with rfl|rfl|rfl<;>decide
 simp only[Kd,e.1,e.2,xY,decide_eq_true_eq]at h;omega
theorem OkT.two {t:Tm} (h:OkT t) (hk:t.kind=3) (hn:t.name=bs [112,97,105,114]\/t.name=bs [101,110,99]\/t.name=bs [97,101,110,99]\/t.name=bs [115,105,103,110]\/t.name=bs [115,104,107]):∃a b,t.kids=[a,b]:=by
 have h2:=fa hn (So (Eb h.valid).2 hk).1
 match t.kids,h2 with
 | [a,b],_=>exact⟨a,b,rfl⟩
theorem OkT.one {t:Tm} (h:OkT t) (hk:t.kind=3) (hn:t.name=bs [112,107]\/t.name=bs [104,97,115,104]\/t.name=bs [115,107]):∃a,t.kids=[a]:=by
 have h2:=fZ hn (So (Eb h.valid).2 hk).1
 match t.kids,h2 with
 | [a],_=>exact⟨a,rfl⟩
def CI (t:Tm) (nm:ByteArray):Bool:=decide (t.kind=3)&&decide (t.name=nm)
def M3 (t:Tm) (i:Nat):Tm:=t.kids.getD i Yl
def NO (t:Tm):Option Tm:=if CI t (bs [101,110,99])then some (M3 t 1)else if CI t (bs [97,101,110,99])&&CI (M3 t 1) (bs [112,107])then some (M3 (M3 t 1) 0)else none
theorem JD {t:Tm} {nm:H6}:CI t nm=true↔t.kind=3/\t.name=nm:=by simp[CI]
theorem Vk (t:Tm) (nm:H6):pc Q FJ [B8 t,.str nm]=some (.bool (CI t nm)):=Xr t nm
theorem Gr {t:Tm} (h:OkT t) {nm:H6} (hi:CI t nm=true) (hn:nm=bs [112,97,105,114]\/nm=bs [101,110,99]\/nm=bs [97,101,110,99]\/nm=bs [115,105,103,110]\/nm=bs [115,104,107]):∃a b,t.kids=[a,b]:=by
 obtain⟨h1,h2⟩:=JD.1 hi;subst h2;exact h.two h1 hn
theorem nM (t:Tm) (h:OkT t) (hi:CI t (bs [101,110,99])=true\/CI t (bs [97,101,110,99])=true) :
  (∃k k',NO t=some k/\D2 k'=D2 k/\pc Q Ho [B8 t]=some (.tup [B8 k',.int .i64 0]))\/(NO t=none/\pc Q Ho [B8 t]=some (.tup [B8 Yl,.int .i64 4])):=by
 have hV:=IQ t (by have:=h.size;omega);rw[h.valid]at hV;have hE:=Vk t (bs [101,110,99]);have hA:=Vk t (bs [97,101,110,99]);obtain⟨a,b,hk⟩:∃a b,t.kids=[a,b]:=by
  rcases hi with hi|hi
  .exact Gr h hi (.inr (.inl rfl))
  .exact Gr h hi (.inr (.inr (.inl rfl)))
 have hb:OkT b:=h.kid (by rw[hk];simp);have hs:=h.size;have K3:=t.kids_size;rw[hk]at K3;simp only[Tm.sizes]at K3;have hx0:Ir (A4 t.kids) 0=some (B8 a):=by rw[hk];rfl
 have hx1:Ir (A4 t.kids) 1=some (B8 b):=by rw[hk];rfl
 have hk1:M3 t 1=b:=by simp[M3,hk]
 by_cases he:CI t (bs [101,110,99])=true
 .obtain⟨b',hC,he2⟩:=UU b (by omega);refine .inl ⟨b,b',by rw[NO,if_pos he,hk1],he2,?_⟩;rw[he]at hE;refine N0 x7 λfr hl h0=>?_;simp[x7]at hl h0;simp[x7,hl,h0,hV,hE,hx1,hC]
 .have ha:CI t (bs [97,101,110,99])=true:=hi.resolve_left he;have he':CI t (bs [101,110,99])=false:=by simpa using he
  rw[he']at hE;rw[ha]at hA;have hP:=Vk b (bs [112,107]);by_cases hp:CI b (bs [112,107])=true
  .obtain⟨p1,p2⟩:=JD.1 hp;obtain⟨c,hc⟩:=hb.one p1 (by rw[p2];exact .inl rfl);have hsz2:=b.kids_size;rw[hc]at hsz2;simp only[Tm.sizes]at hsz2;have hy0:Ir (A4 b.kids) 0=some (B8 c):=by rw[hc];rfl
   have hk0:M3 b 0=c:=by simp[M3,hc]
   obtain⟨c',hC,he2⟩:=UU c (by omega);refine .inl ⟨c,c',by rw[NO,if_neg he,if_pos (by rw[ha,hk1,hp];rfl),hk1,hk0],he2,?_⟩;rw[hp]at hP;refine N0 x7 λfr hl h0=>?_;simp[x7]at hl h0;simp[x7,hl,h0,hV,hE,hA,hx1,hP,hy0,hC]
  .have hp':CI b (bs [112,107])=false:=by simpa using hp
   refine .inr ⟨by rw[NO,if_neg he,if_neg (by rw[hk1,hp'];simp)],?_⟩;rw[hp']at hP;refine N0 x7 λfr hl h0=>?_;simp[x7]at hl h0;simp[x7,hl,h0,hV,hE,hA,hx1,hP,D0,E7];rfl
theorem MP (a b:Tm) (h:a.size<=1099511627776) (h':b.size<=1099511627776):pc Q Z0 [B8 a,B8 b]=some (.bool (HN a b)):=by
 have hC:=Z3 _ a b (xq _) h h';refine R9 Gf λfr hl h0 h1=>?_;simp[Gf]at hl h0 h1;simp[Gf,hl,h0,h1,hC,HN]
@[simp] theorem vO (h:AH) (am:Bool) (cs:E5):frz h am (.pv cs)=some (.pv cs):=rfl
@[simp] theorem uN (h:AH) (am:Bool) (g:FuncId) (caps:E5):frz h am (.fn g caps)=if caps.all AV.flat=true then some (.fn g caps)else none:=rfl
@[simp] theorem tQ (h:AH) (g:FuncId) (caps:E5):tame h (.fn g caps)=true:=rfl
@[simp] theorem ux (h:AH) (cs:E5):tame h (.pv cs)=true:=rfl
@[simp] theorem qz (k:IntKind) (i:Int):AV.flat (.int k i)=true:=rfl
@[simp] theorem rA (s:H6):AV.flat (.str s)=true:=rfl
@[simp] theorem uJ (cs:E5):AV.flat (.pv cs)=true:=rfl
theorem XM (m:J0) (l:I1) (g:FuncId) (caps:E5) (p:Tm->Bool) (hg:C4 g=false) (C2:l.length<=1048576) (hfl:∀(h:AH) (x:Tm),f7 h true (B8 x::caps)=some (B8 x::caps)) (htm:∀h:AH,caps.all (tame h)=true) (hp:∀x∈l,pc Q g (B8 x::caps)=some (.bool (p x))) (fr:Fr) (h:AH) (hl:fr.length=19) (h0:A0 fr 0=sl m 4 (A4 l)) (h1:A0 fr 1=.fn g caps) (h7:A0 fr 7=.int .i64 l.length) (h8:A0 fr 8=.int .i64 0) :
  C8 (lp (A1 (Q8 Q) (G8 U7) N2) (fr,h)) λe D3 h'=>Kp N2.wr fr D3/\(e=.exit 0/\idx p l=-1\/e=.ret/\A0 D3 4=.int .i64 (idx p l)):=by
 refine C3 rfl fr (λn fr h'=>∃(i:Nat),i+n=l.length/\A0 fr 8=.int .i64 (i:Nat)/\R7 p i (l.drop i)=idx p l) ?_ l.length h ⟨0,by omega,h8,rfl⟩;rintro J Φ hJ hΦ n H0 H1 K ⟨i,hi,k8,hr⟩;have B5:=K.1.trans hl;have k0:=A5 K 0 h0;have k1:=A5 K 1 h1;have k7:=A5 K 7 h7;clear K;by_cases A7:i<l.length
 .have V9:=E6 i (by omega);have hx:=U2 A7;have hP:=hp l[i] (xt A7);have hF:=λh=>hfl h l[i];rw[xe A7]at hr;simp only[R7]at hr;generalize l[i]=s at *
  by_cases hc:p s=true
  .rw[if_pos hc]at hr;rw[hc]at hP;simp[N2,B5,k0,k1,k7,k8,A7,hx,hP,hF,htm,hg];exact hΦ _ _ _ (.inr ⟨rfl,by simp[B5,hr]⟩)
  .have hc':p s=false:=by simpa using hc
   rw[if_neg hc]at hr;rw[hc']at hP;simp[N2,B5,k0,k1,k7,k8,A7,V9,hx,hP,hF,htm,hg];exact O9 hJ ⟨i+1,by omega,by simp[B5],hr⟩
 .rw[xj (by omega)]at hr;simp[N2,B5,k7,k8,A7];exact hΦ _ _ _ (.inl ⟨rfl,hr.symm⟩)
theorem Ot (m:J0) (l:I1) (g:FuncId) (caps:E5) (p:Tm->Bool) (hg:C4 g=false) (C2:l.length<=1048576)
  (hfl:∀(h:AH) (x:Tm),f7 h true (B8 x::caps)=some (B8 x::caps)) (htm:∀h:AH,caps.all (tame h)=true) (hca:caps.all AV.flat=true) (hp:∀x∈l,pc Q g (B8 x::caps)=some (.bool (p x))) :
  pc Q W6 [sl m 4 (A4 l),.fn g caps]=some (.bool (l.any p)):=by
 have hI:pc Q U7 [sl m 4 (A4 l),.fn g caps]=some (.int .i64 (idx p l)):=by
  refine R9 Bt λfr hl h0 h1=>?_;simp[Bt]at hl h0 h1;simp[Bt,hl,h0];refine C8.mono (XM m l g caps p hg C2 hfl htm hp _ _ ?_ ?_ ?_ ?_ ?_) ?_<;>first|(simp[hl,h0,h1];done)|skip
  rintro e H0 Jp ⟨K,⟨rfl,he⟩|⟨rfl,k4⟩⟩
  .have B5:H0.length=19:=K.1.trans (by simp[hl]);simp[B5,he]
  .simp[k4]
 have he:decide (0<=idx p l)=l.any p:=by
  rw[xh,decide_eq_true_iff,idx,CH]
 refine R9 AU λfr hl h0 h1=>?_;simp[AU]at hl h0 h1;simp[AU,hl,h0,h1,hI,hca];exact he
theorem XL (m:J0) (l:I1) (g:FuncId) (caps:E5) (p:Tm->Bool) (hg:C4 g=false) (C2:l.length<=1048576) (hfl:∀(h:AH) (x:Tm),f7 h true (B8 x::caps)=some (B8 x::caps)) (htm:∀h:AH,caps.all (tame h)=true) (hp:∀x∈l,pc Q g (B8 x::caps)=some (.bool (p x))) (fr:Fr) (h:AH) (hl:fr.length=19) (h0:A0 fr 0=sl m 4 (A4 l)) (h1:A0 fr 1=.fn g caps) (h7:A0 fr 7=.int .i64 l.length) (h8:A0 fr 8=.int .i64 0) :
  C8 (lp (A1 (Q8 Q) (G8 O2) K2) (fr,h)) λe D3 h'=>Kp K2.wr fr D3/\(e=.exit 0/\idx p l=-1\/e=.ret/\A0 D3 4=.int .i64 (idx p l)):=by
 refine C3 rfl fr (λn fr h'=>∃(i:Nat),i+n=l.length/\A0 fr 8=.int .i64 (i:Nat)/\R7 p i (l.drop i)=idx p l) ?_ l.length h ⟨0,by omega,h8,rfl⟩;rintro J Φ hJ hΦ n H0 H1 K ⟨i,hi,k8,hr⟩;have B5:=K.1.trans hl;have k0:=A5 K 0 h0;have k1:=A5 K 1 h1;have k7:=A5 K 7 h7;clear K;by_cases A7:i<l.length
 .have V9:=E6 i (by omega);have hx:=U2 A7;have hP:=hp l[i] (xt A7);have hF:=λh=>hfl h l[i];rw[xe A7]at hr;simp only[R7]at hr;generalize l[i]=s at *
  by_cases hc:p s=true
  .rw[if_pos hc]at hr;rw[hc]at hP;simp[K2,B5,k0,k1,k7,k8,A7,hx,hP,hF,htm,hg];exact hΦ _ _ _ (.inr ⟨rfl,by simp[B5,hr]⟩)
  .have hc':p s=false:=by simpa using hc
   rw[if_neg hc]at hr;rw[hc']at hP;simp[K2,B5,k0,k1,k7,k8,A7,V9,hx,hP,hF,htm,hg];exact O9 hJ ⟨i+1,by omega,by simp[B5],hr⟩
 .rw[xj (by omega)]at hr;simp[K2,B5,k7,k8,A7];exact hΦ _ _ _ (.inl ⟨rfl,hr.symm⟩)
theorem Oq (m:J0) (l:I1) (g:FuncId) (caps:E5) (p:Tm->Bool) (hg:C4 g=false) (C2:l.length<=1048576)
  (hfl:∀(h:AH) (x:Tm),f7 h true (B8 x::caps)=some (B8 x::caps)) (htm:∀h:AH,caps.all (tame h)=true) (hca:caps.all AV.flat=true) (hp:∀x∈l,pc Q g (B8 x::caps)=some (.bool (p x))) :
  pc Q Q4 [sl m 4 (A4 l),.fn g caps]=some (.bool (l.any p)):=by
 have hI:pc Q O2 [sl m 4 (A4 l),.fn g caps]=some (.int .i64 (idx p l)):=by
  refine R9 x6 λfr hl h0 h1=>?_;simp[x6]at hl h0 h1;simp[x6,hl,h0];refine C8.mono (XL m l g caps p hg C2 hfl htm hp _ _ ?_ ?_ ?_ ?_ ?_) ?_<;>first|(simp[hl,h0,h1];done)|skip
  rintro e H0 Jp ⟨K,⟨rfl,he⟩|⟨rfl,k4⟩⟩
  .have B5:H0.length=19:=K.1.trans (by simp[hl]);simp[B5,he]
  .simp[k4]
 have he:decide (0<=idx p l)=l.any p:=by
  rw[xh,decide_eq_true_iff,idx,CH]
 refine R9 Z9 λfr hl h0 h1=>?_;simp[Z9]at hl h0 h1;simp[Z9,hl,h0,h1,hI,hca];exact he
def YP:List ByteArray:=[bs [112,97,105,114],bs [101,110,99],bs [97,101,110,99],bs [112,107],bs [115,105,103,110],bs [104,97,115,104]]
def Cn (S:List Tm) (u:Tm):Bool:=GF u YP&&u.kids.all (P3 S)
theorem Vg (m:J0) (S:I1) (hS:d9 S) (C2:S.length<=1048576) (hs:∀x∈S,x.size<=1099511627776) (x:Tm) (hx:x.size<=1099511627776) :
  pc Q W2 [B8 x,.pv [sl m 4 (A4 S)]]=some (.bool (!P3 S x)):=by
 have hH:=GX m S x hS (by omega) hs hx;refine R9 AP λfr hl h0 h1=>?_;simp[AP]at hl h0 h1;simp[AP,hl,h0,h1,hH]
theorem Xg (m:J0) (S:I1) (hS:d9 S) (C2:S.length<=1048576) (hs:∀x∈S,x.size<=1099511627776) (u:Tm) (hu:u.size<=1048576) :
  pc Q S3 [sl m 4 (A4 S),B8 u]=some (.bool (Cn S u)):=by
 have K3:=u.kids_size;have CF:=Tm.length_le u.kids;have hI:=Pm u (true,true) YP (by decide);simp only[GD,YP,xX,xb]at hI;change pc Q H7 _=some (.bool (GF u YP))at hI;have hC:=Ot u.cm u.kids W2 [.pv [sl m 4 (A4 S)]] (λx=>!P3 S x) rfl (by omega) (λh x=>by simp) (λh=>rfl) rfl
  (λx hx=>Vg m S hS C2 hs x (by have:=Tm.size_le hx;omega))
 have he:(!(u.kids.any λx=>!P3 S x))=u.kids.all (P3 S):=by simp[List.all_eq_not_any_not]
 unfold Cn;rw[←he];generalize u.kids.any (λx=>!P3 S x)=b at *
 generalize GF u YP=c at *
 cases c with
 |false =>
  refine R9 N8 λfr hl h0 h1=>?_;simp[N8]at hl h0 h1;simp[N8,hl,h0,h1,hI,A3]
 |true =>
  refine R9 N8 λfr hl h0 h1=>?_;simp[N8]at hl h0 h1;simp[N8,hl,h0,h1,hI,A3,hC,Ai]
def IP (S:List Tm) (u t:Tm):Bool :=
 if CI t (bs [112,97,105,114])then HN (M3 t 0) u||HN (M3 t 1) u
 else if CI t (bs [115,105,103,110])then HN (M3 t 0) u
 else match NO t with
  |some k=>HN (M3 t 0) u&&P3 S k
  |none=>false
def Hs (S:List Tm) (u:Tm):Bool:=S.any (IP S u)
theorem ZH (t:Tm) (nm:H6):GF t [nm]=CI t nm:=by
 unfold GF CI;simp only[xd,xz,xy];congr 1;rw[xh,Dm,decide_eq_true_iff]
theorem md (t:Tm) (a b:H6):GF t [a,b]=(CI t a||CI t b):=by
 rw[←ZH,←ZH];unfold GF;simp only[xd,xz,xy];cases decide (t.kind=3)<;>simp
theorem MO (t:Tm) (nm:H6):pc Q H7 [B8 t,sl (true,true) 1 [.str nm]]=some (.bool (CI t nm)):=by
 have hI:=Pm t (true,true) [nm] (by simp);change pc Q H7 _=some (.bool (GF t [nm]))at hI;rw[ZH]at hI;simpa only[GD,xX,xb]using hI
theorem gq (t:Tm) (a b:H6):pc Q H7 [B8 t,sl (true,true) 1 [.str a,.str b]]=some (.bool (CI t a||CI t b)):=by
 have hI:=Pm t (true,true) [a,b] (by simp);change pc Q H7 _=some (.bool (GF t [a,b]))at hI;rw[md]at hI;simpa only[GD,xX,xb]using hI
theorem Zb (m:J0) (S:I1) (hS:d9 S) (C2:S.length<=1048576) (hs:∀x∈S,x.size<=1099511627776) (u t:Tm) (hu:u.size<=1048576) (ht:OkT t) :
  pc Q b8 [B8 t,.pv (B8 u).cells,.pv [sl m 4 (A4 S)]]=some (.bool (IP S u t)):=by
 have hP:=MO t (bs [112,97,105,114]);have hG:=MO t (bs [115,105,103,110]);have hE:=gq t (bs [101,110,99]) (bs [97,101,110,99]);have hts:=ht.size;have K3:=t.kids_size;unfold IP;by_cases hp:CI t (bs [112,97,105,114])=true
 .obtain⟨a,b,hk⟩:=Gr ht hp (.inl rfl);rw[hk]at K3;simp only[Tm.sizes]at K3;have hx0:Ir (A4 t.kids) 0=some (B8 a):=by rw[hk];rfl
  have hx1:Ir (A4 t.kids) 1=some (B8 b):=by rw[hk];rfl
  have e0:M3 t 0=a:=by simp[M3,hk]
  have e1:M3 t 1=b:=by simp[M3,hk]
  have q0:=MP a u (by omega) (by omega);have q1:=MP b u (by omega) (by omega);rw[if_pos hp,e0,e1];rw[hp]at hP;generalize HN a u=c0 at *
  generalize HN b u=c1 at *
  cases c0 with
  |true =>
   refine JZ B7 λfr hl h0 h1 h2=>?_;simp[B7]at hl h0 h1 h2;simp[B7,hl,h0,h1,hP,hx0,q0,A3]
  |false =>
   refine JZ B7 λfr hl h0 h1 h2=>?_;simp[B7]at hl h0 h1 h2;simp[B7,hl,h0,h1,hP,hx0,hx1,q0,q1,A3]
 .have hp':CI t (bs [112,97,105,114])=false:=by simpa using hp
  rw[if_neg hp];rw[hp']at hP;by_cases hg:CI t (bs [115,105,103,110])=true
  .obtain⟨a,b,hk⟩:=Gr ht hg (.inr (.inr (.inr (.inl rfl))));rw[hk]at K3;simp only[Tm.sizes]at K3;have hx0:Ir (A4 t.kids) 0=some (B8 a):=by rw[hk];rfl
   have e0:M3 t 0=a:=by simp[M3,hk]
   have q0:=MP a u (by omega) (by omega);rw[if_pos hg,e0];rw[hg]at hG;refine JZ B7 λfr hl h0 h1 h2=>?_;simp[B7]at hl h0 h1 h2;simp[B7,hl,h0,h1,hP,hG,hx0,q0,A3]
  .have DF:CI t (bs [115,105,103,110])=false:=by simpa using hg
   rw[if_neg hg];rw[DF]at hG;by_cases he:CI t (bs [101,110,99])=true\/CI t (bs [97,101,110,99])=true
   .obtain⟨a,b,hk⟩:∃a b,t.kids=[a,b]:=by
     rcases he with he|he
     .exact Gr ht he (.inr (.inl rfl))
     .exact Gr ht he (.inr (.inr (.inl rfl)))
    rw[hk]at K3;simp only[Tm.sizes]at K3;have hx0:Ir (A4 t.kids) 0=some (B8 a):=by rw[hk];rfl
    have e0:M3 t 0=a:=by simp[M3,hk]
    have q0:=MP a u (by omega) (by omega);have heE:(CI t (bs [101,110,99])||CI t (bs [97,101,110,99]))=true:=by simpa using he
    rw[heE]at hE;rcases nM t ht he with ⟨k,k',hk1,hk2,hK⟩|⟨hk1,hK⟩
    .have hkz:k'.size<=1099511627776:=by
      rw[Sg hk2];have:k.size<=t.size:=by
       unfold NO at hk1;have hb1:M3 t 1=b:=by simp[M3,hk]
       by_cases q1:CI t (bs [101,110,99])=true
       .rw[if_pos q1,hb1]at hk1;cases hk1;omega
       .rw[if_neg q1,hb1]at hk1;by_cases q2:(CI t (bs [97,101,110,99])&&CI b (bs [112,107]))=true
        .rw[if_pos q2]at hk1;cases hk1;have hb:OkT b:=ht.kid (by rw[hk];simp);rw[xY]at q2;obtain⟨p1,p2⟩:=JD.1 q2.2;obtain⟨c,hc⟩:=hb.one p1 (by rw[p2];exact .inl rfl);have hsz2:=b.kids_size;rw[hc]at hsz2;simp only[Tm.sizes]at hsz2;have:M3 b 0=c:=by simp[M3,hc]
         rw[this];omega
        .rw[if_neg q2]at hk1;cases hk1
      omega
     have hH:=GX m S k' hS (by omega) hs hkz;rw[Qr hk2]at hH;rw[hk1,e0];generalize HN a u=c0 at *
     cases c0 with
     |true =>
      refine JZ B7 λfr hl h0 h1 h2=>?_;simp[B7]at hl h0 h1 h2;simp[B7,hl,h0,h1,h2,hP,hG,hE,hx0,q0,hK,hH,A3]
     |false =>
      refine JZ B7 λfr hl h0 h1 h2=>?_;simp[B7]at hl h0 h1 h2;simp[B7,hl,h0,h1,hP,hG,hE,hx0,q0,hK,A3]
    .rw[hk1];refine JZ B7 λfr hl h0 h1 h2=>?_;simp[B7]at hl h0 h1 h2;simp[B7,hl,h0,hP,hG,hE,hK,A3]
   .have heE:(CI t (bs [101,110,99])||CI t (bs [97,101,110,99]))=false:=by
     rw[Bool.eq_false_iff,ne_eq,Bool.or_eq_true];exact he
    rw[heE]at hE;have hkn:NO t=none:=by
     unfold NO;rw[if_neg (λh=>he (.inl h)),if_neg];rw[xY];exact λh=>he (.inr h.1)
    rw[hkn];refine JZ B7 λfr hl h0 h1 h2=>?_;simp[B7]at hl h0 h1 h2;simp[B7,hl,h0,hP,hG,hE,A3]
theorem dh (m:J0) (S:I1) (hS:d9 S) (C2:S.length<=1048576) (hs:∀x∈S,OkT x) (u:Tm) (hu:u.size<=1048576) :
  pc Q W3 [sl m 4 (A4 S),B8 u]=some (.bool (Hs S u)):=by
 have hs2:∀x∈S,x.size<=1099511627776:=λx hx=>by have:=(hs x hx).size;omega
 have hC:=Oq m S b8 [.pv (B8 u).cells,.pv [sl m 4 (A4 S)]] (IP S u) rfl C2 (λh x=>by simp) (λh=>rfl) rfl
  (λx hx=>Zb m S hS C2 hs2 u x hu (hs x hx))
 rw[show S.any (IP S u)=Hs S u from rfl]at hC;simp only[H4]at hC;refine R9 CR λfr hl h0 h1=>?_;simp[CR]at hl h0 h1;simp[CR,hl,h0,h1,hC,Ai]
end Go.Abs.Q
