/- A part of the proof. -/
import Derived.Test.YtohjdamplbhdpaaGreatDoorSG24
set_option linter.all false
open List renaming getElem?_append_left->xk,getElem_mem->xl,mem_singleton->xm,nil_append->xn,length_singleton->xo,replicate->xp,map_cons->xq,map_nil->xr,append_assoc->xt,cons_append->xw,length_map->xy,map_append->xz
open Nat renaming le_refl->xu
namespace Go.Abs.Q
open Go.Proofs
attribute [local simp] D0 D1 fin I1 E7 K8 I3 N6 P4
@[simp] theorem my (k:IntKind) (i:Int) (cs:E6):(AV.int k i).reform cs=cs.head?:=rfl
@[simp] theorem lY (b:Bool) (cs:E6):(AV.bool b).reform cs=cs.head?:=rfl
theorem bS (m:I8) (u:Tm) (hu:u.size<=1048576):pc Q I0 [sl m 4 [B8 u],B8 u,.fn A8 []]=some (.tup [.int .i64 0,.bool true]):=by
 obtain⟨i,hi,g1,-,hB⟩:=nV m [u] u (List.pairwise_singleton _ _) (by simp) (by simp;omega) (by omega);have hi0:i=0:=by
  rcases Nat.eq_zero_or_pos i with h|h
  .exact h
  .have:=g1 0 (by simp) h;simp[KF]at this
 subst hi0;have hh:P2 [u] u=true:=by simp[P2,GW,KF]
 rw[hh]at hB;exact hB
theorem Xy (m m2:I8) (u:Tm) (hu:u.size<=1048576):∃m',pc Q t7 [sl m 4 [B8 u],sl m2 5 [JU u 1]]=some (sl m' 1 [.int .i64 1]):=by
 have h01:IntKind.i64.wrap 1=1:=by decide
 have hr:G4=140737488355328:=rfl;have hm:maxLen=9223372036854775807:=rfl;have hB:=bS m u hu
 suffices h:∃v,pc Q t7 [sl m 4 [B8 u],sl m2 5 [JU u 1]]=some v/\∃q:Bool×Bool,v=sl q 1 [.int .i64 1] by
  obtain⟨v,h1,q,rfl⟩:=h;exact⟨q,h1⟩
 refine Ta EL λΨ hΨ fr hl h0 h1=>?_;simp[EL]at hl h0 h1;simp[EL,hl,h0,h1,hr,hm];refine J4 ?_;simp[GS,hl,h0,hB,h01];refine J4 ?_;simp[hl];exact hΨ _ ⟨(false,true),rfl⟩
theorem Zx (m:I8) (u:Tm) (xs:List Fam) (B C:List (List AV)) (p:AV) :
  rc Q J9 [.ptr B.length 0,.int .i64 0] ⟨B++[sl m 4 [B8 u],.vs true 0 [],p,.bool false]::C,xs⟩=some (A9,⟨B++[sl m 4 [B8 u],.vs true 0 [],p,.bool false]::C,xs⟩):=by
 suffices hq:∃v h',rc Q J9 [.ptr B.length 0,.int .i64 0] ⟨B++[sl m 4 [B8 u],.vs true 0 [],p,.bool false]::C,xs⟩=some (v,h')/\(v=A9/\h'=⟨B++[sl m 4 [B8 u],.vs true 0 [],p,.bool false]::C,xs⟩) by
  obtain⟨v,h',h1,rfl,rfl⟩:=hq;exact h1
 have hb:(B++[sl m 4 [B8 u],.vs true 0 [],p,.bool false]::C)[B.length]?=some [sl m 4 [B8 u],.vs true 0 [],p,.bool false]:=by simp
 generalize B++[sl m 4 [B8 u],.vs true 0 [],p,.bool false]::C=X at *
 refine FT i8 λfr hl h0 h1=>?_;simp[i8]at hl h0 h1;simp[i8];refine J4 ?_;simp[Bf,hl,h0,hb];refine J4 ?_;simp[Be,hl]
theorem ib (m2:I8) (u:Tm) (hu:OkT u) (B:List (List AV)) (F:List Fam) :
  ∃(m m':Bool×Bool) (k:Nat) (h':AH),rc Q Z0 [sl (true,false) 1 [],sl m2 5 [JU u 1]] ⟨B,F⟩=some (.tup [.ptr B.length 0,.ptr (B.length+1) 0,.int .i64 0],h') /\
   h'.boxes=B++[[sl m 4 [B8 u],.vs true 0 [],.sl k 1 0 1,.bool false],[sl m' 1 [.int .i64 1],sl (true,true) 1 [],.bool false]]/\h'.fams[k]?=some ⟨[.int .i64 (-1)],1,false⟩:=by
 have hs:=hu.size;have h01:IntKind.i64.wrap 1=1:=by decide
 have hr:G4=140737488355328:=rfl;have hm:maxLen=9223372036854775807:=rfl;have hV:=eF m2 u hu;have hC:=Zi;obtain⟨m,hCo⟩:=Zn (false,true) m2 u (by omega);obtain⟨m',hP⟩:=Xy m m2 u (by omega);have hcol:=Zx m u
 suffices hq:∃v h',rc Q Z0 [sl (true,false) 1 [],sl m2 5 [JU u 1]] ⟨B,F⟩=some (v,h')/\∃k,v=.tup [.ptr B.length 0,.ptr (B.length+1) 0,.int .i64 0]/\h'.boxes=B++[[sl m 4 [B8 u],.vs true 0 [],.sl k 1 0 1,.bool false],[sl m' 1 [.int .i64 1],sl (true,true) 1 [],.bool false]]/\h'.fams[k]?=some ⟨[.int .i64 (-1)],1,false⟩ by
  obtain⟨v,h',h1,k,rfl,h2,h3⟩:=hq;exact⟨m,m',k,h',h1,h2,h3⟩
 refine FT Gj λfr hl h0 h1=>?_;simp[Gj]at hl h0 h1;simp[Gj,hl,h0];refine J4 ?_;simp[Ii,hl];have hmu:TU Z0=false:=rfl;have ht:∀B':List (List AV),tame ⟨B',F++[⟨[sl m2 5 [JU u 1]],1,false⟩]⟩ (.sl F.length 1 0 1)=true:=by intro B';simp[tame,GQ]
 simp[hl,h0,h1,hV,hC,hCo,A4,hr,hm,FX,D2,E8,hmu,ht];refine J4 ?_;simp[Ih,hl];refine J4 ?_;simp[Ig,hl,A4,hr,hm,hmu,h01];refine J4 ?_;simp[hl];refine J4 ?_;simp[If,hl,hcol,h01];refine J4 ?_;simp[hl,h0,h1,hP,Zc,hr,hm,D2,E8];exact⟨F.length+1,⟨rfl,rfl⟩,by simp⟩
theorem eV (m m':I8) (u:Tm) (B:List (List AV)) (F:List Fam) (k:Nat) (a b:Nat) (co:AV)
  (ha:B[a]?=some [sl m 4 [B8 u],.vs true 0 [],.sl k 1 0 1,.bool false]) (hb:B[b]?=some [sl m' 1 [.int .i64 1],co,.bool false]) (hk:F[k]?=some ⟨[.int .i64 (-1)],1,false⟩) :
  rc Q K0 [.ptr a 0,.ptr b 0] ⟨B,F⟩=some (.int .i64 0,⟨B,F⟩):=by
 suffices hq:∃v h',rc Q K0 [.ptr a 0,.ptr b 0] ⟨B,F⟩=some (v,h')/\(v=.int .i64 0/\h'=⟨B,F⟩) by
  obtain⟨v,h',h1,rfl,rfl⟩:=hq;exact h1
 refine FT i9 λfr hl h0 h1=>?_;simp[i9]at hl h0 h1;simp[i9,hl,h0,ha];refine J4 ?_;simp[Bg,hl,h0,h1,ha,hb,hk]
theorem dv (m2:I8) (u:Tm) (hu:OkT u):pc Q Ff [sl (true,false) 1 [],sl m2 5 [JU u 1]]=some (.tup [sl (true,false) 1 [],.int .i64 4]):=by
 obtain⟨m,m',k,⟨B',F'⟩,hS,hB,hk⟩:=ib m2 u hu [] [];simp only[xn,List.length_nil]at hB hS hk;subst hB;have hR:=eV m m' u [[sl m 4 [B8 u],.vs true 0 [],.sl k 1 0 1,.bool false],[sl m' 1 [.int .i64 1],sl (true,true) 1 [],.bool false]] F' k 0 1 _ rfl rfl hk;have hV:rc Q y9 [sl (true,false) 1 [],sl m2 5 [JU u 1]] ⟨[],[]⟩=some (.tup [.ptr 0 0,.ptr 1 0,.int .i64 0,.int .i64 0],⟨[[sl m 4 [B8 u],.vs true 0 [],.sl k 1 0 1,.bool false],[sl m' 1 [.int .i64 1],sl (true,true) 1 [],.bool false]],F'⟩):=by
  suffices hq:∃v h',rc Q y9 [sl (true,false) 1 [],sl m2 5 [JU u 1]] ⟨[],[]⟩=some (v,h')/\(v=.tup [.ptr 0 0,.ptr 1 0,.int .i64 0,.int .i64 0]/\h'=⟨[[sl m 4 [B8 u],.vs true 0 [],.sl k 1 0 1,.bool false],[sl m' 1 [.int .i64 1],sl (true,true) 1 [],.bool false]],F'⟩) by
   obtain⟨v,h',h1,rfl,rfl⟩:=hq;exact h1
  refine FT Gi λfr hl h0 h1=>?_;simp[Gi]at hl h0 h1;simp[Gi,hl,h0,h1,hS,hR]
 refine Q6 Fx λfr hl h0 h1=>?_;simp[Fx]at hl h0 h1;simp[Fx,hl,h0,h1,hV]
theorem SE (m:I8) (S:I2) (C2:S.length<=1048576) (hs:∀x∈S,OkT x) (fr:Fr) (h:AH) (h5:A0 fr 5=.vs true 0 []) (hl:fr.length=46) (h18:A0 fr 18=sl m 4 (A3 S)) (h19:A0 fr 19=.int .i64 S.length) (h20:A0 fr 20=.int .i64 0) :
  C8 (lp (A1 (Q8 Q) (G7 R0) O6) (fr,h)) λe D4 h'=>Kp O6.wr fr D4/\(e=.exit 0/\A0 D4 5=.vs true 0 []):=by
 refine C3 rfl fr (λn fr h'=>∃(i:Nat),i+n=S.length/\A0 fr 20=.int .i64 (i:Nat)/\A0 fr 5=.vs true 0 []) ?_ S.length h ⟨0,by omega,h20,h5⟩;rintro J Φ hJ hΦ n G9 H1 K ⟨i,hi,k20,hr⟩;have B4:=K.1.trans hl;have k18:=A5 K 18 h18;have k19:=A5 K 19 h19;clear K;by_cases A6:i<S.length
 .have V7:=E5 i (by omega);have hx:=S4 A6;have hP:=Xx S[i] (hs _ (xl A6)).nm;obtain⟨bx,F⟩:=H1;generalize S[i]=s at *
  simp[O6,B4,k18,k19,k20,A6,V7,hx,hP];exact O4 hJ ⟨i+1,by omega,by simp[B4],by simp[hr]⟩
 .simp[O6,B4,k19,k20,A6];exact hΦ _ _ _ ⟨rfl,by simp[hr]⟩
theorem Vp (mm m:I8) (S:I2) (hS:d9 S) (C2:S.length<=1048576) (hs:∀x∈S,OkT x) (u:Tm) (hu:OkT u) (hn:P2 S u=false) :
  pc Q R0 [sl m 4 (A3 S),sl mm 5 [JU u 1]]=some (.bool false):=by
 have hU:=Zt mm m S hS C2 (λx hx=>by have:=(hs x hx).size;omega) u (by have:=hu.size;omega) hn;have hM:=dv (false,true) u hu;refine Q6 An λfr hl h0 h1=>?_;simp[An]at hl h0 h1;simp[An,hl,h0,h1,hU];refine C8.mono (SE m S C2 hs _ _ ?_ ?_ ?_ ?_ ?_) ?_<;>first|(simp[hl];done)|skip
 rintro e G9 Jb ⟨K,rfl,k5⟩;have M7:G9.length=46:=K.1.trans (by simp[hl]);have GN:A0 G9 1=sl (false,true) 5 [JU u 1]:=A5 K 1 (by simp[hl]);clear K;simp[M7,GN,k5,hM]
theorem TX (m:I8) (S:I2) (hS:d9 S) (C2:S.length<=1048576) (hs:∀x∈S,OkT x) (u:Tm) (hu:OkT u) (hn:P2 S u=false) :
  pc Q AL [sl m 4 (A3 S),B8 u]=some (.bool false):=by
 obtain⟨u',hO,he⟩:=sw u hu;have hn':P2 S u'=false:=by rw[RD he];exact hn
 have hG:=Vp (false,true) m S hS C2 hs u' (hu.er he) hn';refine Q6 AU λfr hl h0 h1=>?_;simp[AU]at hl h0 h1;simp[AU,hl,h0,h1,hO,hG]
theorem Tm.kind_mk (k:Int) (nm:H7) (s:Int) (m:I8) (l:I2):(Tm.mk k nm s m l).kind=k:=rfl
theorem Tm.name_mk (k:Int) (nm:H7) (s:Int) (m:I8) (l:I2):(Tm.mk k nm s m l).name=nm:=rfl
theorem Tm.sort_mk (k:Int) (nm:H7) (s:Int) (m:I8) (l:I2):(Tm.mk k nm s m l).sort=s:=rfl
theorem Xk (t:Tm) (hb:t.size<=1048576):∃t',pc Q IR [B8 t,sl (true,false) 1 [],B8 t]=some (.tup [B8 t',.int .i64 0])/\D5 t'=D5 t:=by
 obtain⟨t',hC,hE⟩:=SU _ t (xu _) (by omega);refine⟨t',?_,hE⟩;refine IW Iq λfr hl h0 h1 h2=>?_;simp[Iq]at hl h0 h1 h2;simp[Iq,hl,h0,h1,h2,hC];refine J4 ?_;simp[KZ,hl,hC]
theorem go (m:I8) (l:I2) (k:Nat) (C2:l.length<=1048576) (Z:I2) (hZ:Z.length=l.length) (K4:∀t∈l,t.size<=1048576) (IH:∀t∈l,∃(K:I2) (m':I8),pc Q FP [sl t.cm 4 (A3 t.kids)]=some (sl m' 4 (A3 K))/\G8 K=G8 t.kids) (fr:Fr) (h:AH) (hfam:h.fams[k]?=some ⟨A3 Z,4,true⟩) (hl:fr.length=42) (h3:A0 fr 3=.sl k l.length 0 l.length) (h9:A0 fr 9=sl m 4 (A3 l)) (h10:A0 fr 10=.int .i64 l.length) (h11:A0 fr 11=.int .i64 0) :
  C8 (lp (A1 (Q8 Q) (G7 FP) Dl) (fr,h)) λe D4 h'=>Kp Dl.wr fr D4/\e=.exit 0/\∃(B:List (List AV)) (done:List Tm),h'=⟨B,h.fams.set k ⟨A3 done,4,true⟩⟩/\G8 done=G8 l/\done.length=l.length:=by
 refine C3 rfl fr (λn fr h'=>∃(i:Nat),i+n=l.length/\A0 fr 11=.int .i64 (i:Nat)/\(∃(B:List (List AV)) (done:List Tm) (X:List AV),X=(done++Z.drop i).map B8/\h'=⟨B,h.fams.set k ⟨X,4,true⟩⟩/\G8 done=G8 (l.take i)/\done.length=i)) ?_ l.length h ⟨0,by omega,h11,⟨h.boxes,[],A3 Z,by simp[D7],by rw[Ck hfam],by simp[G8],rfl⟩⟩;rintro J Φ hJ hΦ n G9 H1 K ⟨i,hi,k11,hr⟩;have B4:=K.1.trans hl;have k3:=A5 K 3 h3;have k9:=A5 K 9 h9;have k10:=A5 K 10 h10;clear K;by_cases A6:i<l.length
 .have V7:=E5 i (by omega);obtain⟨B,done,X,hX,rfl,hd,EF⟩:=hr;have hltZ:i<Z.length:=by omega
  obtain⟨t1,hR,ht1⟩:=Xk l[i] (K4 _ (xl A6));obtain⟨K,mk,hO,hK⟩:=IH l[i] (xl A6);have hx:=S4 A6;obtain⟨q1,q2',q3⟩:=NM B8 done Z hltZ EF;have q4:=λt'=>NN B8 done Z hltZ EF t';rw[←hX]at q1 q3 q4;rw[hZ]at q3;have q2:X[i]'q1=B8 Z[i]:=by subst hX;exact q2'
  clear q2';have e2:∀t',D5 t'=D5 l[i]->G8 (done++[t'])=G8 (l.take (i+1)):=λt' ht=>by
   rw[List.take_succ_eq_append_getElem A6,D3,xz,←D3,hd,D3,D3,xz,xq,xr,xq,xr,ht]
  have CI:=J0 hfam;clear hd;generalize l[i]=s at *
  obtain⟨d1,d2,d3,d4⟩:=JL ht1;have hag:AV.agg [.int .i64 t1.kind,.str t1.name,.int .i64 t1.sort,sl mk 4 (A3 K)]=B8 (.mk t1.kind t1.name t1.sort mk K):=rfl;have her:D5 (.mk t1.kind t1.name t1.sort mk K)=D5 s:=by
   obtain⟨k0,nm0,s0,m0,l0⟩:=s;simp only[Tm.kind,Tm.name,Tm.sort,Tm.kids]at d1 d2 d3 hK;simp only[D5,hK,Tm.mk.injEq];exact⟨d1,d2,d3,trivial,trivial⟩
  by_cases hk0:s.kids=[]
  .have hag2:AV.agg [.int .i64 t1.kind,.str t1.name,.int .i64 t1.sort,sl (true,false) 1 []]=B8 (.mk t1.kind t1.name t1.sort (true,false) []):=rfl;have her2:D5 (.mk t1.kind t1.name t1.sort (true,false) [])=D5 s:=by
    rw[←her];have:K=[]:=by
     rw[hk0]at hK;cases K with
     |nil=>rfl
     |cons a K=>simp[G8]at hK
    simp only[D5,this]
   have hkn:s.kids.length=0:=by rw[hk0];rfl
   have q5:=q4 (.mk t1.kind t1.name t1.sort (true,false) []);have e3:=e2 _ her2;generalize hY:(done++[Tm.mk t1.kind t1.name t1.sort (true,false) []]++Z.drop (i+1)).map B8=Y at *
   clear hX;simp[Dl,B4,k3,k9,k10,k11,A6,V7,hR,hO,hx,q2,q3,CI,hag,hkn,hag2,q5,Tm.kind_mk,Tm.name_mk,Tm.sort_mk];exact O4 hJ ⟨i+1,by omega,by simp[B4],_,_,Y,hY.symm,rfl,e3,by simp[EF]⟩
  .have hkn:s.kids.length≠0:=by
    intro h;exact hk0 (List.eq_nil_of_length_eq_zero h)
   have q5:=q4 (.mk t1.kind t1.name t1.sort mk K);have e3:=e2 _ her;generalize hY:(done++[Tm.mk t1.kind t1.name t1.sort mk K]++Z.drop (i+1)).map B8=Y at *
   simp[Dl,B4,k3,k9,k10,k11,A6,V7,hR,hO,hx,q2,q3,CI,hag,hkn,q5];exact O4 hJ ⟨i+1,by omega,by simp[B4],_,_,Y,hY.symm,rfl,e3,by simp[EF]⟩
 .obtain⟨B,done,X,hX,rfl,hd,EF⟩:=hr;have e:i=l.length:=by omega
  subst e;rw[List.take_length]at hd;rw[List.drop_of_length_le (by omega),List.append_nil,←D7]at hX;simp[Dl,B4,k10,k11];exact hΦ _ _ _ ⟨rfl,B,done,by rw[hX],hd,EF⟩
theorem kz:∀(n:Nat) (l:I2),Tm.sizes l<=n->Tm.sizes l<=1048576->∀m:Bool×Bool,∃(l':I2) (m':I8),pc Q FP [sl m 4 (A3 l)]=some (sl m' 4 (A3 l'))/\G8 l'=G8 l:=by
 intro n
 induction n with
 |zero =>
  intro l h _ m;have hl0:l=[]:=by
   cases l with
   |nil=>rfl
   |cons a l =>
    have:=a.size_pos;simp only[Tm.sizes]at h;omega
  subst hl0
  suffices h:∃v,pc Q FP [sl m 4 (A3 [])]=some v/\∃q:Bool×Bool,v=sl q 4 (A3 []) by
   obtain⟨v,h1,q,rfl⟩:=h;exact⟨[],q,h1,rfl⟩
  have hr:G4=140737488355328:=rfl;have hm:maxLen=9223372036854775807:=rfl;have hn:A3 []=[]:=rfl;refine Jk IE λΨ hΨ fr hl h0=>?_;simp[IE]at hl h0;simp[IE,hl,h0,hr,hm,hn];refine J4 ?_;simp[Dl,hl];exact hΨ _ ⟨(false,true),rfl⟩
 |succ n ih =>
  intro l hn hb m;have hll:=Tm.length_le l;have hlv:(A3 l).length=l.length:=by rw[D7,xy]
  have hr:(l.length:Int)*56<=G4/\(l.length:Int)<=maxLen:=by
   have e1:G4=140737488355328:=rfl;have e2:maxLen=9223372036854775807:=rfl;omega
  have hz:xp l.length (AV.agg [.int .i64 0,.str (bs []),.int .i64 0,.vs true 0 []])=A3 (xp l.length Yw):=by
   rw[jO,D7,List.map_replicate]
  suffices h:∃v,pc Q FP [sl m 4 (A3 l)]=some v/\∃q:List Tm×(Bool×Bool),v=sl q.2 4 (A3 q.1)/\G8 q.1=G8 l by
   obtain⟨v,h1,q,rfl,h2⟩:=h;exact⟨q.1,q.2,h1,h2⟩
  have Pk:=go m l 0 (by omega) (xp l.length Yw) (by simp) (λt ht=>by have:=Tm.size_le ht;omega) (λt ht=>by
   have h1:=Tm.size_le ht;have h2:=t.kids_size;obtain⟨K,m',a,b⟩:=ih t.kids (by omega) (by omega) t.cm;exact⟨K,m',a,b⟩)
  clear ih;refine Jk IE λΨ hΨ fr hl h0=>?_;simp[IE]at hl h0;simp[IE,hl,h0,hr,hz];refine C8.mono (Pk _ _ ?_ ?_ ?_ ?_ ?_ ?_) ?_<;>first|(simp[hl];done)|skip
  rintro e G9 h1 ⟨K,rfl,B,done,rfl,hd,EF⟩;have M7:G9.length=42:=K.1.trans (by simp[hl]);have QX:A0 G9 3=.sl 0 l.length 0 l.length:=A5 K 3 (by simp[hl]);clear K;have hf:∀B',y8 ⟨B',[⟨A3 done,4,true⟩]⟩ true (.sl 0 l.length 0 l.length)=some (sl (false,true) 4 (A3 done)):=λB'=>Ho (b:=true) rfl (by rw[D7,xy,EF]);simp[M7,QX,hf];exact hΨ _ ⟨(done,(false,true)),rfl,hd⟩
theorem Xc (m:I8) (l:I2) (C2:l.length<=1048576) (hv:∀t∈l,OkT t) (fr:Fr) (h:AH) (hl:fr.length=26) (h14:A0 fr 14=sl m 4 (A3 l)) (h15:A0 fr 15=.int .i64 l.length) (h16:A0 fr 16=.int .i64 0) :
  C8 (lp (A1 (Q8 Q) (G7 HP) Eh) (fr,h)) λe D4 h'=>Kp Eh.wr fr D4/\e=.exit 0:=by
 refine C3 rfl fr (λn fr h'=>∃(i:Nat),i+n=l.length/\A0 fr 16=.int .i64 (i:Nat)/\True) ?_ l.length h ⟨0,by omega,h16,trivial⟩;rintro J Φ hJ hΦ n G9 H1 K ⟨i,hi,k16,hr⟩;have B4:=K.1.trans hl;have k14:=A5 K 14 h14;have k15:=A5 K 15 h15;clear K;by_cases A6:i<l.length
 .have V7:=E5 i (by omega);have hx:=S4 A6;have ho:=hv l[i] (xl A6);have hV:=Dv l[i] (by have:=ho.size;omega);rw[(Ed ho.valid).1]at hV;obtain⟨bx,F⟩:=H1;generalize l[i]=s at *
  simp[Eh,B4,k14,k15,k16,A6,V7,hx,hV];exact O4 hJ ⟨i+1,by omega,by simp[B4],trivial⟩
 .simp[Eh,B4,k15,k16,A6];exact hΦ _ _ _ rfl
theorem Ug (u:Tm) (hu:OkT u):pc Q HP [sl (true,false) 1 [],sl (true,true) 4 [B8 u]]=some (.int .i64 0):=by
 have hfl:(([((true,false),[]),((true,true),[u])]:List ML).flatMap λq=>q.2)=[u]:=by simp
 obtain⟨mc,hC⟩:=Ua (true,true) [((true,false),[]),((true,true),[u])] (by simp) (by unfold JD;rw[hfl];simp);rw[hfl]at hC;simp only[xq,xr,Zd,show A3 []=[] from rfl,show A3 [u]=[B8 u] from rfl,Dc (true,false) rfl 4 1]at hC;refine Q6 Mz λfr hl h0 h1=>?_;simp[Mz]at hl h0 h1;simp[Mz,hl,h0,h1,hC,A4];refine C8.mono (Xc mc [u] (by simp) (λt ht=>by rw[xm.1 ht];exact hu) _ _ ?_ ?_ ?_ ?_) ?_<;>first|(simp[hl,show A3 [u]=[B8 u] from rfl];done)|skip
 rintro e G9 Jb ⟨K,rfl⟩;have B4:G9.length=26:=K.1.trans (by simp[hl]);simp[B4]
theorem Mf (u:Tm) (hf:u.kind=3->u.name∈AG):pc Q Br [B8 u]=some (sl (true,true) 4 [B8 u]):=by
 by_cases hk:u.kind=3
 .obtain⟨-,-,-,-,-,-,n7,-,-,-,-,n12,-⟩:=Om (hf hk);have hag:AV.agg [.int .i64 3,.str u.name,.int .i64 u.sort,sl u.cm 4 (A3 u.kids)]=B8 u:=by rw[←hk];exact WF u
  refine N4 CG λfr hl h0=>?_;simp[CG]at hl h0;simp[CG,hl,h0,hk,hag,n7,n12,A4]
 .refine N4 CG λfr hl h0=>?_;simp[CG]at hl h0;simp[CG,hl,h0,hk,A4]
theorem iG (u:Tm) (hu:OkT u):∃(u':Tm) (m':I8),pc Q JR [B8 u]=some (.tup [sl m' 4 [B8 u'],.int .i64 0])/\D5 u'=D5 u:=by
 have hR:=Ug u hu;have hS:=Mf u hu.nm;obtain⟨l',m',hO,he⟩:=kz _ [u] (xu _) (by have:=hu.size;simp only[Tm.sizes];omega) (true,true);obtain⟨u',rfl⟩:∃u',l'=[u']:=by
  have hl:l'.length=1:=by
   have:=congrArg List.length he;simpa[D3]using this
  match l',hl with
  | [a],_=>exact⟨a,rfl⟩
 have he':D5 u'=D5 u:=by simpa[G8]using he
 rw[show A3 [u]=[B8 u] from rfl,show A3 [u']=[B8 u'] from rfl]at hO;refine⟨u',m',?_,he'⟩;refine N4 My λfr hl h0=>?_;simp[My]at hl h0;simp[My,hl,h0,hR,hS,hO,A4]
@[simp] theorem sO (b:Nat):(AV.mp b).isTup=false:=rfl
@[simp] theorem sN (b:Nat):(AV.mp b).cells=[.mp b]:=rfl
theorem iZ (k:Nat) (h:AH) (u:Tm) (hu:u.size<=1048576) (hk:h.fams[k]?=some ⟨[B8 u],4,true⟩):rc Q C9 [.sl k 1 0 1,.fn A8 []] h=some (A9,h):=by
 obtain⟨l',hp,-,hS⟩:=PI k h [u] hk (by simp) (by simp;omega) (by simp);have hl':l'=[u]:=List.perm_singleton.1 hp;subst hl';rw[show A3 [u]=[B8 u] from rfl,Ck hk]at hS;exact hS
theorem YO (g:FuncId) (k:Nat) (h:AH) (u:Tm) (hg:QL g [u]) (hk:h.fams[k]?=some ⟨[B8 u],4,true⟩):rc Q B9 [.sl k 1 0 1,.fn g []] h=some (.sl k 1 0 1,h):=by
 obtain⟨Z,hZ,hZR,hK⟩:=IZ g [u] hg k h hk (by simp);have hZ1:Z=[u]:=by
  have:(P3 [u])=[u]:=rfl;rw[this]at hZR;rw[←hZR,List.take_of_length_le (by simp[hZ])]
 subst hZ1;rw[show A3 [u]=[B8 u] from rfl,Ck hk]at hK;exact hK
theorem eO (a b:Tm) (h:a.size<=1099511627776) (h':b.size<=1099511627776):pc Q BJ [B8 a,B8 b]=some (.bool (decide (H0 a b=0))):=by
 have hC:=Z4 _ a b (xu _) h h';refine Q6 GH λfr hl h0 h1=>?_;simp[GH]at hl h0 h1;simp[GH,hl,h0,h1,hC]
theorem YM (B:List (List AV)) (F:List Fam):rc Q G5 [sl (true,false) 1 []] ⟨B,F⟩=some (.vs true 0 [],⟨B,F⟩):=by
 suffices hq:∃v h',rc Q G5 [sl (true,false) 1 []] ⟨B,F⟩=some (v,h')/\(v=.vs true 0 []/\h'=⟨B,F⟩) by
  obtain⟨v,h',h1,rfl,rfl⟩:=hq;exact h1
 refine YL N9 λfr hl h0=>?_;simp[N9]at hl h0;simp[N9,hl,h0,OG]
theorem lJ (u:Tm) (hu:OkT u) (B:List (List AV)) (F:List Fam) :
  ∃(k:Nat) (h':AH) (a b:AV) (B':List (List AV)),rc Q Y1 [sl (true,false) 1 [],B8 u] ⟨B,F⟩=some (.ptr (B.length+3) 0,h') /\
   h'.boxes=B++[(B8 u).cells]++[[.mbox [] []],[.mbox [] []],[.sl k 1 0 1,.int .i64 0,.mp (B.length+1),.mp (B.length+2),.vs true 0 []]]++B'/\h'.fams[k]?=some ⟨[B8 u],4,true⟩:=by
 have hs:=hu.size;have hS:=Mf u hu.nm;have hC:=YM;have hr:G4=140737488355328:=rfl;have hm:maxLen=9223372036854775807:=rfl;have hmu:TU Y1=true:=rfl;have h01:IntKind.i64.wrap 1=1:=by decide
 have hcm:QL BJ [u]:=⟨rfl,λa ha b hb=>by
  rw[xm]at ha hb;exact eO a b (by rw[ha];omega) (by rw[hb];omega)⟩
 have hso:∀B',rc Q C9 [.sl (F.length+1) 1 0 1,.fn A8 []] ⟨B',F++[⟨[B8 u],4,true⟩,⟨[B8 u],4,true⟩]⟩=some (A9,⟨B',F++[⟨[B8 u],4,true⟩,⟨[B8 u],4,true⟩]⟩):=λB'=>iZ _ _ u (by omega) (by simp);have hco:∀B',rc Q B9 [.sl (F.length+1) 1 0 1,.fn BJ []] ⟨B',F++[⟨[B8 u],4,true⟩,⟨[B8 u],4,true⟩]⟩=some (.sl (F.length+1) 1 0 1,⟨B',F++[⟨[B8 u],4,true⟩,⟨[B8 u],4,true⟩]⟩):=λB'=>YO _ _ _ u hcm (by simp)
 suffices hq:∃v h',rc Q Y1 [sl (true,false) 1 [],B8 u] ⟨B,F⟩=some (v,h')/\∃(k:Nat) (B':List (List AV)),v=.ptr (B.length+3) 0 /\
   h'.boxes=B++[(B8 u).cells]++[[.mbox [] []],[.mbox [] []],[.sl k 1 0 1,.int .i64 0,.mp (B.length+1),.mp (B.length+2),.vs true 0 []]]++B'/\h'.fams[k]?=some ⟨[B8 u],4,true⟩ by
  obtain⟨v,h',h1,k,B',rfl,h2,h3⟩:=hq;exact⟨k,h',.nilp,.nilp,B',h1,h2,h3⟩
 refine FT Hf λfr hl h0 h1=>?_;simp[Hf]at hl h0 h1;simp[Hf,hl,h0,h1,D2,E8,hC,A4,hr,hm,hmu];refine J4 ?_;simp[Iu,hl,hS,hr,hm,hmu,h01];refine J4 ?_;simp[hl,h0,hso,hco];refine J4 ?_;simp[JY,hl]
theorem eP:pc Q Ds [sl (false,true) 1 [.int .u64 1],.int .i64 1]=some (.int .i64 0):=by
 have hH:pc Q DZ [sl (false,true) 1 [.int .u64 1],.int .i64 0]=some (.bool true):=by
  have e1:D6 .quo (.int .i64 0) (.int .i64 64)=some (.int .i64 0):=by rfl
  have e2:D6 .rem (.int .i64 0) (.int .i64 64)=some (.int .i64 0):=by rfl
  have e3:D6 .shr (.int .u64 1) (.int .i64 0)=some (.int .u64 1):=by rfl
  have e4:D6 .and (.int .u64 1) (.int .u64 1)=some (.int .u64 1):=by rfl
  refine Q6 It λfr hl h0 h1=>?_;simp[It]at hl h0 h1;simp[It,hl,h0,h1,e1,e2,e3,e4]
 refine Q6 Gt λfr hl h0 h1=>?_;simp[Gt]at hl h0 h1;simp[Gt,h1];refine J4 ?_;simp[Is,hl,h0,hH]
theorem iY (k:Nat) (h:AH) (hk:h.fams[k]?=some ⟨[.int .u64 0],1,true⟩):rc Q r7 [.sl k 1 0 1,.int .i64 0] h=some (A9,⟨h.boxes,h.fams.set k ⟨[.int .u64 1],1,true⟩⟩):=by
 have CI:=J0 hk
 suffices hq:∃v h',rc Q r7 [.sl k 1 0 1,.int .i64 0] h=some (v,h')/\(v=A9/\h'=⟨h.boxes,h.fams.set k ⟨[.int .u64 1],1,true⟩⟩) by
  obtain⟨v,h',h1,rfl,rfl⟩:=hq;exact h1
 have e1:D6 .quo (.int .i64 0) (.int .i64 64)=some (.int .i64 0):=by rfl
 have e2:D6 .rem (.int .i64 0) (.int .i64 64)=some (.int .i64 0):=by rfl
 have e3:D6 .shl (.int .u64 1) (.int .i64 0)=some (.int .u64 1):=by rfl
 have e4:D6 .xor (.int .u64 0) (.int .u64 1)=some (.int .u64 1):=by rfl
 refine FT He λfr hl h0 h1=>?_;simp[He]at hl h0 h1;simp[He,hl,h0,h1,e1,e2,e3,e4,hk]
theorem nr (u:Tm) (hu:OkT u) (a k:Nat) (B:List (List AV)) (F:List Fam) (c1 c2 c3 c4:AV) (ha:B[a]?=some [.sl k 1 0 1,c1,c2,c3,c4]) (hk:F[k]?=some ⟨[B8 u],4,true⟩) :
  ∃B',rc Q Z3 [.ptr a 0,B8 u] ⟨B,F⟩=some (.sl F.length 1 0 1,⟨B++B',F++[⟨[.int .u64 1],1,true⟩]⟩):=by
 have hs:=hu.size;have hS:=Mf u hu.nm;have hr:G4=140737488355328:=rfl;have hm:maxLen=9223372036854775807:=rfl;have h01:IntKind.i64.wrap 1=1:=by decide
 have e1:D6 .quo (.int .i64 1) (.int .i64 64)=some (.int .i64 0):=by rfl
 have CI:=J0 hk;have hal:=J0 ha;have hBST:=bS (false,true) u (by omega);have hcol:∀(B2:List (List AV)) (F2:List Fam),B2[a]?=some [.sl k 1 0 1,c1,c2,c3,c4]->F2[k]?=some ⟨[B8 u],4,true⟩->rc Q X7 [.ptr a 0,B8 u] ⟨B2,F2⟩=some (.int .i64 0,⟨B2++[(B8 u).cells],F2⟩):=by
  intro B2 F2 hB2 hF2
  suffices hq:∃v h',rc Q X7 [.ptr a 0,B8 u] ⟨B2,F2⟩=some (v,h')/\(v=.int .i64 0/\h'=⟨B2++[(B8 u).cells],F2⟩) by
   obtain⟨v,h',h1,rfl,rfl⟩:=hq;exact h1
  have hB3:(B2++[(B8 u).cells])[a]?=some [.sl k 1 0 1,c1,c2,c3,c4]:=by rw[xk (J0 hB2)];exact hB2
  have hz:∀B',y8 ⟨B',F2⟩ true (.sl k 1 0 1)=some (sl (false,true) 4 [B8 u]):=λB'=>Ho hF2 rfl;simp only[H3]at hB3;refine FT EQ λfr hl h0 h1=>?_;simp[EQ]at hl h0 h1;simp[EQ,hl,h0,h1,hB3,hz,hBST]
 suffices hq:∃v h',rc Q Z3 [.ptr a 0,B8 u] ⟨B,F⟩=some (v,h')/\∃B',v=.sl F.length 1 0 1/\h'=⟨B++B',F++[⟨[.int .u64 1],1,true⟩]⟩ by
  obtain⟨v,h',h1,B',rfl,rfl⟩:=hq;exact⟨B',h1⟩
 have ha1:(B++[(B8 u).cells])[a]?=some [.sl k 1 0 1,c1,c2,c3,c4]:=by rw[xk hal];exact ha
 have ha2:(B++[(B8 u).cells,(B8 u).cells])[a]?=some [.sl k 1 0 1,c1,c2,c3,c4]:=by rw[xk hal];exact ha
 have hk1:(F++[⟨[.int .u64 0],1,true⟩])[k]?=some ⟨[B8 u],4,true⟩:=by rw[xk CI];exact hk
 have hc:=hcol _ _ ha2 hk1;have hf:=iY F.length ⟨B++[(B8 u).cells,(B8 u).cells,(B8 u).cells],F++[⟨[.int .u64 0],1,true⟩]⟩ (by simp);simp only[H3,xt,xw,xn]at ha1 hc hf;refine FT Gu λfr hl h0 h1=>?_;simp[Gu]at hl h0 h1;simp[Gu,hl,h0,h1,ha1,e1,h01,hr,hm,hS];refine J4 ?_;simp[Iv,hl,h0,hc,hf,h01];refine J4 ?_;simp[hl]
theorem aA (u:Tm) (a k k2 x:Nat) (B:List (List AV)) (F:List Fam) (c3 c4:AV) (ha:B[a]?=some [.sl k 1 0 1,.int .i64 0,.mp x,c3,c4]) (hx:B[x]?=some [.mbox [] []]) (hk:F[k]?=some ⟨[B8 u],4,true⟩) :
  rc Q R2 [.ptr a 0,.sl k2 1 0 1] ⟨B,F⟩=some (.tup [.sl k2 1 0 1,.sl F.length 1 0 1],⟨B,F++[⟨[.int .u64 0],1,true⟩]⟩):=by
 have hr:G4=140737488355328:=rfl;have hm:maxLen=9223372036854775807:=rfl;have h01:IntKind.i64.wrap 1=1:=by decide
 have e1:D6 .quo (.int .i64 0) (.int .i64 64)=some (.int .i64 0):=by rfl
 suffices hq:∃v h',rc Q R2 [.ptr a 0,.sl k2 1 0 1] ⟨B,F⟩=some (v,h')/\(v=.tup [.sl k2 1 0 1,.sl F.length 1 0 1]/\h'=⟨B,F++[⟨[.int .u64 0],1,true⟩]⟩) by
  obtain⟨v,h',h1,rfl,rfl⟩:=hq;exact h1
 have hml:∀F' z,Es false true z ⟨B,F'⟩ (.mp x) (.int .i64 0)=some (.tup [z,.bool false],⟨B,F'⟩):=by
  intro F' z;have e:CN ⟨B,F'⟩ (.mp x)=some ([],[]):=by simp only[CN,hx]
  simp only[Es,e];rfl
 refine FT ER λfr hl h0 h1=>?_;simp[ER]at hl h0 h1;simp[ER,hl,h0,ha,e1,h01,hr,hm];refine J4 ?_;simp[GT,hl,h0,ha,hml,h01];refine J4 ?_;simp[hl,h1]
theorem kj (u:Tm) (hu:OkT u):∃v,pc Q OF [sl (true,false) 1 [],B8 u]=some (.tup [v,.int .i64 4]):=by
 obtain⟨k,⟨B1,F1⟩,-,-,B',hE,hB,hk⟩:=lJ u hu [(B8 u).cells] [];simp only at hB hk;subst hB;have hR:=Ug u hu;obtain⟨B2,hW⟩:=nr u hu 4 k ((B8 u).cells::(B8 u).cells::[AV.mbox [] []]::[AV.mbox [] []]::[AV.sl k 1 0 1,.int .i64 0,.mp 2,.mp 3,.vs true 0 []]::B') F1 _ _ _ _ rfl hk;have hD:=aA u 4 k F1.length 2 (((B8 u).cells::(B8 u).cells::[AV.mbox [] []]::[AV.mbox [] []]::[AV.sl k 1 0 1,.int .i64 0,.mp 2,.mp 3,.vs true 0 []]::B')++B2) (F1++[⟨[.int .u64 1],1,true⟩]) _ _ rfl rfl (by rw[xk (J0 hk)];exact hk);have hF:=eP;have hz:∀B',y8 ⟨B',F1++[⟨[.int .u64 1],1,true⟩]++[⟨[.int .u64 0],1,true⟩]⟩ true (.sl F1.length 1 0 1)=some (sl (false,true) 1 [.int .u64 1]):=λB'=>Ho (b:=true) (by simp) rfl;simp only[xo,Nat.reduceAdd,xw,xn,xt,H3]at hE hW hD hz;refine⟨sl (true,false) 1 [],?_⟩;refine Q6 OP λfr hl h0 h1=>?_;simp[OP]at hl h0 h1;simp[OP,hl,h0,h1,hR,A4,hE,hW,hD,hz,hF]
theorem VZ (m:I8) (S:I2) (C2:S.length<=1048576) (hs:∀x∈S,OkT x) (p:AV) (C:E6) (fr:Fr) (h:AH) (h5:A0 fr 5=p) (hB:∃B,h.boxes=C::B) (hl:fr.length=69) (h22:A0 fr 22=sl m 4 (A3 S)) (h23:A0 fr 23=.int .i64 S.length) (h24:A0 fr 24=.int .i64 0) :
  C8 (lp (A1 (Q8 Q) (G7 W5) S7) (fr,h)) λe D4 h'=>Kp S7.wr fr D4/\(e=.exit 0/\A0 D4 5=p/\∃B,h'.boxes=C::B):=by
 refine C3 rfl fr (λn fr h'=>∃(i:Nat),i+n=S.length/\A0 fr 24=.int .i64 (i:Nat)/\(A0 fr 5=p/\∃B,h'.boxes=C::B)) ?_ S.length h ⟨0,by omega,h24,h5,hB⟩;rintro J Φ hJ hΦ n G9 H1 K ⟨i,hi,k24,hr⟩;have B4:=K.1.trans hl;have k22:=A5 K 22 h22;have k23:=A5 K 23 h23;clear K;by_cases A6:i<S.length
 .have V7:=E5 i (by omega);obtain⟨hr,B,hB⟩:=hr;have hx:=S4 A6;have hX:=Md S[i] (bs [120,111,114]);rw[Rs (hs _ (xl A6)).nm (by decide)]at hX;obtain⟨bx,F⟩:=H1;simp only at hB;subst hB;generalize S[i]=s at *
  simp[S7,B4,k22,k23,k24,A6,V7,hx,hX,A4];exact O4 hJ ⟨i+1,by omega,by simp[B4],by simp[hr],_,rfl⟩
 .obtain⟨hr,hB⟩:=hr;simp[S7,B4,k23,k24,A6];exact hΦ _ _ _ ⟨rfl,by simp[hr],hB⟩
theorem VY (m mr:I8) (S R:I2) (C2:S.length<=1048576) (hs:∀x∈S,OkT x) (hR:d9 R) (hRl:R.length<=1048576) (hRs:∀x∈R,x.size<=1048576) (hn:∀x∈S,P2 R x=false) (C:E6) (fr:Fr) (h:AH) (h12:A0 fr 12=.vs true 0 []) (hB:∃B,h.boxes=C::B) (hl:fr.length=69) (h11:A0 fr 11=sl mr 4 (A3 R)) (h42:A0 fr 42=sl m 4 (A3 S)) (h43:A0 fr 43=.int .i64 S.length) (h44:A0 fr 44=.int .i64 0) :
  C8 (lp (A1 (Q8 Q) (G7 W5) S6) (fr,h)) λe D4 h'=>Kp S6.wr fr D4/\(e=.exit 2/\A0 D4 12=.vs true 0 []/\∃B,h'.boxes=C::B):=by
 refine C3 rfl fr (λn fr h'=>∃(i:Nat),i+n=S.length/\A0 fr 44=.int .i64 (i:Nat)/\(A0 fr 12=.vs true 0 []/\∃B,h'.boxes=C::B)) ?_ S.length h ⟨0,by omega,h44,h12,hB⟩;rintro J Φ hJ hΦ n G9 H1 K ⟨i,hi,k44,hr⟩;have B4:=K.1.trans hl;have k11:=A5 K 11 h11;have k42:=A5 K 42 h42;have k43:=A5 K 43 h43;clear K;by_cases A6:i<S.length
 .have V7:=E5 i (by omega);obtain⟨hr,B,hB⟩:=hr;have hx:=S4 A6;have ho:=hs _ (xl A6);have hX:=Md S[i] (bs [120,111,114]);rw[Rs ho.nm (by decide)]at hX;have hH:=Ge mr R S[i] hR (by omega) (λx hx=>by have:=hRs x hx;omega) (by have:=ho.size;omega);rw[hn _ (xl A6)]at hH;obtain⟨bx,F⟩:=H1;simp only at hB;subst hB;generalize S[i]=s at *
  simp[S6,B4,k11,k42,k43,k44,A6,V7,hx,hX,hH,A4];exact O4 hJ ⟨i+1,by omega,by simp[B4],by simp[hr],_,rfl⟩
 .obtain⟨hr,hB⟩:=hr;simp[S6,B4,k43,k44,A6];exact hΦ _ _ _ ⟨rfl,by simp[hr],hB⟩
theorem eL (m:I8) (S:I2) (C2:S.length<=1048576) (hs:∀x∈S,OkT x) (u:Tm) (hu:OkT u) (hn:P2 S u=false) :
  pc Q W5 [sl m 4 (A3 S),B8 u]=some (.bool false):=by
 obtain⟨u',m',hP,he⟩:=iG u hu;obtain⟨R,mr,hO,IK,hsub,hRl⟩:=Xz m' [u'] (λt ht=>by rw[xm.1 ht];have:=(hu.er he).size;omega) (by simp);rw[show A3 [u']=[B8 u'] from rfl]at hO;obtain⟨v,hSp⟩:=kj u hu;have hnR:∀x∈S,P2 R x=false:=by
  intro x hx;rw[cL IK];have h1:=UN hn hx;have:GW u' x=GW u x:=by
   unfold GW;rw[Bool.eq_iff_iff,decide_eq_true_iff,decide_eq_true_iff,AF,AF,he]
  simp[P2,this,h1]
 refine Q6 CX λfr hl h0 h1=>?_;simp[CX]at hl h0 h1;simp[CX,hl,h0,h1,hP];refine C8.mono (VZ m S C2 hs (sl m' 4 [B8 u']) (B8 u).cells _ _ ?_ ?_ ?_ ?_ ?_ ?_) ?_<;>first|(simp[hl];done)|skip
 rintro e G9 ⟨bx,F⟩ ⟨K,rfl,k5,B,hB⟩;simp only at hB;subst hB;have M7:G9.length=69:=K.1.trans (by simp[hl]);have MS:A0 G9 0=sl m 4 (A3 S):=A5 K 0 (by simp[h0]);have QX:A0 G9 3=.ptr 0 0:=A5 K 3 (by simp[hl]);clear K;simp[M7,MS,k5,hO];refine C8.mono (VY m mr S R C2 hs IK.1 (by simp only[xo]at hRl;omega) (λx hx=>by rw[xm.1 (hsub x hx)];have:=(hu.er he).size;omega) hnR (B8 u).cells _ _ ?_ ?_ ?_ ?_ ?_ ?_ ?_) ?_<;>first|(simp[M7];done)|skip
 rintro e Cs ⟨bx,F2⟩ ⟨K,rfl,k12,B2,hB⟩;simp only at hB;subst hB;have Jc:Cs.length=69:=K.1.trans (by simp[M7]);have k3:A0 Cs 3=.ptr 0 0:=A5 K 3 (by simp[QX]);clear K;simp[Jc,k12,k3,hSp]
def Ec (S:List Tm) (u:Tm):Bool:=Rv u||FK S u||Hw S u
theorem kx (m:I8) (S:I2) (hS:d9 S) (C2:S.length<=1048576) (hs:∀x∈S,OkT x) (u:Tm) (hu:OkT u) (hn:P2 S u=false) :
  pc Q DT [sl m 4 (A3 S),B8 u]=some (.bool (Ec S u)):=by
 have hs2:∀x∈S,x.size<=1099511627776:=λx hx=>by have:=(hs x hx).size;omega
 have husz:=hu.size;have q0:=Ge m S u hS (by omega) hs2 (by omega);rw[hn]at q0;have q1:=dy u hu.nm hu.ow;have q2:=Xp m S hS C2 hs2 u (by omega);have q3:=eE m S hS C2 hs u (by omega);have q4:=eL m S C2 hs u hu hn;have q5:=eG m S C2 hs u hu hn;have q6:=TX m S hS C2 hs u hu hn;unfold Ec;generalize Rv u=c1 at *
 generalize FK S u=c2 at *
 generalize Hw S u=c3 at *
 cases c1 with
 |true =>
  refine Q6 H4 λfr hl h0 h1=>?_;simp[H4]at hl h0 h1;simp[H4,hl,h0,h1,q0,q1]
 |false =>
  cases c2 with
  |true =>
   refine Q6 H4 λfr hl h0 h1=>?_;simp[H4]at hl h0 h1;simp[H4,hl,h0,h1,q0,q1,q2]
  |false =>
   cases c3 with
   |true =>
    refine Q6 H4 λfr hl h0 h1=>?_;simp[H4]at hl h0 h1;simp[H4,hl,h0,h1,q0,q1,q2,q3]
   |false =>
    refine Q6 H4 λfr hl h0 h1=>?_;simp[H4]at hl h0 h1;simp[H4,hl,h0,h1,q0,q1,q2,q3,q4,q5,q6]
end Go.Abs.Q
