/- A part of the proof. -/
import Derived.Test.YtohjdamplbhdpaaGreatDoorSD35
set_option linter.all false
open List renaming replicate->oD,length_take->xX
namespace Go.Abs.Q
open Go.Proofs
attribute [local simp] D1 D4 fin I2 G0 K7 I3 N4 O5
theorem dn (t:Bool) (a b c:AV):pc Q JW [.agg [.bool t,a,b,c]]=some (sl (true,true) 1 ((Ua t).map .str)):=by
 cases t with
 |true =>
  refine N0 Cv λfr hl h0=>?_;simp[Cv]at hl h0;simp[Cv,hl,h0,A3];rfl
 |false =>
  refine N0 Cv λfr hl h0=>?_;simp[Cv]at hl h0;simp[Cv,hl,h0,A3];rfl
theorem eC (b:Bool):(Ua b).Nodup:=by cases b<;>decide
theorem FrOk.start {rs:List ByteArray} {fs:List Fre} {Ks:List (List ByteArray)} (h:FrOk rs fs Ks) (h4:fs.length<=4):SdOk rs fs [] Ks:=by
 refine⟨λi s hs=>by simp at hs,λr l u h1 h2=>?_,λl hl=>?_⟩
 .obtain⟨f,hf,e1,e2⟩:=h.ks r l u h1 h2;exact⟨List.mem_map.2 ⟨f,hf,e2⟩,f.role,e1,.inl ⟨f,hf,rfl,e2⟩⟩
 .have:=h.len l hl;simp only[List.length_nil];omega
theorem kM (d:Drf) (D:DrOk d):∃n,pc Q J6 [cN d]=some (X7 n)/\Drafted n:=by
 suffices hq:∃v,pc Q J6 [cN d]=some v/\∃n,v=X7 n/\Drafted n by
  obtain⟨v,h1,n,rfl,h2⟩:=hq;exact⟨n,h1,h2⟩
 have hR:=dn d.three (sl d.fm 1 (d.fresh.map (.int .u8))) (sl d.sm 4 (d.steps.map TL)) (sl d.gm 4 (d.goals.map eU));have hr23:=Vl d.three;have eX:=eC d.three;generalize hrs:Ua d.three=rs at *
 have hrep:(oD rs.length [AV.vs true 0 []]).flatten=oD rs.length (AV.vs true 0 []):=by
  rw[List.flatten_replicate_singleton]
 have hm1:(rs.length:Int)*24<=(G5:Int):=by unfold G5;omega
 have hm2:(rs.length:Int)<=(maxLen:Int):=by unfold maxLen;omega
 refine Ja LH λΨ hΨ fr hl h0=>?_;simp[LH,cN,PL]at hl h0;simp[LH,hl,h0,hR,D0,E7,VU,hm1,hm2,hrep];refine C8.mono (kE d D _ rfl (by rw[xX];omega) rs hrs.symm [.str (bs []),.vs true 0 [],.vs true 0 [],.vs true 0 [],.vs true 0 [],.vs true 0 []] (true,true) _ _ ?_ ?_ ?_ ?_ ?_ ?_ ?_) ?_<;>first|(simp[hl,PL];done)|skip
 rintro e H0 ⟨bx,F1⟩ ⟨K,rfl,vf,fs,Ks,Kc,B,hB,hg,hF,hfl,CF,Cr⟩;simp only at hB;subst hB;have B5:H0.length=265:=K.1.trans (by simp[hl]);have p1:A0 H0 1=.ptr 0 0:=A5 K 1 (by simp[hl]);have p2:A0 H0 2=.ptr 1 0:=A5 K 2 (by simp[hl]);have p3:A0 H0 3=.ptr 2 0:=A5 K 3 (by simp[hl]);have p4:A0 H0 4=.int .i64 rs.length:=A5 K 4 (by simp[hl]);have p5:A0 H0 5=.bsl 3 1 0 rs.length:=A5 K 5 (by simp[hl]);clear K;have hS0:=hF.start hfl;have hg1:∀BB,GLs ⟨BB,F1⟩ (⟨true,1,([]:List ByteArray).map .str,.vs true 0 []⟩::⟨true,7,([]:List Ste).map Ci,.vs true 0 []⟩::⟨false,3,fs.map Gq,vf⟩::WC Ks Kc):=λBB=>by
  have:=hg.still;rw[List.map_cons,cY]at this;exact((this.fams (h':=⟨BB,F1⟩) rfl).cons 7 false []).cons 1 false []
 simp[B5];refine C8.mono (kG d D (oD (min (max 1 d.steps.length) 3) ()) (by simp) rs hrs.symm eX [.str (bs []),.vs true 0 [],.vs true 0 [],.vs true 0 [],.vs true 0 [],.vs true 0 []] (true,true) vf fs Ks Kc B hS0 CF Cr _ _ rfl (hg1 _) ?_ ?_ ?_ ?_ ?_ ?_) ?_<;>first|(simp[B5,p1,p3,p4,p5];done)|skip
 rintro e Cq ⟨bx,F2⟩ ⟨K,rfl,vt,vs,ss,Ks2,Kc2,B2,hB2,hg2,hS2,hs1,hs3,hkl2,hcl2⟩;simp only at hB2;subst hB2;have JS:Cq.length=265:=K.1.trans (by simp[B5]);have q1:A0 Cq 1=.ptr 0 0:=A5 K 1 (by simp[B5,p1]);have q2:A0 Cq 2=.ptr 1 0:=A5 K 2 (by simp[B5,p2]);have q3:A0 Cq 3=.ptr 2 0:=A5 K 3 (by simp[B5,p3]);have q4:A0 Cq 4=.int .i64 rs.length:=A5 K 4 (by simp[B5,p4]);have q5:A0 Cq 5=.bsl 3 1 0 rs.length:=A5 K 5 (by simp[B5,p5]);clear K;have hg3:∀BB,GLs ⟨BB,F2⟩ (⟨true,5,([]:List Gol).map DP,.vs true 0 []⟩::([⟨true,1,(OH.take ss.length).map .str,vt⟩,⟨true,7,ss.map Ci,vs⟩,⟨false,3,fs.map Gq,vf⟩]++WC Ks2 Kc2)):=λBB=>(hg2.fams (h':=⟨BB,F2⟩) rfl).cons 5 false [];simp[JS];refine C8.mono (kF d D _ rfl (by rw[xX];omega) rs hr23 eX [.str (bs []),.vs true 0 [],.vs true 0 [],.vs true 0 [],.vs true 0 [],.vs true 0 []] (true,true) vf vt vs fs Ks2 Kc2 B2 [⟨true,1,(OH.take ss.length).map .str,vt⟩,⟨true,7,ss.map Ci,vs⟩,⟨false,3,fs.map Gq,vf⟩] (λr l u h1 h2=>(hS2.ks r l u h1 h2).1) hkl2 hcl2 (λl hl=>by have:=hS2.len l hl;omega) _ _ rfl (hg3 _) ?_ ?_ ?_ ?_ ?_ ?_) ?_<;>first|(simp[JS,q1,q3,q4,q5];done)|skip
 rintro e fr3 ⟨bx,F3⟩ ⟨K,rfl,vg,gs,B3,hB3,hg4,hP,hgl⟩;simp only at hB3;subst hB3;have hl3:fr3.length=265:=K.1.trans (by simp[JS]);have r2:A0 fr3 2=.ptr 1 0:=A5 K 2 (by simp[JS,q2]);have r3:A0 fr3 3=.ptr 2 0:=A5 K 3 (by simp[JS,q3]);clear K;obtain⟨mg,fg⟩:=(hg4.get (i:=0) rfl).frz;obtain⟨mt,ft⟩:=(hg4.get (i:=1) rfl).frz;obtain⟨ms,fss⟩:=(hg4.get (i:=2) rfl).frz;obtain⟨mf,ff⟩:=(hg4.get (i:=3) rfl).frz;have fg:=λB=>(fg B true).2;have ft:=λB=>(ft B true).2;have fss:=λB=>(fss B true).2;have ff:=λB=>(ff B true).2;simp only at fg ft fss ff;simp[hl3,r2,r3,I6,fg,ft,fss,ff];refine hΨ _ ⟨⟨bs [80],(true,true),rs,mf,fs,mt,OH.take ss.length,ms,ss,mg,gs⟩,by simp[X7],?_⟩;refine⟨rfl,⟨d.three,hrs.symm⟩,⟨hfl,hF.names⟩,hF.fre,rfl,⟨hs1,hs3⟩,λi s hs=>?_,hgl,λg DF=>?_⟩
 .obtain⟨⟨fm,tag,us,a1,a2,a3,a4⟩,b1,b2,b3⟩:=hS2.steps i s hs;refine⟨⟨fm,tag,us,a1,?_,a3,a4⟩,b1,b2,b3⟩;refine List.mem_of_getElem? (i:=i) ?_;simp only;rw[List.getElem?_take,if_pos (List.getElem?_eq_some_iff.1 hs).1];exact a2
 .obtain⟨c1,c2,c3,c4,c5⟩:=hP g DF;exact⟨c1,c2,c3,c4,c5⟩
theorem XK (m:J0) (l:List Msg) (g:FuncId) (p:Msg->Bool) (hg:C4 g=false) (C2:l.length<=1099511627776) (hp:∀x∈l,pc Q g [TL x]=some (.bool (p x))) (fr:Fr) (h:AH) (hl:fr.length=19) (h0:A0 fr 0=sl m 4 (l.map TL)) (h1:A0 fr 1=.fn g []) (h7:A0 fr 7=.int .i64 l.length) (h8:A0 fr 8=.int .i64 0) :
  C8 (lp (A1 (Q8 Q) (G8 M4) K6) (fr,h)) λe D3 h'=>Kp K6.wr fr D3/\(e=.exit 0\/e=.ret/\∃j:Nat,A0 D3 4=.int .i64 (j:Nat)):=by
 refine C3 rfl fr (λn fr h'=>∃(i:Nat),i+n=l.length/\A0 fr 8=.int .i64 (i:Nat)/\True) ?_ l.length h ⟨0,by omega,h8,trivial⟩;rintro J Φ hJ hΦ n H0 H1 K ⟨i,hi,k8,hr⟩;have B5:=K.1.trans hl;have k0:=A5 K 0 h0;have k1:=A5 K 1 h1;have k7:=A5 K 7 h7;clear K;by_cases A7:i<l.length
 .have V9:=E6 i (by omega);have hx:=H8 (f:=TL) (List.getElem?_eq_getElem A7);have hP:=hp l[i] (List.getElem_mem A7);generalize l[i]=s at *
  obtain⟨f,t,o,pm,ps⟩:=s;simp only[TL]at hx hP;cases hc:p ⟨f,t,o,pm,ps⟩with
  |true =>
   rw[hc]at hP;simp[K6,B5,k0,k1,k7,k8,A7,V9,hx,hP,hg];exact hΦ _ _ _ (.inr ⟨rfl,i,by simp[B5]⟩)
  |false =>
   rw[hc]at hP;simp[K6,B5,k0,k1,k7,k8,A7,V9,hx,hP,hg];exact O9 hJ ⟨i+1,by omega,by simp[B5],trivial⟩
 .simp[K6,B5,k0,k1,k7,k8,A7];exact hΦ _ _ _ (.inl rfl)
theorem gp (x:Msg) (hl:x.parts.length<=1099511627776):pc Q AJ [TL x]=some (.bool (decide ((6:Int)<x.parts.length))):=by
 refine N0 Ia λfr hl h0=>?_;simp[Ia,TL]at hl h0;simp[Ia,hl,h0]
theorem kS (d:Drf) (D:DrOk d):∃b,pc Q Kj [cN d]=some (.bool b):=by
 obtain⟨b,hC⟩:∃b,pc Q i6 [sl d.sm 4 (d.steps.map TL),.fn AJ []]=some (.bool b):=by
  obtain⟨j,hI⟩:∃j:Int,pc Q M4 [sl d.sm 4 (d.steps.map TL),.fn AJ []]=some (.int .i64 j):=by
   suffices hq:∃v,pc Q M4 [sl d.sm 4 (d.steps.map TL),.fn AJ []]=some v/\∃j:Int,v=.int .i64 j by
    obtain⟨v,h1,j,rfl⟩:=hq;exact⟨j,h1⟩
   refine TT AW λΨ hΨ fr hl h0 h1=>?_;simp[AW]at hl h0 h1;simp[AW,hl,h0,h1];refine C8.mono (XK d.sm d.steps AJ (λx=>decide ((6:Int)<x.parts.length)) rfl D.stepsL (λx hx=>gp x (D.steps x hx).2.2.2.2) _ _ ?_ ?_ ?_ ?_ ?_) ?_<;>first|(simp[hl,h0,h1];done)|skip
   rintro e H0 Jp ⟨K,rfl|⟨rfl,j,k4⟩⟩
   .have B5:H0.length=19:=K.1.trans (by simp[hl]);simp[B5];exact hΨ _ ⟨-1,rfl⟩
   .simp[k4];exact hΨ _ ⟨j,rfl⟩
  refine⟨decide (0<=j),?_⟩;refine R9 j6 λfr hl h0 h1=>?_;simp[j6]at hl h0 h1;simp[j6,hl,h0,h1,hI]
 by_cases c1:d.fresh.length<=6
 .by_cases c2:d.steps.length<=6
  .by_cases c3:d.goals.length<=6
   .refine⟨!b,?_⟩;have c1':(d.fresh.length:Int)<=6:=by omega
    have c2':(d.steps.length:Int)<=6:=by omega
    have c3':(d.goals.length:Int)<=6:=by omega
    refine N0 T6 λfr hl h0=>?_;simp[T6,cN,PL]at hl h0;simp[T6,hl,h0,c1',c2',c3',hC]
   .refine⟨false,?_⟩;have c1':(d.fresh.length:Int)<=6:=by omega
    have c2':(d.steps.length:Int)<=6:=by omega
    have c3':¬(d.goals.length:Int)<=6:=by omega
    refine N0 T6 λfr hl h0=>?_;simp[T6,cN,PL]at hl h0;simp[T6,hl,h0,c1',c2',c3']
  .refine⟨false,?_⟩;have c1':(d.fresh.length:Int)<=6:=by omega
   have c2':¬(d.steps.length:Int)<=6:=by omega
   refine N0 T6 λfr hl h0=>?_;simp[T6,cN,PL]at hl h0;simp[T6,hl,h0,c1',c2']
 .refine⟨false,?_⟩;have c1':¬(d.fresh.length:Int)<=6:=by omega
  refine N0 T6 λfr hl h0=>?_;simp[T6,cN,PL]at hl h0;simp[T6,hl,h0,c1']
theorem TP (d:Drf) (D:DrOk d):pc Q Nu [cN d]=some (.bool true):=by
 obtain⟨b,hF⟩:=kS d D;have hA:=gk;obtain⟨n,hM,hD⟩:=kM d D;obtain⟨t,g1,e1⟩:=Vb n hD.fine hD.lens;have g3:=SG n hD.fine hD.lens;rw[hD.exe]at g1;rw[hD.typ]at g3;have nb:=Y6 n;simp only[cN,PL]at hF hM;cases b with
 |false =>
  refine N0 Z5 λfr hl h0=>?_;simp[Z5,cN,PL]at hl h0;simp[Z5,hl,h0,hA,hF]
 |true =>
  refine N0 Z5 λfr hl h0=>?_;simp[Z5,cN,PL]at hl h0;simp[Z5,hl,h0,nb,hA,hF,hM,g1,g3,I6]
end Go.Abs.Q
