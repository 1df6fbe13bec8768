/- A part of the proof. -/
import Derived.Test.YtohjdamplbhdpaaGreatDoorSG35
set_option linter.all false
open List renaming length_map->xk,getElem?_eq_getElem->xl,replicate->xn,mem_of_getElem?->xo,mem_map_of_mem->xp,mem_map->xq,getElem_mem->xt,length_take->xu
open Nat renaming le_refl->xm,mod_lt->xw
open Int renaming toNat_natCast->xr
namespace Go.Abs.Q
open Go.Proofs
attribute [local simp] D0 D1 fin I1 E7 K8 I3 N6 P4
theorem eI (t:Bool) (a b c:AV):pc Q Jh [.agg [.bool t,a,b,c]]=some (sl (true,true) 1 ((Ui t).map .str)):=by
 cases t with
 |true =>
  refine N4 Cy λfr hl h0=>?_;simp[Cy]at hl h0;simp[Cy,hl,h0,A4];rfl
 |false =>
  refine N4 Cy λfr hl h0=>?_;simp[Cy]at hl h0;simp[Cy,hl,h0,A4];rfl
theorem eT (b:Bool):(Ui b).Nodup:=by cases b<;>decide
theorem FrOk.start {rs:List ByteArray} {fs:List Fre} {Ks:List (List ByteArray)} (h:FrOk rs fs Ks) (h4:fs.length<=4):SdOk rs fs [] Ks:=by
 refine⟨λi s hs=>by simp at hs,λr l u h1 h2=>?_,λl hl=>?_⟩
 .obtain⟨f,hf,e1,e2⟩:=h.ks r l u h1 h2;exact⟨xq.2 ⟨f,hf,e2⟩,f.role,e1,.inl ⟨f,hf,rfl,e2⟩⟩
 .have:=h.len l hl;simp only[List.length_nil];omega
theorem ki (d:Drf) (D:DrOk d):∃n,pc Q J7 [ct d]=some (V8 n)/\Drafted n:=by
 suffices hq:∃v,pc Q J7 [ct d]=some v/\∃n,v=V8 n/\Drafted n by
  obtain⟨v,h1,n,rfl,h2⟩:=hq;exact⟨n,h1,h2⟩
 have hR:=eI d.three (sl d.fm 1 (d.fresh.map (.int .u8))) (sl d.sm 4 (d.steps.map TT)) (sl d.gm 4 (d.goals.map fA));have hr23:=Vt d.three;have fC:=eT d.three;generalize hrs:Ui d.three=rs at *
 have hrep:(xn rs.length [AV.vs true 0 []]).flatten=xn rs.length (AV.vs true 0 []):=by
  rw[List.flatten_replicate_singleton]
 have hm1:(rs.length:Int)*24<=(G4:Int):=by unfold G4;omega
 have hm2:(rs.length:Int)<=(maxLen:Int):=by unfold maxLen;omega
 refine Jk LW λΨ hΨ fr hl h0=>?_;simp[LW,ct,Ol]at hl h0;simp[LW,hl,h0,hR,D2,E8,Vc,hm1,hm2,hrep];refine C8.mono (kV d D _ rfl (by rw[xu];omega) rs hrs.symm [.str (bs []),.vs true 0 [],.vs true 0 [],.vs true 0 [],.vs true 0 [],.vs true 0 []] (true,true) _ _ ?_ ?_ ?_ ?_ ?_ ?_ ?_) ?_<;>first|(simp[hl,Ol];done)|skip
 rintro e G9 ⟨bx,F1⟩ ⟨K,rfl,vf,fs,Ks,Kc,B,hB,hg,hF,hfl,CI,Cc⟩;simp only at hB;subst hB;have B4:G9.length=265:=K.1.trans (by simp[hl]);have p1:A0 G9 1=.ptr 0 0:=A5 K 1 (by simp[hl]);have p2:A0 G9 2=.ptr 1 0:=A5 K 2 (by simp[hl]);have p3:A0 G9 3=.ptr 2 0:=A5 K 3 (by simp[hl]);have p4:A0 G9 4=.int .i64 rs.length:=A5 K 4 (by simp[hl]);have p5:A0 G9 5=.bsl 3 1 0 rs.length:=A5 K 5 (by simp[hl]);clear K;have hS0:=hF.start hfl;have hg1:∀BB,GLs ⟨BB,F1⟩ (⟨true,1,([]:List ByteArray).map .str,.vs true 0 []⟩::⟨true,7,([]:List Ste).map Cl,.vs true 0 []⟩::⟨false,3,fs.map Gy,vf⟩::WL Ks Kc):=λBB=>by
  have:=hg.still;rw[List.map_cons,dC]at this;exact((this.fams (h':=⟨BB,F1⟩) rfl).cons 7 false []).cons 1 false []
 simp[B4];refine C8.mono (kX d D (xn (min (max 1 d.steps.length) 3) ()) (by simp) rs hrs.symm fC [.str (bs []),.vs true 0 [],.vs true 0 [],.vs true 0 [],.vs true 0 [],.vs true 0 []] (true,true) vf fs Ks Kc B hS0 CI Cc _ _ rfl (hg1 _) ?_ ?_ ?_ ?_ ?_ ?_) ?_<;>first|(simp[B4,p1,p3,p4,p5];done)|skip
 rintro e Cs ⟨bx,F2⟩ ⟨K,rfl,vt,vs,ss,Ks2,Kc2,B2,hB2,hg2,hS2,hs1,hs3,hkl2,hcl2⟩;simp only at hB2;subst hB2;have Jc:Cs.length=265:=K.1.trans (by simp[B4]);have q1:A0 Cs 1=.ptr 0 0:=A5 K 1 (by simp[B4,p1]);have q2:A0 Cs 2=.ptr 1 0:=A5 K 2 (by simp[B4,p2]);have q3:A0 Cs 3=.ptr 2 0:=A5 K 3 (by simp[B4,p3]);have q4:A0 Cs 4=.int .i64 rs.length:=A5 K 4 (by simp[B4,p4]);have q5:A0 Cs 5=.bsl 3 1 0 rs.length:=A5 K 5 (by simp[B4,p5]);clear K;have hg3:∀BB,GLs ⟨BB,F2⟩ (⟨true,5,([]:List Gol).map DQ,.vs true 0 []⟩::([⟨true,1,(OR.take ss.length).map .str,vt⟩,⟨true,7,ss.map Cl,vs⟩,⟨false,3,fs.map Gy,vf⟩]++WL Ks2 Kc2)):=λBB=>(hg2.fams (h':=⟨BB,F2⟩) rfl).cons 5 false [];simp[Jc];refine C8.mono (kW d D _ rfl (by rw[xu];omega) rs hr23 fC [.str (bs []),.vs true 0 [],.vs true 0 [],.vs true 0 [],.vs true 0 [],.vs true 0 []] (true,true) vf vt vs fs Ks2 Kc2 B2 [⟨true,1,(OR.take ss.length).map .str,vt⟩,⟨true,7,ss.map Cl,vs⟩,⟨false,3,fs.map Gy,vf⟩] (λr l u h1 h2=>(hS2.ks r l u h1 h2).1) hkl2 hcl2 (λl hl=>by have:=hS2.len l hl;omega) _ _ rfl (hg3 _) ?_ ?_ ?_ ?_ ?_ ?_) ?_<;>first|(simp[Jc,q1,q3,q4,q5];done)|skip
 rintro e fr3 ⟨bx,F3⟩ ⟨K,rfl,vg,gs,B3,hB3,hg4,hP,hgl⟩;simp only at hB3;subst hB3;have hl3:fr3.length=265:=K.1.trans (by simp[Jc]);have r2:A0 fr3 2=.ptr 1 0:=A5 K 2 (by simp[Jc,q2]);have r3:A0 fr3 3=.ptr 2 0:=A5 K 3 (by simp[Jc,q3]);clear K;obtain⟨mg,fg⟩:=(hg4.get (i:=0) rfl).frz;obtain⟨mt,ft⟩:=(hg4.get (i:=1) rfl).frz;obtain⟨ms,fss⟩:=(hg4.get (i:=2) rfl).frz;obtain⟨mf,ff⟩:=(hg4.get (i:=3) rfl).frz;have fg:=λB=>(fg B true).2;have ft:=λB=>(ft B true).2;have fss:=λB=>(fss B true).2;have ff:=λB=>(ff B true).2;simp only at fg ft fss ff;simp[hl3,r2,r3,I9,fg,ft,fss,ff];refine hΨ _ ⟨⟨bs [80],(true,true),rs,mf,fs,mt,OR.take ss.length,ms,ss,mg,gs⟩,by simp[V8],?_⟩;refine⟨rfl,⟨d.three,hrs.symm⟩,⟨hfl,hF.names⟩,hF.fre,rfl,⟨hs1,hs3⟩,λi s hs=>?_,hgl,λg DG=>?_⟩
 .obtain⟨⟨fm,tag,us,a1,a2,a3,a4⟩,b1,b2,b3⟩:=hS2.steps i s hs;refine⟨⟨fm,tag,us,a1,?_,a3,a4⟩,b1,b2,b3⟩;refine xo (i:=i) ?_;simp only;rw[List.getElem?_take,if_pos (List.getElem?_eq_some_iff.1 hs).1];exact a2
 .obtain⟨c1,c2,c3,c4,c5⟩:=hP g DG;exact⟨c1,c2,c3,c4,c5⟩
theorem XS (m:I8) (l:List Msg) (g:FuncId) (p:Msg->Bool) (hg:C4 g=false) (C2:l.length<=1099511627776) (hp:∀x∈l,pc Q g [TT x]=some (.bool (p x))) (fr:Fr) (h:AH) (hl:fr.length=19) (h0:A0 fr 0=sl m 4 (l.map TT)) (h1:A0 fr 1=.fn g []) (h7:A0 fr 7=.int .i64 l.length) (h8:A0 fr 8=.int .i64 0) :
  C8 (lp (A1 (Q8 Q) (G7 M4) K7) (fr,h)) λe D4 h'=>Kp K7.wr fr D4/\(e=.exit 0\/e=.ret/\∃j:Nat,A0 D4 4=.int .i64 (j:Nat)):=by
 refine C3 rfl fr (λn fr h'=>∃(i:Nat),i+n=l.length/\A0 fr 8=.int .i64 (i:Nat)/\True) ?_ l.length h ⟨0,by omega,h8,trivial⟩;rintro J Φ hJ hΦ n G9 H1 K ⟨i,hi,k8,hr⟩;have B4:=K.1.trans hl;have k0:=A5 K 0 h0;have k1:=A5 K 1 h1;have k7:=A5 K 7 h7;clear K;by_cases A6:i<l.length
 .have V7:=E5 i (by omega);have hx:=H8 (f:=TT) (xl A6);have hP:=hp l[i] (xt A6);generalize l[i]=s at *
  obtain⟨f,t,o,pm,ps⟩:=s;simp only[TT]at hx hP;cases hc:p ⟨f,t,o,pm,ps⟩with
  |true =>
   rw[hc]at hP;simp[K7,B4,k0,k1,k7,k8,A6,V7,hx,hP,hg];exact hΦ _ _ _ (.inr ⟨rfl,i,by simp[B4]⟩)
  |false =>
   rw[hc]at hP;simp[K7,B4,k0,k1,k7,k8,A6,V7,hx,hP,hg];exact O4 hJ ⟨i+1,by omega,by simp[B4],trivial⟩
 .simp[K7,B4,k0,k1,k7,k8,A6];exact hΦ _ _ _ (.inl rfl)
theorem iL (x:Msg) (hl:x.parts.length<=1099511627776):pc Q AM [TT x]=some (.bool (decide ((6:Int)<x.parts.length))):=by
 refine N4 Ik λfr hl h0=>?_;simp[Ik,TT]at hl h0;simp[Ik,hl,h0]
theorem ku (d:Drf) (D:DrOk d):∃b,pc Q LD [ct d]=some (.bool b):=by
 obtain⟨b,hC⟩:∃b,pc Q i6 [sl d.sm 4 (d.steps.map TT),.fn AM []]=some (.bool b):=by
  obtain⟨j,hI⟩:∃j:Int,pc Q M4 [sl d.sm 4 (d.steps.map TT),.fn AM []]=some (.int .i64 j):=by
   suffices hq:∃v,pc Q M4 [sl d.sm 4 (d.steps.map TT),.fn AM []]=some v/\∃j:Int,v=.int .i64 j by
    obtain⟨v,h1,j,rfl⟩:=hq;exact⟨j,h1⟩
   refine Ta Aa λΨ hΨ fr hl h0 h1=>?_;simp[Aa]at hl h0 h1;simp[Aa,hl,h0,h1];refine C8.mono (XS d.sm d.steps AM (λx=>decide ((6:Int)<x.parts.length)) rfl D.stepsL (λx hx=>iL x (D.steps x hx).2.2.2.2) _ _ ?_ ?_ ?_ ?_ ?_) ?_<;>first|(simp[hl,h0,h1];done)|skip
   rintro e G9 Jb ⟨K,rfl|⟨rfl,j,k4⟩⟩
   .have B4:G9.length=19:=K.1.trans (by simp[hl]);simp[B4];exact hΨ _ ⟨-1,rfl⟩
   .simp[k4];exact hΨ _ ⟨j,rfl⟩
  refine⟨decide (0<=j),?_⟩;refine Q6 j6 λfr hl h0 h1=>?_;simp[j6]at hl h0 h1;simp[j6,hl,h0,h1,hI]
 by_cases c1:d.fresh.length<=6
 .by_cases c2:d.steps.length<=6
  .by_cases c3:d.goals.length<=6
   .refine⟨!b,?_⟩;have c1':(d.fresh.length:Int)<=6:=by omega
    have c2':(d.steps.length:Int)<=6:=by omega
    have c3':(d.goals.length:Int)<=6:=by omega
    refine N4 T5 λfr hl h0=>?_;simp[T5,ct,Ol]at hl h0;simp[T5,hl,h0,c1',c2',c3',hC]
   .refine⟨false,?_⟩;have c1':(d.fresh.length:Int)<=6:=by omega
    have c2':(d.steps.length:Int)<=6:=by omega
    have c3':¬(d.goals.length:Int)<=6:=by omega
    refine N4 T5 λfr hl h0=>?_;simp[T5,ct,Ol]at hl h0;simp[T5,hl,h0,c1',c2',c3']
  .refine⟨false,?_⟩;have c1':(d.fresh.length:Int)<=6:=by omega
   have c2':¬(d.steps.length:Int)<=6:=by omega
   refine N4 T5 λfr hl h0=>?_;simp[T5,ct,Ol]at hl h0;simp[T5,hl,h0,c1',c2']
 .refine⟨false,?_⟩;have c1':¬(d.fresh.length:Int)<=6:=by omega
  refine N4 T5 λfr hl h0=>?_;simp[T5,ct,Ol]at hl h0;simp[T5,hl,h0,c1']
theorem Uu (n:Nar) (F:Fine n) (S:Lens n) (role step:Int):Tm.sizes (jV n role step)<=4000:=by
 unfold jV;split
 .rename_i hat;obtain⟨r,n',-,hE⟩:=Xm n F S role step;obtain⟨rfl,he⟩:=hE hat;obtain⟨hs0,g1,g2,g3,g4⟩:=MC hat;obtain⟨-,hR⟩:=FQ hs0;obtain⟨hsm,-⟩:=Hy hR.nar he;obtain⟨e2,e3,e5⟩:=Fe he;obtain⟨h1,-,-⟩:=Dt hR.nar;have vx:=Pu (Kq h1).2;obtain⟨me,hme,hg⟩:=aX hat;rw[hg,←Kw (m:=(true,true)) hR.dec he hme,←D3,EW];exact(XM hsm ⟨by omega,by omega,by omega⟩ (by rw[e2]) e5 (LC hR.nar he)).1
 .simp[Tm.sizes]
theorem jW {y:Tm} (h:FS y):FS (D5 y):=by
 intro z hz;rw[Pf]at hz;obtain⟨w,hw,rfl⟩:=xq.1 hz;have:=h w hw;obtain⟨k,nm,s,m,l⟩:=w;simp only[NG,D5,Tm.kind,Tm.sort,Tm.kids,Tm.name]at this ⊢;rw[aU,D3,xk];rcases this with ⟨q1,q2,q3,q4,q5,q6⟩|h
 .exact .inl ⟨q1,q2,q3,by simp[q4],q5,q6⟩
 .exact .inr h
theorem To:∀(l G1:I2),∃z,ES G1 l=G1++z
 | [],G1=>⟨[],by simp[ES]⟩
 |t::l,G1=>by
  obtain⟨z,hz⟩:=To l (KB G1 t);rw[show ES G1 (t::l)=ES (KB G1 t) l from rfl,hz];unfold KB;split
  .exact⟨z,rfl⟩
  .exact⟨t::z,by simp⟩
theorem kN (f:ByteArray->Int) (n:Nar) (me:H7) (role q:Nat):∃z,JA f n me role (q+1)=JA f n me role q++z:=by
 unfold JA;rw[List.take_add,List.filter_append,List.map_append,cQ];exact To _ _
theorem Sp:∀l:List Tm,l.length<=Tm.sizes l
 | []=>xm _
 |t::l=>by
  have h1:=Sp l;have h2:1<=t.size:=by cases t;simp only[Tm.size];omega
  rw[Tm.sizes,List.length_cons];omega
section
variable {n:Nar} (D:Drafted n)
include D
theorem Drafted.at {role q:Nat} (hr:role<n.roles.length) (hq:q<=n.steps.length):Nt n role q=0:=by
 unfold Nt;rw[if_neg (by simp[D.sco]),if_neg (by omega)]
theorem Drafted.vk {role q:Nat} (hr:role<n.roles.length) (hq:q<=n.steps.length):jV n role q=JA (H5 (B5 n) (E4 n)) n n.roles[role] role q:=by
 unfold jV;rw[if_pos (D.at hr hq),xr,xr,List.getD_eq_getElem?_getD,xl hr];rfl
theorem Drafted.grow {role q:Nat} (hr:role<n.roles.length) (hq:q<=n.steps.length) {l:I2} (h:G8 l=jV n role q):∀t∈l,GoodT t/\(LB n role t).2=0/\(LB n role t).1<=q:=by
 intro t ht;have hat:=D.at hr hq;obtain⟨r,n',-,hE⟩:=Xm n D.fine D.lens role q;obtain⟨-,he⟩:=hE hat;obtain⟨-,hR⟩:=FQ D.sco;have hme:=xl hr;have h1:D5 t∈JA (H5 (B5 n) (E4 n)) n n.roles[role] role q:=by
  rw[←D.vk hr hq,←h,D3];exact xp ht
 have h2:=h1;rw[←Kw (m:=(true,true)) hR.dec he hme]at h2;obtain⟨y,hy,e⟩:=xq.1 h2;obtain⟨g1,g2⟩:=Ox hR he (xo hme) hy;have hz:t.size<=40:=by
  rw[←CK _ t (xm _),←e,CK _ y (xm _)];exact g2
 have hgd:FS t:=Kb (by rw[←e];exact jW g1);refine⟨hgd.good hz,D.lrn hme hq (by omega) ?_⟩;have:=xp (f:=D5) h1
 rwa [UA]at this
end
theorem dZ (na:Nar) (D:Drafted na) (role q:Nat) (hq:q+1<=na.steps.length) (m:I8) (l:I2) (C2:l.length<=1048576) (dr ac:E6) (B0:List (List AV)) (hgl:∀t∈l,GoodT t/\(LB na role t).2=0/\(LB na role t).1<=(q+1:Nat)) (fr:Fr) (h:AH) (hBX:h.boxes=dr::ac::(V8 na).cells::B0) (hl:fr.length=99) (h77:A0 fr 77=sl m 4 (A3 l)) (h78:A0 fr 78=.int .i64 l.length) (h5:A0 fr 5=.ptr 2 0) (h6:A0 fr 6=.int .i64 role) (h7:A0 fr 7=.int .i64 q) (h79:A0 fr 79=.int .i64 0) :
  C8 (lp (A1 (Q8 Q) (G7 JO) w9) (fr,h)) λe D4 h'=>Kp w9.wr fr D4/\e=.exit 0:=by
 refine C3 rfl fr (λn fr h'=>∃(i:Nat),i+n=l.length/\A0 fr 79=.int .i64 (i:Nat)/\(∃B,h'.boxes=dr::ac::(V8 na).cells::B)) ?_ l.length h ⟨0,by omega,h79,B0,hBX⟩;rintro J Φ hJ hΦ n G9 H1 K ⟨i,hi,k79,hr⟩;have B4:=K.1.trans hl;have k77:=A5 K 77 h77;have k78:=A5 K 78 h78;have k5:=A5 K 5 h5;have k6:=A5 K 6 h6;have k7:=A5 K 7 h7;clear K;by_cases A6:i<l.length
 .have V7:=E5 i (by omega);obtain⟨B,hB⟩:=hr;obtain⟨bx,F⟩:=H1;simp only at hB;subst hB;have hx:=S4 A6;obtain⟨g1,g2,g3⟩:=hgl l[i] (xt A6);have hL:=Pw na D.fine D.lens role l[i] g1;generalize l[i]=t at *
  have hs3:=D.stepsL.2;have hw:=ol q (by omega);rw[g2]at hL;generalize (LB na role t).1=p at *
  have hnp:¬(q:Int)+1<p:=by omega
  have nb:=U9 na;simp[w9,B4,k77,k78,k5,k6,k7,k79,A6,V7,nb,hx,hL,hw,hnp];exact O4 hJ ⟨i+1,by omega,by simp[B4],_,rfl⟩
 .simp[w9,B4,k78,k79,A6];exact hΦ _ _ _ rfl
theorem bI (x:Int):∃p:Nat,(if (0:Int) > x then 0 else x)=(p:Int):=by
 split
 .exact⟨0,rfl⟩
 .exact⟨x.toNat,by omega⟩
theorem Vl (d:Drf) (D:DrOk d) (role step:Int):pc Q JO [ct d,.agg [.int .i64 role,.int .i64 step]]=some (.bool true):=by
 obtain⟨b,hF⟩:=ku d D;have hA:=iI;obtain⟨n,hM,hD⟩:=ki d D;have hr0:=hD.rolesL;have hs0:=hD.stepsL;obtain⟨p,hp⟩:=bI role;obtain⟨q,hq⟩:=bI step;have hr1:=Bj (k:=.i64) p n.roles.length (by omega);have hr2:=Bj (k:=.i64) q n.steps.length (by omega);have hlr:p % n.roles.length<n.roles.length:=xw _ (by omega);have hls:q % n.steps.length<n.steps.length:=xw _ (by omega);generalize p % n.roles.length=p' at *
 generalize q % n.steps.length=q' at *
 obtain⟨m1,l1,d1,e1⟩:=Uf n hD.fine hD.lens p' q';obtain⟨m2,l2,d2,e2⟩:=Uf n hD.fine hD.lens p' (q'+1:Nat);rw[hD.at hlr (by omega)]at d1 d2;have z1:=Uu n hD.fine hD.lens p' q';have z2:=Uu n hD.fine hD.lens p' (q'+1:Nat);rw[←e1,EW]at z1;rw[←e2,EW]at z2;have y1:=Sp l1;have y2:=Sp l2;obtain⟨z,hz⟩:=kN (H5 (B5 n) (E4 n)) n n.roles[p'] p' q';rw[←hD.vk hlr (by omega),←hD.vk hlr (by omega),←e1,←e2]at hz;have hgl:=hD.grow hlr (by omega) e2;have C2:=congrArg List.length hz;rw[D3,D3,List.length_append,xk,xk]at C2;have htk:G8 (l2.take l1.length)=G8 l1:=by
  rw[D3,List.map_take,←D3,hz,List.take_append_of_le_length (by rw[D3,xk];exact xm _),List.take_of_length_le (by rw[D3,xk];exact xm _)]
 have hzt:Tm.sizes (l2.take l1.length)<=4000:=by
  rw[←EW,htk,EW];exact z1
 have Yu:=λh=>YY h m2 4 (by omega) (A3 l2) l1.length (by rw[Yj];omega);rw[←QI]at Yu;have hLs:=λm=>iF m1 m l1 (l2.take l1.length) (by omega) (by omega);rw[ak l1 _ htk.symm]at hLs;have Nh:¬(l2.length:Int)<(l1.length:Int):=by omega
 have hw:IntKind.i64.wrap ((q':Int)+1)=((q'+1:Nat):Int):=M3 (by omega) (by omega);have hc:((q'+1:Nat):Int)=(q':Int)+1:=by omega
 rw[hc]at d2 hw;have nb:=U9 n;simp only[ct,Ol]at hF hM;cases b with
 |false =>
  refine Q6 o7 λfr hl h0 h1=>?_;simp[o7,ct,Ol]at hl h0 h1;simp[o7,hl,h0,h1,hA,hF]
 |true =>
  refine Q6 o7 λfr hl h0 h1=>?_;simp[o7,ct,Ol]at hl h0 h1;simp[o7,hl,h0,h1,nb,hA,hF,hM,hp,hq,hr1,hr2,d1,d2,Yu,hLs,Nh,hw];refine C8.mono (dZ n hD p' q' (by omega) m2 l2 (by omega) (Ol d) [.int .i64 role,.int .i64 step] [] hgl _ _ rfl ?_ ?_ ?_ ?_ ?_ ?_ ?_) ?_<;>first|(simp[hl];done)|skip
  rintro e G9 Jb ⟨K,rfl⟩;have B4:G9.length=99:=K.1.trans (by simp[hl]);simp[B4]
end Go.Abs.Q
