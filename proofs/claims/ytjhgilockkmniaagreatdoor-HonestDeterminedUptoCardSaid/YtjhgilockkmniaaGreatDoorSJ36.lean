/- A part of the proof. -/
import Derived.Test.YtjhgilockkmniaaGreatDoorSJ35
set_option linter.all false
open List renaming getElem?_eq_getElem->zf0z,take_succ_eq_append_getElem->zf1z,take_of_length_le->zf2z,getElem_mem->zf3z
open Nat renaming le_refl->zf4z
namespace Go.Abs.Q
open Go.Proofs
attribute [local simp] C8 D5 fin H6 G0 Cb BG Af Ae
theorem dS (ss:List Ste) (o:List Int) {i:Nat} (hi:i<o.length) {s:Ste} (hs:ss[o[i].toNat]?=some s):MT ss (o.take (i+1))=MT ss (o.take i)++[s]:=by
 rw[zf1z hi];unfold MT;rw[List.filterMap_append];congr 1;simp[hs]
def yC (na:Nar) (v:AV):List AV:=[.str na.name,sl na.rm 1 (na.roles.map .str),sl na.fm 3 (na.fresh.map Gq),sl na.tm 1 (na.tags.map .str),v,sl na.gm 5 (na.goals.map Be)]
theorem cd (na:Nar) (mo:U8) (o:List Int) (hO:OrdOk na.steps.length o) (C4:o.length<=5) (xc:C6) (B0:List (List AV)) (fr:Fr) (h:AH) (hh:h.boxes=(D2 na).cells::xc::(B0++[yC na (.vs true 0 [])])) (hl:fr.length=167) (h1:A2 fr 1=.ptr 0 0) (h14:A2 fr 14=.ptr (B0.length+2) 0) (h96:A2 fr 96=sl mo 1 (S7 o)) (h97:A2 fr 97=.int .i64 o.length) (h98:A2 fr 98=.int .i64 0) :
  C3 (lp (A4 (N5 Qf) (B9 E7) O0) (fr,h)) λe fr' h'=>Kp O0.wr fr fr'/\e=.exit 6/\∃v,h'.boxes=(D2 na).cells::xc::(B0++[yC na v])/\EY 7 ((MT na.steps o).map Q2) v h':=by
 refine C1 rfl fr (λn fr h'=>∃(i:Nat),i+n=o.length/\A2 fr 98=.int .i64 (i:Nat)/\(∃(v:AV) (A:List Ste),h'.boxes=(D2 na).cells::xc::(B0++[yC na v])/\EY 7 (A.map Q2) v h'/\A=MT na.steps (o.take i)/\A.length<=i)) ?_ o.length h ⟨0,by omega,h98,_,[],hh,Fk _ _,by simp[MT],by simp⟩;rintro J Φ hJ hΦ n E4 H1 K ⟨i,hi,k98,hr⟩;have A6:=K.1.trans hl;have k1:=B8 K 1 h1;have k14:=B8 K 14 h14;have k96:=B8 K 96 h96;have k97:=B8 K 97 h97;clear K;by_cases A9:i<o.length
 .have j0:=C9 i (by omega);obtain⟨v,A,hB,hg,hA,hAl⟩:=hr;obtain⟨bx,fams⟩:=H1;simp only at hB;subst hB;have hx:JY (S7 o) i=some (.int .i64 o[i]):=E5 (f:=AV.int .i64) (zf0z A9);obtain⟨r1,r2⟩:=hO.rng _ (zf3z A9);have hn:=dS na.steps o A9 (zf0z r2);have hy:JY (na.steps.map Q2) o[i].toNat=some (Q2 na.steps[o[i].toNat]):=E5 (zf0z r2);obtain⟨k,hk⟩:∃k:Nat,o[i]=(k:Int):=⟨o[i].toNat,by omega⟩;rw[←hA]at hn;generalize na.steps[o[i].toNat]=s at *
  rw[hk,Int.toNat_natCast]at hy;rw[hk]at hx;have e8:=D4 na;have ey:∀v,yC na v=[.str na.name,sl na.rm 1 (na.roles.map .str),sl na.fm 3 (na.fresh.map Gq),sl na.tm 1 (na.tags.map .str),v,sl na.gm 5 (na.goals.map Be)]:=λv=>rfl;have WD:∀v v',(B0++[yC na v]).set B0.length (yC na v')=B0++[yC na v']:=λv v'=>PX _ _ _;obtain⟨v',h',ha,Ch,JU⟩:=Eb (c:=B9 E7) (bytes:=96) (x:=Q2 s) (h:=⟨(D2 na).cells::xc::(B0++[yC na v]),fams⟩) (Cd hg rfl) rfl (true,true) (by simp;omega) (by simp;omega);have e6:A.map Q2++[Q2 s]=(A++[s]).map Q2:=by simp
  rw[e6]at Ch;obtain⟨bx',fams'⟩:=h';simp only at JU;subst JU;obtain⟨c1,c2,-⟩:=EG Ch;simp only[ey]at ha WD;rw[e8]at ha;clear hA e6;simp[O0,A6,k1,k14,k96,k97,k98,A9,j0,hx,hy,B5,ha,e8,ey,c1,c2,WD,S5];exact H0 hJ ⟨i+1,by omega,by simp[A6],v',A++[s],by rw[e8,ey],Cd Ch rfl,hn.symm,by simp;omega⟩
 .obtain⟨v,A,hB,hg,hA,hAl⟩:=hr;rw[zf2z (by omega)]at hA;simp[O0,A6,k1,k14,k96,k97,k98,A9];exact hΦ _ _ _ ⟨rfl,v,hB,by rw[←hA];exact hg⟩
theorem ZM (na:Nar) (hR:Right na) (F:Fine na) (S:Lens na) (o:List Int) (hO:OrdOk na.steps.length o) (xc:C6) (B0:List (List AV)) (v:AV) (hrl:na.roles.length<=1048576) (fr:Fr) (h:AH) (hh:h.boxes=(D2 na).cells::xc::(B0++[yC na v])) (h17:A2 fr 17=.bool true) (hg:EY 7 ((MT na.steps o).map Q2) v h) (hl:fr.length=167) (h1:A2 fr 1=.ptr 0 0) (h14:A2 fr 14=.ptr (B0.length+2) 0) (h115:A2 fr 115=.int .i64 na.roles.length) (h116:A2 fr 116=.int .i64 0) :
  C3 (lp (A4 (N5 Qf) (B9 E7) J8) (fr,h)) λe fr' h'=>Kp J8.wr fr fr'/\e=.exit 8/\h'=h/\∃b:Bool,A2 fr' 17=.bool b/\(b=true↔Uz na (yN na (true,true) o)):=by
 refine C1 rfl fr (λn fr h'=>∃(i:Nat),i+n=na.roles.length/\A2 fr 116=.int .i64 (i:Nat)/\(∃b:Bool,A2 fr 17=.bool b/\h'=h/\(b=true↔∀r:Nat,r<i->(Gk na r).map Lx=(Gk (yN na (true,true) o) r).map Lx))) ?_ na.roles.length h ⟨0,by omega,h116,true,h17,rfl,by simp⟩;rintro J Φ hJ hΦ n E4 H1 K ⟨i,hi,k116,hr⟩;have A6:=K.1.trans hl;have k1:=B8 K 1 h1;have k14:=B8 K 14 h14;have k115:=B8 K 115 h115;clear K;by_cases A9:i<na.roles.length
 .have j0:=C9 i (by omega);obtain⟨b,k17,rfl,hb⟩:=hr;obtain⟨bx,fams⟩:=H1;simp only at hh;subst hh;obtain⟨m',hm'⟩:=JZ hg;have htm:∀B,DQ ⟨B,fams⟩ v=true:=λB=>by
   rcases hg with ⟨_,rfl⟩|⟨_,k,rfl,h3⟩
   .rfl
   .show (match fams[k]? with|some f=>!f.wr|none=>false)=true
    simp only at h3;rw[h3];rfl
  have hm'':=λB=>hm' B true;simp only at hm'';have ey:∀v,yC na v=[.str na.name,sl na.rm 1 (na.roles.map .str),sl na.fm 3 (na.fresh.map Gq),sl na.tm 1 (na.tags.map .str),v,sl na.gm 5 (na.goals.map Be)]:=λv=>rfl;have e8:=D4 na;have hRy:=Ss hR m' hO;obtain⟨m1,l1,g1,e1⟩:=NB na F S i;obtain⟨m2,l2,g2,e2⟩:=NB (yN na m' o) (eR F m' hO) (lA S m' hO) i;have p1:Jw na i=0:=by unfold Jw;rw[Ma hR,if_neg (by simp),if_neg (by omega)]
  have p2:Jw (yN na m' o) i=0:=by
   unfold Jw;rw[Ma hRy,if_neg (by simp),if_neg (by show ¬((i:Int)<0\/(na.roles.length:Int)<=i);omega)]
  rw[p1]at g1;rw[p2]at g2;obtain⟨z1,y1⟩:=Qw F e1;obtain⟨z2,y2⟩:=Qw (eR F m' hO) e2;have hSl:=S.steps;have uP:(yN na m' o).steps.length=na.steps.length:=(JI hO.rng).trans hO.len;have g8:=Pt (JG m1 m2 l1 l2 (by omega) (by omega) z1 z2);have g1:=Pt g1;have g2:=Pt g2;have er1:∀l:List Ste,(l.map Re).map Lx=l.map Lx:=λl=>by
   rw[List.map_map];apply List.map_congr_left;intro s _;simp only[Function.comp,Lx,Re,bw]
  have hs8:Bg l1 l2=true↔(Gk na i).map Lx=(Gk (yN na (true,true) o) i).map Lx:=by
   rw[MJ,←er1 l1,←er1 l2,e1,e2];exact Iff.rfl
  have hnx:(∀r:Nat,r<i+1->(Gk na r).map Lx=(Gk (yN na (true,true) o) r).map Lx)↔(b=true/\Bg l1 l2=true):=by
   rw[hb,hs8];constructor
   .exact λh=>⟨λr hr=>h r (by omega),h i (by omega)⟩
   .rintro⟨h1,h2⟩ r hr;by_cases hri:r=i
    .rw[hri];exact h2
    .exact h1 r (by omega)
  have g2':pc Qf P2 [.agg [.str na.name,sl na.rm 1 (na.roles.map .str),sl na.fm 3 (na.fresh.map Gq),sl na.tm 1 (na.tags.map .str),sl m' 7 ((MT na.steps o).map Q2),sl na.gm 5 (na.goals.map Be)],.int .i64 (i:Nat)]=some (.tup [sl m2 7 (l2.map Q2),.int .i64 0]):=g2;generalize Bg l1 l2=q at *
  generalize l1.map Q2=L1 at *
  generalize l2.map Q2=L2 at *
  clear e1 e2 hs8 g2 z1 z2;cases b with
  |true =>
   simp[J8,A6,k1,k14,k115,k116,A9,j0,k17,e8,ey,g1,g2',g8,hm'',htm];exact H0 hJ ⟨i+1,by omega,by simp[A6],q,by simp[A6],by rw[e8,ey],by rw[hnx];simp⟩
  |false =>
   simp[J8,A6,k1,k14,k115,k116,A9,j0,k17,e8,ey,g1,g2',g8,hm'',htm];exact H0 hJ ⟨i+1,by omega,by simp[A6],false,by simp[A6],by rw[e8,ey],by rw[hnx];simp⟩
 .obtain⟨b,k17,rfl,hb⟩:=hr;have r7:i=na.roles.length:=by omega
  subst r7;simp[J8,A6,k1,k14,k115,k116,A9];exact hΦ _ _ _ ⟨rfl,rfl,b,by simp[k17],hb⟩
def PO (na:Nar) (o:List Int):Prop:=Uz na (yN na (true,true) o)/\na.steps.map Lx≠(MT na.steps o).map Lx
theorem ck (na:Nar) (hR:Right na) (F:Fine na) (S:Lens na) (h5:na.steps.length<=5) (L:List (List Int)) (hL:∀o∈L,OrdOk na.steps.length o) (mo:U8) (xs:C6) (hX:EH L xs) (xc:C6) (hLl:L.length<=1000) (fr:Fr) (h:AH) (hh:h.boxes=[(D2 na).cells,xc]) (h8:A2 fr 8=.bool false) (hl:fr.length=167) (h1:A2 fr 1=.ptr 0 0) (h88:A2 fr 88=sl mo 1 xs) (h89:A2 fr 89=.int .i64 L.length) (h90:A2 fr 90=.int .i64 0) :
  C3 (lp (A4 (N5 Qf) (B9 E7) O1) (fr,h)) λe fr' h'=>Kp O1.wr fr fr'/\e=.exit 4/\∃b:Bool,A2 fr' 8=.bool b/\(b=true↔∃o∈L,PO na o):=by
 refine C1 rfl fr (λn fr h'=>∃(i:Nat),i+n=L.length/\A2 fr 90=.int .i64 (i:Nat)/\(∃(b:Bool) (B:List (List AV)),A2 fr 8=.bool b/\h'.boxes=(D2 na).cells::xc::B/\(b=true↔∃o∈L.take i,PO na o))) ?_ L.length h ⟨0,by omega,h90,false,[],h8,hh,by simp⟩;rintro J Φ hJ hΦ n E4 H1 K ⟨i,hi,k90,hr⟩;have A6:=K.1.trans hl;have k1:=B8 K 1 h1;have k88:=B8 K 88 h88;have k89:=B8 K 89 h89;clear K;by_cases A9:i<L.length
 .have j0:=C9 i (by omega);obtain⟨b,B,k8,hB,hb⟩:=hr;obtain⟨bx,fams⟩:=H1;simp only at hB;subst hB;obtain⟨m1,gx⟩:=hX.get A9;have hx:JY xs i=some (sl m1 1 (S7 L[i])):=gx;have hO:=hL _ (zf3z A9);have htk:(∃o∈L.take (i+1),PO na o)↔(b=true\/PO na L[i]):=by
   rw[hb,zf1z A9];constructor
   .rintro⟨o,ho,hp⟩;rcases List.mem_append.1 ho with h|h
    .exact .inl ⟨o,h,hp⟩
    .rw[List.mem_singleton]at h;exact .inr (h ▸ hp)
   .rintro(⟨o,ho,hp⟩|hp)
    .exact⟨o,List.mem_append_left _ ho,hp⟩
    .exact⟨_,List.mem_append_right _ (List.mem_singleton_self _),hp⟩
  generalize L[i]=o at *
  have hol:(S7 o).length=o.length:=by simp[S7]
  have e8:=D4 na;have ey:∀v,yC na v=[.str na.name,sl na.rm 1 (na.roles.map .str),sl na.fm 3 (na.fresh.map Gq),sl na.tm 1 (na.tags.map .str),v,sl na.gm 5 (na.goals.map Be)]:=λv=>rfl;have WD:∀(a b:List AV),(B++[a]).set B.length b=B++[b]:=λa b=>PX B a b;simp[O1,A6,k1,k88,k89,k90,A9,j0,k8,hx,e8,WD,S5,hol];refine C3.mono (cd na m1 o hO (by rw[hO.len];exact h5) xc B _ _ ?_ ?_ ?_ ?_ ?_ ?_ ?_) ?_<;>first|(simp[A6,k1,e8,ey,hol];done)|skip
  rintro e T9 ⟨bx2,F2⟩ ⟨K,rfl,v,hB2,hg⟩;simp only at hB2;subst hB2;have FN:T9.length=167:=K.1.trans (by simp[A6]);have p1:A2 T9 1=.ptr 0 0:=B8 K 1 (by simp[A6,k1]);have p8:A2 T9 8=.bool b:=B8 K 8 (by simp[A6,k8]);have p14:A2 T9 14=.ptr (B.length+2) 0:=B8 K 14 (by simp[A6]);have p88:A2 T9 88=sl mo 1 xs:=B8 K 88 (by simp[A6,k88]);have p89:A2 T9 89=.int .i64 L.length:=B8 K 89 (by simp[A6,k89]);have p90:A2 T9 90=.int .i64 (i:Nat):=B8 K 90 (by simp[A6,k90]);clear K;simp[FN,p1,e8];refine C3.mono (ZM na hR F S o hO xc B v (by have:=S.names;omega) _ _ ?_ ?_ ?_ ?_ ?_ ?_ ?_ ?_) ?_<;>first|(simp[FN,p1,p14,e8];done)|exact Cd hg rfl|skip
  rintro e fr3 h3 ⟨K,rfl,rfl,s,q17,hs⟩;have hl3:fr3.length=167:=K.1.trans (by simp[FN]);have r1:A2 fr3 1=.ptr 0 0:=B8 K 1 (by simp[FN,p1]);have r8:A2 fr3 8=.bool b:=B8 K 8 (by simp[FN,p8]);have r14:A2 fr3 14=.ptr (B.length+2) 0:=B8 K 14 (by simp[FN,p14]);have r88:A2 fr3 88=sl mo 1 xs:=B8 K 88 (by simp[FN,p88]);have r89:A2 fr3 89=.int .i64 L.length:=B8 K 89 (by simp[FN,p89]);have r90:A2 fr3 90=.int .i64 (i:Nat):=B8 K 90 (by simp[FN,p90]);clear K;obtain⟨m',hm'⟩:∃m',∀BB:List (List AV),frz ⟨BB,F2⟩ true v=some (sl m' 7 ((MT na.steps o).map Q2)):=by
   obtain⟨m',hm'⟩:=JZ hg;refine⟨m',λBB=>?_⟩;rcases hg with ⟨_,rfl⟩|⟨_,k,rfl,_⟩<;>exact hm' BB true
  have htm:∀BB:List (List AV),tame ⟨BB,F2⟩ v=true:=λBB=>by
   rcases hg with ⟨_,rfl⟩|⟨_,k,rfl,h3⟩
   .rfl
   .show (match F2[k]? with|some f=>!f.wr|none=>false)=true
    simp only at h3;rw[h3];rfl
  have uP:(MT na.steps o).length=na.steps.length:=(JI hO.rng).trans hO.len;have g8:=Pt (JG na.sm m' na.steps (MT na.steps o) (by omega) (by omega) (λs hs=>(F.steps s hs).2.2) (λs hs=>(F.steps s (KU hs)).2.2));have hq:=MJ na.steps (MT na.steps o);have hPO:PO na o↔(s=true/\¬Bg na.steps (MT na.steps o)=true):=by
   unfold PO;rw[hs,hq]
  generalize Bg na.steps (MT na.steps o)=q at *
  rw[hPO]at htk;clear hPO hs hb hq;cases b with
  |true =>
   simp[hl3,r1,r8,r14,r88,r89,r90,q17,j0,e8];exact H0 hJ ⟨i+1,by omega,by simp[hl3],true,_,by simp[hl3],by rw[e8],by rw[htk];simp⟩
  |false =>
   cases s with
   |false =>
    simp[hl3,r1,r8,r14,r88,r89,r90,q17,j0,e8];exact H0 hJ ⟨i+1,by omega,by simp[hl3],false,_,by simp[hl3],by rw[e8],by rw[htk];simp⟩
   |true =>
    simp[hl3,r1,r8,r14,r88,r89,r90,q17,j0,e8,ey,hm',htm,g8];exact H0 hJ ⟨i+1,by omega,by simp[hl3],!q,_,by simp[hl3],by rw[e8],by rw[htk];simp⟩
 .obtain⟨b,B,k8,hB,hb⟩:=hr;rw[zf2z (by omega)]at hb;simp[O1,A6,k1,k88,k89,k90,A9];exact hΦ _ _ _ ⟨rfl,b,by simp[k8],hb⟩
theorem KZ (n:Nar) (F:Fine n) (S:Lens n) (hS:Ik n.steps+KY n.goals<=1099511627776) (hA:pc Qf Fo []=some (.bool true)):pc Qf E7 [D2 n]=some (.bool true):=by
 obtain⟨b,hLi⟩:=dL n F hS;have hLi:=Pt hLi;have nb:=D4 n;cases b with
 |false =>
  refine rv T2 rfl (by simp[C7]) λfr hl ha=>?_;have h0:=ha 0;clear ha;simp[C7]at hl h0;simp[C7,hl,h0,hA,hLi,nb]
 |true =>
  by_cases h5:n.steps.length<=5
  .have h5':¬(5:Int)<n.steps.length:=by omega
   have g3:=Pt (Ow n F S);obtain⟨r,gR,hE⟩:=Ua n F S;have gR:=Pt gR;have rb:=D4 r;by_cases hz:(Bv n).2=0
   .obtain⟨h00,hR⟩:=Ih hz;have he:=(TZ (hE hz)).2.2.2.2.1;have hrl:r.steps.length=n.steps.length:=by have:=congrArg List.length he;simpa using this
    have hrs:∀s∈r.steps,s.msg.size<=1099511627776:=λs hs=>by
     have h1:Re s∈n.steps.map (LC (W6 (B4 n) (J7 n))):=by rw[←he];exact List.mem_map_of_mem hs
     obtain⟨s',hs',e⟩:=List.mem_map.1 h1;have:=(F.steps s' hs').2.2;have e2:(Hw s.msg).size=(ED (W6 (B4 n) (J7 n)) s'.msg).size:=by
      have:=congrArg (λx=>x.msg.size) e;exact this.symm
     rw[Rf _ _ (zf4z _),VC _ _ _ (zf4z _)]at e2;omega
    have hn1:=(Qm (Kx (Gu hR.nar).1).2).2.2.2.2.1;obtain⟨mO,ordX,gO,hX⟩:=Zd n.steps.length h5;have gO:=Pt gO;have hB:bS n=Pg n.steps:=if_pos hz;rw[hB,hz]at g3;rw[h00]at gR;refine rv T2 rfl (by simp[C7]) λfr hl ha=>?_;have h0:=ha 0;clear ha;simp[C7]at hl h0;simp[C7,hl,h0,hA,hLi,nb,rb,h5',g3,gR];refine C3.mono (co r n (by omega) hrs false _ _ ?_ ?_ ?_ ?_ ?_ ?_) ?_<;>first|(simp[hl,nb,rb];done)|skip
    rintro e E4 ⟨bx,F1⟩ ⟨K,rfl,hBx,b9,p9⟩;simp only at hBx;subst hBx;have A6:E4.length=167:=K.1.trans (by simp[hl]);have p1:A2 E4 1=.ptr 0 0:=B8 K 1 (by simp[hl]);have p3:A2 E4 3=.bool (Pg n.steps):=B8 K 3 (by simp[hl]);have p5:A2 E4 5=.ptr 1 0:=B8 K 5 (by simp[hl]);have p8:A2 E4 8=.bool false:=B8 K 8 (by simp[hl]);clear K;have Nj:=hX.len;simp[A6,p1,p5,rb,hrl,gO,Nj];refine C3.mono (ck n hR F S h5 (Ie n.steps.length) (λo ho=>OrdOk.of h5 ho) mO ordX hX (D2 r).cells (by have:=US _ h5;omega) _ _ ?_ ?_ ?_ ?_ ?_ ?_ ?_) ?_<;>first|(simp[A6,p1,p8,rb,Nj];done)|skip
    rintro e T9 h2 ⟨K,rfl,ob,q8,hob⟩;have FN:T9.length=167:=K.1.trans (by simp[A6]);have q3:A2 T9 3=.bool (Pg n.steps):=B8 K 3 (by simp[A6,p3]);have q9:A2 T9 9=.bool b9:=B8 K 9 (by simp[A6,p9]);clear K;have key:ob=!Pg n.steps:=by
     cases hc:Pg n.steps with
     |true =>
      cases ob with
      |false=>rfl
      |true =>
       obtain⟨o,ho,h1,h2⟩:=hob.1 rfl;exact absurd (be hR hc (OrdOk.of h5 ho) h1) h2
     |false=>exact hob.2 (bg hR h5 hc (true,true))
    rw[key]at q8;cases hc:Pg n.steps with
    |true =>
     rw[hc]at q3 q8;simp[FN,q3,q8,q9]
    |false =>
     rw[hc]at q3 q8;simp[FN,q3,q8,q9]
   .generalize bS n=cb at *
    generalize (Bv n).2=e at *
    generalize (Bv n).1=e1 at *
    refine rv T2 rfl (by simp[C7]) λfr hl ha=>?_;have h0:=ha 0;clear ha;simp[C7]at hl h0;simp[C7,hl,h0,hA,hLi,nb,rb,h5',g3,gR,hz]
  .have h5':(5:Int)<n.steps.length:=by omega
   refine rv T2 rfl (by simp[C7]) λfr hl ha=>?_;have h0:=ha 0;clear ha;simp[C7]at hl h0;simp[C7,hl,h0,hA,hLi,nb,h5']
end Go.Abs.Q
