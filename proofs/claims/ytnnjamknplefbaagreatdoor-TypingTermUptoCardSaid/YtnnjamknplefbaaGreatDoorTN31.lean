/- A part of the proof. -/
import Derived.Test.YtnnjamknplefbaaGreatDoorTN30
set_option linter.all false
open List renaming map->zf0z,getElem?_append_right->zf1z,replicate->zf2z,drop_eq_getElem_cons->zf3z,getElem?_append_left->zf4z,take_succ_cons->zf5z,map_append->zf6z,map_cons->zf8z
open Bool renaming true_and->zf7z
open Nat renaming sub_self->zf9z,le_refl->zg0z
set_option linter.all false
namespace Go.Abs.Q
open Go.Proofs
attribute [local simp] E5 E6 fin J4 H8 Q3 S6
theorem jp:∀{n:Nat} {t:Tm} {l:Be},Pp n t=some l->Tm.sizes l+n<=t.size
 |0,t,l,h=>by
  simp only[Pp,Option.some.injEq]at h;subst h;simp[Tm.sizes]
 |n+1,t,l,h=>by
  simp only[Pp]at h;split at h
  .split at h
   .rename_i a b e;rw[Option.map_eq_some_iff]at h;obtain⟨l',h1,rfl⟩:=h;have hs:=t.kids_size;rw[e]at hs;simp only[Tm.sizes]at hs ⊢;have:=jp h1;omega
   .cases h
  .cases h
structure PtsI (s:RS) (l:List Tm) (i:Nat) (s':RS):Prop where
 inv:RInv s'
 gro:RGro (8*Tm.sizes (l.take i)+i) s s'
theorem qY(l:Be)(i:Nat)(h:i<l.length):Tm.sizes (l.take (i+1))=Tm.sizes (l.take i)+l[i].size:=by
 induction l generalizing i with
 |nil=>simp at h
 |cons a l ih =>
  cases i with
  |zero=>simp[Tm.sizes]
  |succ i =>
   simp only[zf5z,Tm.sizes,List.getElem_cons_succ];rw[ih i oE];omega
theorem dK(l:Be)(i:Nat):Tm.sizes (l.take i)<=Tm.sizes l:=by
 induction l generalizing i with
 |nil=>simp[Tm.sizes]
 |cons a l ih =>
  cases i with
  |zero=>simp[Tm.sizes]
  |succ i =>
   have:=ih i;simp only[zf5z,Tm.sizes];omega
theorem wl(f:Tm->Option Typ)(pub:Bool)(ks:List Int)(l:Be)(i:Nat)(h:i<l.length)(hk:i<ks.length):Ia f pub (ks.drop i) (l.drop i)=(match f l[i]with|some u=>(if pub=true then OJ u else Sd u (Q9 ks[i]))&&Ia f pub (ks.drop (i+1)) (l.drop (i+1))|none=>false):=by
 rw[zf3z h,zf3z hk,Ia]
 all_goals (cases f l[i]<;>rfl)
theorem Xc{out:List Int}{v:AV}{B:List (List AV)}{F:List Fam}(hg:IT false 1 (out.map (AV.int .i64)) v ⟨B,F⟩)(ho:out.length<=1000)(k:Int) :
  ∃v' F',(∀BB,N0 (B1 Cl) ⟨BB,F⟩ 1 8 v (sl (true,true) 1 [.int .i64 k])=some (v',⟨BB,F'⟩))/\∀BB,IT false 1 ((out++[k]).map (AV.int .i64)) v' ⟨BB,F'⟩:=by
 obtain⟨v',F',a1,a2,-⟩:=Gt (c:=B1 Cl) (sz:=1) (bytes:=8) (x:=sl (true,true) 1 [AV.int .i64 k]) (ys:=[AV.int .i64 k]) hg (W0 _ _ _ _) (by simp only[List.length_map,List.length_cons,List.length_nil,K7,maxLen];omega);refine⟨v',F',a1,λBB=>?_⟩;rw[zf6z];exact a2 BB
theorem VH(a b c y:b9)(R:List (List AV))(F:List Fam)(z:AV):AW ⟨a::b::c::(R++[y,[.mbox [.junk] []],[.mbox [.junk] []]]),F⟩ 2 z=some (.ptr (R.length+1+1+1+1) 0,⟨a::b::c::(R++[y,z.cells,[.mbox [.junk] []]]),F⟩):=by
 have:=Gi (a::b::c::(R++[y])) F z;simpa using this
theorem VG(a b c y w:b9)(R:List (List AV))(F:List Fam)(z:AV):AW ⟨a::b::c::(R++[y,w,[.mbox [.junk] []]]),F⟩ 1 z=some (.ptr (R.length+1+1+1+1+1) 0,⟨a::b::c::(R++[y,w,z.cells]),F⟩):=by
 have:=Gh (a::b::c::(R++[y])) F w z;simpa using this
theorem three{α:Type}{l:List α}{a b c:α}(h0:l[0]?=some a)(h1:l[1]?=some b)(h2:l[2]?=some c):∃r,l=a::b::c::r:=by
 rcases l with _|⟨x,_|⟨y,_|⟨z,r⟩⟩⟩<;>simp at h0 h1 h2
 exact⟨r,by rw[h0,h1,h2]⟩
set_option maxHeartbeats 4000000 in
theorem lD(n:Nat)(ih:YZ n)(s:RS)(p:Pyl)(m:Gg)(l:Be)(pub:Bool)(hpl:l.length=p.parts.length)(D6:l.length<=1000)(O9:∀x∈l,Ls x/\x.size<=n)(hb:s.l.length+8*Tm.sizes l+l.length<=900000)(z:b9)(hz:z=(JA ⟨(true,false),[],(true,false),[],(true,false),[],(true,false),[],(true,false),[],0,0,0⟩).cells)(fr:Fr)(h:AH)(I0:RInv s)(hB:h.boxes=[(JA s).cells,(Bc p).cells,z])(h11:B2 fr 11=.vs true 0 [])(hl:fr.length=91)(h2:B2 fr 2=sl m 4 (C4 l))(h3:B2 fr 3=.bool pub)(h4:B2 fr 4=.ptr 0 0)(h5:B2 fr 5=.ptr 1 0)(h8:B2 fr 8=.ptr 2 0)(h12:B2 fr 12=.int .i64 0) :
  D7 (lp (A8 (m6 Q) (B1 Cl) M5) (fr,h)) λe B8 h'=>Kp M5.wr fr B8/\(e=.exit 0/\Ia (ty s.tys s.effs) pub p.parts l=true/\(∃(s':RS) (out:List Int),h'.boxes[0]?=some (JA s').cells/\h'.boxes[2]?=some z/\IT false 1 (out.map (AV.int .i64)) (B2 B8 11) h'/\PtsI s l l.length s'/\out.length=l.length)\/e=.ret/\B2 B8 9=.vs true 0 []/\B2 B8 10=.bool false/\Ia (ty s.tys s.effs) pub p.parts l=false/\∃s':RS,h'.boxes[2]?=some (JA s').cells):=by
 refine E9 rfl fr (λn fr h'=>∃(i:Nat),i+n=l.length/\B2 fr 12=.int .i64 (i:Nat)/\(∃(s':RS) (out:List Int),h'.boxes[0]?=some (JA s').cells/\h'.boxes[1]?=some (Bc p).cells/\h'.boxes[2]?=some z/\IT false 1 (out.map (AV.int .i64)) (B2 fr 11) h'/\out.length=i/\PtsI s l i s'/\Ia (ty s.tys s.effs) pub p.parts l=Ia (ty s.tys s.effs) pub (p.parts.drop i) (l.drop i))) ?_ l.length h ⟨0,a_,h12,⟨s,[],by rw[hB];rfl,by rw[hB];rfl,by rw[hB];rfl,by rw[h11];exact Qd _ _ _,rfl,⟨I0,RGro.refl _ _⟩,e_⟩⟩;rintro J Φ hJ hΦ n CT H1 K ⟨i,hi,k12,hr⟩;have C6:=K.1.trans hl;have k2:=D4 K 2 h2;have k3:=D4 K 3 h3;have k4:=D4 K 4 h4;have k5:=D4 K 5 h5;have k8:=D4 K 8 h8;clear K;by_cases C2:i<l.length
 .have L4:=J6 i a_;obtain⟨s1,out,b0,b1,b2,hg,ho,P,hr⟩:=hr;obtain⟨bx,F⟩:=H1;simp only at b0 b1 b2;have hx:=Gk C2;have hpk:i<p.parts.length:=by omega
  have hy:=J5 (f:=AV.int .i64) (List.getElem?_eq_getElem hpk);obtain⟨ok1,sz1⟩:=O9 l[i] (List.getElem_mem C2);have st:=qY l i C2;have stl:=dK l (i+1);rw[wl _ _ _ _ _ C2 hpk]at hr;have L1:=P.gro.len;obtain⟨s2,k2,h2',I2,G2,r2⟩:=ih l[i] s1 sz1 ok1 P.inv a_;have L2:=G2.len;rw[P.gro.tys,P.gro.effs]at r2;generalize l[i]=x at *
  generalize p.parts[i]=kk at *
  have xg:=G9 x;have cx:=I7 x;have sg1:=qT s1;have sg2:=qT s2;rw[AM]at b0;rw[DI]at b1;rw[hz,AM]at b2;obtain⟨rest,rfl⟩:=three b0 b1 b2;rcases r2 with ⟨rfl,t2⟩|⟨j2,J2,rfl,hj2,f2,v2,t2⟩
  .rw[t2]at hr;simp[M5,C6,k2,k3,k4,k5,k8,k12,C2,L4,hx,xg,h2'];exact hΦ _ _ _ (.inr ⟨rfl,d_,d_,hr,s1,e_⟩)
  .rw[t2]at hr;simp only at hr;have p2:¬(j2:Int)<0:=by omega
   obtain⟨x2,y2⟩:=HS hj2;have hs:=Fd kk;have hS:=tX J2.u (Q9 kk) f2 (AR kk);have hE:=QN J2.u (Q9 kk) ⟨f2.1,λp hp=>(f2.2 p hp).2⟩;have hO:=Iz J2.u f2;have u2:=Ax J2.u;have KB:∀T:List (List AV),KQ 0 1 (JA s2).cells (Bc p).cells ⟨(JA s2).cells::(Bc p).cells::T,F⟩:=λT=>⟨rfl,rfl⟩;simp only[AM,DI]at KB;have fl4:=vI (p:=0) (bp:=1) (cs:=(JA s2).cells) (cx:=(Bc p).cells) (i:=4) (x:=sl s2.lm 14 (s2.l.map V8)) rfl rfl;have fl1:=KQ_x (p:=0) (bp:=1) (cs:=(JA s2).cells) (cx:=(Bc p).cells) (i:=1) (x:=sl p.pm 1 (p.parts.map (AV.int .i64))) (by rw[DI];rfl) (by rw[DI];rfl);simp only[AM,DI]at fl4 fl1;have P2t:RGro (8*Tm.sizes (l.take (i+1))+i) s s2:=(P.gro.trans G2).mono a_;have P2:PtsI s l (i+1) s2:=⟨I2,P2t.mono a_⟩;cases pub with
   |true =>
    cases o:OJ J2.u with
    |false =>
     rw[o]at hO hr;simp[M5,C6,k2,k3,k4,k5,k8,k12,C2,L4,hx,xg,h2',p2];refine E8 (λk=>rest.length+1+1+1+1+k) (KQ 0 1 [sl s2.tm 6 (zf0z r8 s2.tys),sl s2.em 3 (zf0z Dp s2.effs),sl s2.im 1 (zf0z (AV.int IntKind.i64) s2.ti),sl s2.jm 1 (zf0z (AV.int IntKind.i64) s2.ei),sl s2.lm 14 (zf0z V8 s2.l),AV.int IntKind.i64 0,AV.int IntKind.i64 s2.role,AV.int IntKind.i64 s2.blk,AV.int IntKind.i64 s2.bad,AV.vs true 0 [],AV.int IntKind.i64 0,AV.str (bs []),AV.int IntKind.i64 0,AV.vs true 0 [],AV.int IntKind.i64 0,AV.vs true 0 [],AV.int IntKind.i64 0,AV.int IntKind.i64 0,AV.vs true 0 []] [.str p.tag,sl p.pm 1 (p.parts.map (AV.int .i64)),.int .i64 p.goal,sl p.dm 1 (p.data.map (AV.int .i64))]) [.nil,.fl,.nil,.nil,.nil,.rw,.nil,.fl,.nil,.nil,.rw,.pu,.al 0,.al 1,.sb 0,.sb 1] 2 (λa b e=>by omega) rfl f9 ?_;simp[M5,C6,k2,k3,k4,k5,k8,k12,C2,L4,KB,fl4,fl1,hx,xg,x2,y2,Q8,hy,hpk,hs,AH.holes,ET,VH,VG,show ∀x,M9 (AV.int .i64 x)=true from λ_=>rfl,u2,hO];exact hΦ _ _ _ (.inr ⟨rfl,d_,d_,h_,s2,e_⟩)
    |true =>
     rw[o]at hO hr;obtain⟨v',F',hap,Jj⟩:=Xc hg a_ (j2:Nat);simp[M5,C6,k2,k3,k4,k5,k8,k12,C2,L4,hx,xg,h2',p2];refine E8 (λk=>rest.length+1+1+1+1+k) (KQ 0 1 [sl s2.tm 6 (zf0z r8 s2.tys),sl s2.em 3 (zf0z Dp s2.effs),sl s2.im 1 (zf0z (AV.int IntKind.i64) s2.ti),sl s2.jm 1 (zf0z (AV.int IntKind.i64) s2.ei),sl s2.lm 14 (zf0z V8 s2.l),AV.int IntKind.i64 0,AV.int IntKind.i64 s2.role,AV.int IntKind.i64 s2.blk,AV.int IntKind.i64 s2.bad,AV.vs true 0 [],AV.int IntKind.i64 0,AV.str (bs []),AV.int IntKind.i64 0,AV.vs true 0 [],AV.int IntKind.i64 0,AV.vs true 0 [],AV.int IntKind.i64 0,AV.int IntKind.i64 0,AV.vs true 0 []] [.str p.tag,sl p.pm 1 (p.parts.map (AV.int .i64)),.int .i64 p.goal,sl p.dm 1 (p.data.map (AV.int .i64))]) [.nil,.fl,.nil,.nil,.nil,.rw,.nil,.fl,.nil,.nil,.rw,.pu,.al 0,.al 1,.sb 0,.sb 1] 2 (λa b e=>by omega) rfl f9 ?_;simp[M5,C6,k2,k3,k4,k5,k8,k12,C2,L4,KB,fl4,fl1,hx,xg,x2,y2,Q8,hy,hpk,hs,AH.holes,ET,VH,VG,show ∀x,M9 (AV.int .i64 x)=true from λ_=>rfl,u2,hO,A9,hap,L4];exact V6 hJ ⟨i+1,a_,d_,s2,out++[((j2:Nat):Int)],e_,e_,by simp[hz],by simp[C6];simpa using Jj _,by simp[ho],P2,h_⟩
   |false =>
    cases o:Sd J2.u (Q9 kk)with
    |false =>
     rw[o]at hS hr;simp[M5,C6,k2,k3,k4,k5,k8,k12,C2,L4,hx,xg,h2',p2];refine E8 (λk=>rest.length+1+1+1+1+k) (KQ 0 1 [sl s2.tm 6 (zf0z r8 s2.tys),sl s2.em 3 (zf0z Dp s2.effs),sl s2.im 1 (zf0z (AV.int IntKind.i64) s2.ti),sl s2.jm 1 (zf0z (AV.int IntKind.i64) s2.ei),sl s2.lm 14 (zf0z V8 s2.l),AV.int IntKind.i64 0,AV.int IntKind.i64 s2.role,AV.int IntKind.i64 s2.blk,AV.int IntKind.i64 s2.bad,AV.vs true 0 [],AV.int IntKind.i64 0,AV.str (bs []),AV.int IntKind.i64 0,AV.vs true 0 [],AV.int IntKind.i64 0,AV.vs true 0 [],AV.int IntKind.i64 0,AV.int IntKind.i64 0,AV.vs true 0 []] [.str p.tag,sl p.pm 1 (p.parts.map (AV.int .i64)),.int .i64 p.goal,sl p.dm 1 (p.data.map (AV.int .i64))]) [.nil,.fl,.nil,.nil,.nil,.rw,.nil,.fl,.nil,.nil,.rw,.pu,.al 0,.al 1,.sb 0,.sb 1] 2 (λa b e=>by omega) rfl f9 ?_;simp[M5,C6,k2,k3,k4,k5,k8,k12,C2,L4,KB,fl4,fl1,hx,xg,x2,y2,Q8,hy,hpk,hs,AH.holes,ET,VH,VG,show ∀x,M9 (AV.int .i64 x)=true from λ_=>rfl,u2,hS];exact hΦ _ _ _ (.inr ⟨rfl,d_,d_,h_,s2,e_⟩)
    |true =>
     rw[o]at hS hr;cases e:Hw J2.u (Q9 kk)with
     |true =>
      rw[e]at hE;obtain⟨v',F',hap,Jj⟩:=Xc hg a_ (j2:Nat);simp[M5,C6,k2,k3,k4,k5,k8,k12,C2,L4,hx,xg,h2',p2];refine E8 (λk=>rest.length+1+1+1+1+k) (KQ 0 1 [sl s2.tm 6 (zf0z r8 s2.tys),sl s2.em 3 (zf0z Dp s2.effs),sl s2.im 1 (zf0z (AV.int IntKind.i64) s2.ti),sl s2.jm 1 (zf0z (AV.int IntKind.i64) s2.ei),sl s2.lm 14 (zf0z V8 s2.l),AV.int IntKind.i64 0,AV.int IntKind.i64 s2.role,AV.int IntKind.i64 s2.blk,AV.int IntKind.i64 s2.bad,AV.vs true 0 [],AV.int IntKind.i64 0,AV.str (bs []),AV.int IntKind.i64 0,AV.vs true 0 [],AV.int IntKind.i64 0,AV.vs true 0 [],AV.int IntKind.i64 0,AV.int IntKind.i64 0,AV.vs true 0 []] [.str p.tag,sl p.pm 1 (p.parts.map (AV.int .i64)),.int .i64 p.goal,sl p.dm 1 (p.data.map (AV.int .i64))]) [.nil,.fl,.nil,.nil,.nil,.rw,.nil,.fl,.nil,.nil,.rw,.pu,.al 0,.al 1,.sb 0,.sb 1] 2 (λa b e=>by omega) rfl f9 ?_;simp[M5,C6,k2,k3,k4,k5,k8,k12,C2,L4,KB,fl4,fl1,hx,xg,x2,y2,Q8,hy,hpk,hs,AH.holes,ET,VH,VG,show ∀x,M9 (AV.int .i64 x)=true from λ_=>rfl,u2,hS,hE,A9,hap,L4];exact V6 hJ ⟨i+1,a_,d_,s2,out++[((j2:Nat):Int)],e_,e_,by simp[hz],by simp[C6];simpa using Jj _,by simp[ho],P2,h_⟩
     |false =>
      rw[e]at hE;have hvk:KT (Q9 kk)=0:=by
       unfold Sd at o;simp only[Bool.and_eq_true,decide_eq_true_eq]at o;exact o.1.2
      obtain⟨s3,hA,I3,G3,R3⟩:=Et I2 P2t (by have:=P2t.len;omega) 22 (true,true) [(j2:Int)] x (Q9 kk) (AR kk) hvk;have dv:sl (true,true) 1 [AV.int .i64 (j2:Nat)]=sl (true,true) 1 ([(j2:Int)].map (AV.int .i64)):=rfl;rw[←dv]at hA;have P3:PtsI s l (i+1) s3:=⟨I3,G3.mono a_⟩;have sg3:=qT s3;obtain⟨v',F',hap,Jj⟩:=Xc hg a_ (s2.l.length:Nat);simp[M5,C6,k2,k3,k4,k5,k8,k12,C2,L4,hx,xg,h2',p2];refine E8 (λk=>rest.length+1+1+1+1+k) (KQ 0 1 [sl s2.tm 6 (zf0z r8 s2.tys),sl s2.em 3 (zf0z Dp s2.effs),sl s2.im 1 (zf0z (AV.int IntKind.i64) s2.ti),sl s2.jm 1 (zf0z (AV.int IntKind.i64) s2.ei),sl s2.lm 14 (zf0z V8 s2.l),AV.int IntKind.i64 0,AV.int IntKind.i64 s2.role,AV.int IntKind.i64 s2.blk,AV.int IntKind.i64 s2.bad,AV.vs true 0 [],AV.int IntKind.i64 0,AV.str (bs []),AV.int IntKind.i64 0,AV.vs true 0 [],AV.int IntKind.i64 0,AV.vs true 0 [],AV.int IntKind.i64 0,AV.int IntKind.i64 0,AV.vs true 0 []] [.str p.tag,sl p.pm 1 (p.parts.map (AV.int .i64)),.int .i64 p.goal,sl p.dm 1 (p.data.map (AV.int .i64))]) [.nil,.fl,.nil,.nil,.nil,.rw,.nil,.fl,.nil,.nil,.rw,.pu,.al 0,.al 1,.sb 0,.sb 1] 2 (λa b e=>by omega) rfl f9 ?_;simp[M5,C6,k2,k3,k4,k5,k8,k12,C2,L4,KB,fl4,fl1,hx,xg,x2,y2,Q8,hy,hpk,hs,AH.holes,ET,VH,VG,show ∀x,M9 (AV.int .i64 x)=true from λ_=>rfl,u2,hS,hE,A9,hA,hap,L4];exact V6 hJ ⟨i+1,a_,d_,s3,out++[((s2.l.length:Nat):Int)],e_,e_,by simp[hz],by simp[C6];simpa using Jj _,by simp[ho],P3,h_⟩
 .obtain⟨s1,out,b0,b1,b2,hg,ho,P,hr⟩:=hr;have BR:i=l.length:=by omega
  subst BR;rw[List.drop_length]at hr;have hpt:Ia (ty s.tys s.effs) pub p.parts l=true:=by rw[hr];cases p.parts.drop l.length<;>rfl
  simp[M5,C6,k2,k3,k4,k5,k8,k12,C2];exact hΦ _ _ _ (.inl ⟨rfl,hpt,s1,out,b0,b2,by simp[C6];exact hg,P,ho⟩)
theorem three2{α:Type}{l:List α}{a c:α}(h0:l[0]?=some a)(h2:l[2]?=some c):∃b r,l=a::b::c::r:=by
 rcases l with _|⟨x,_|⟨y,_|⟨z,r⟩⟩⟩<;>simp at h0 h2
 exact⟨y,r,by rw[h0,h2]⟩
def PartV(s:RS)(l:List Tm)(ok:Bool)(r:AV):Prop:=∃(s':RS) (m:Bool×Bool) (out:List Int),r=.tup [JA s',sl m 1 (out.map (AV.int .i64)),.bool ok]/\(ok=true->RInv s'/\RGro (8*Tm.sizes l+l.length) s s'/\out.length<=1000)
theorem xE(n:Nat)(ih:YZ n)(s:RS)(I:RInv s)(p:Pyl)(m:Gg)(l:Be)(pub:Bool)(hpl:l.length=p.parts.length)(D6:l.length<=1000)(O9:∀x∈l,Ls x/\x.size<=n)(hb:s.l.length+8*Tm.sizes l+l.length<=900000) :
  ∃r,pc Q Cl [JA s,Bc p,sl m 4 (C4 l),.bool pub]=some r/\PartV s l (Ia (ty s.tys s.effs) pub p.parts l) r:=by
 have Eg:=lD n ih s p m l pub hpl D6 O9 hb _ rfl;have hnil:sl (true,false) 1 (([]:List Int).map (AV.int .i64))=.vs true 0 []:=rfl;refine AD (C:=Q) ((IU _).trans rfl) ((HM _).trans Yh) (by simp[LV]) λΨ hΨ fr hl ha=>?_;rw[LW];have h0:=ha 0;have h1:=ha 1;have h2:=ha 2;have h3:=ha 3;clear ha;simp[LV]at hl h0 h1 h2 h3;simp[LV,hl,h0,h1,h2,h3];refine D7.mono (Eg _ _ ?_ ?_ ?_ ?_ ?_ ?_ ?_ ?_ ?_ ?_) ?_<;>first|exact I|rfl|(simp[hl,h0,h1,h2,h3];done)|skip
 rintro e B8 ⟨bx,F⟩ ⟨K,⟨rfl,hp,s',out,b0,b2,hg,P,ho⟩|⟨rfl,k9,k10,hp,s',b2⟩⟩
 .have hl':B8.length=91:=K.1.trans c_;have k4:B2 B8 4=.ptr 0 0:=D4 K 4 c_;have k8:B2 B8 8=.ptr 2 0:=D4 K 8 c_;simp only at b0 b2;rw[AM]at b0 b2;obtain⟨c,rest,rfl⟩:=three2 b0 b2;obtain⟨m',z⟩:=CS hg;have z1:=λB=>(z B true rfl).1;have z2:=λB=>(z B true rfl).2;obtain⟨c1,c2,c3,-⟩:=L5 hg;simp only at z1 z2;rw[hp]at hΨ;simp[hl',k4,k8,c1,c2,c3,z1,z2];exact hΨ _ ⟨s',m',out,rfl,λ_=>⟨P.inv,by have:=P.gro;rw[List.take_length]at this;exact this,a_⟩⟩
 .have k8:B2 B8 8=.ptr 2 0:=D4 K 8 c_;simp only at b2;rw[AM]at b2;rw[hp]at hΨ;simp[k8,k9,k10,b2];exact hΨ _ ⟨s',(true,false),[],rfl,λh=>by cases h⟩
theorem mL{c:Ctx}(hc:c.mutApp=false){xs:b9}{v x:AV}{h:AH}(hg:IT false 1 xs v h){ys:b9}(hx:elems h 1 x=some ys)(hl:xs.length+ys.length<=100000) :
  ∃v' F',(∀BB,N0 c ⟨BB,h.fams⟩ 1 8 v x=some (v',⟨BB,F'⟩))/\(∀BB,IT false 1 (xs++ys) v' ⟨BB,F'⟩)/\v'.isTup=false/\v'.cells=[v']/\BE [v']=false/\∃m,∀BB,frz ⟨BB,F'⟩ true v'=some (sl m 1 (xs++ys))/\Cr ⟨BB,F'⟩ true v'=some (sl m 1 (xs++ys)):=by
 have Jj:IT c.mutApp 1 xs v h:=by rw[hc];exact hg
 obtain⟨v',F',a1,a2,-⟩:=Gt (c:=c) (sz:=1) (bytes:=8) Jj hx (by simp only[K7,maxLen];omega);rw[hc]at a2;obtain⟨c1,c2,c3,-⟩:=L5 (a2 []);obtain⟨m,z⟩:=CS (a2 []);exact⟨v',F',a1,a2,c1,c2,c3,m,λBB=>z BB true rfl⟩
set_option maxHeartbeats 4000000 in
theorem UT(n:Nat)(ih:YZ n)(rule:Int)(t q key:Tm)(hn0:KW (C4 t.kids) 0=some (I8 q))(oq:Ls q)(hq:q.size<=n+1)(hkey:Ls key)(s:RS)(I:RInv s)(jn:Nat)(J:Jdg)(hj:s.l[jn]?=some J)(w3:V7 J.u)(w2:KT J.u=0)(hb:s.l.length+8*q.size<=900000) :
  Bf DF [JA s,.int .i64 rule,I8 t,I8 key,.int .i64 (jn:Nat),.bool (decide (rule=20)),.bool (decide (rule≠18))] (8*q.size) s (if AZ s.effs (ty s.tys s.effs) rule q key J.u=true then some (Q9 1)else none):=by
 obtain⟨x1,y1⟩:=HS hj;obtain⟨fr0,P5,hfv⟩:=lh J.u q w3 w2 oq.th;have hs1:=Fd 1;have qg:=G9 q;have tg:=G9 t;have kg:=G9 key;have ug:=Ax J.u;have qc:=I7 q;apply Bf.mk;cases hfe:Rw J.u q with
 |none =>
  rw[hfe]at hfv;obtain⟨xp,m,lx,rfl⟩:=hfv;have hL:AZ s.effs (ty s.tys s.effs) rule q key J.u=false:=by unfold AZ;rw[hfe]
  rw[hL];refine AD (C:=Q) ((IU _).trans rfl) ((HM _).trans BK) (by simp[I4]) λΨ hΨ fr hl ha=>?_;rw[LW];have h0:=ha 0;have h1:=ha 1;have h2:=ha 2;have h3:=ha 3;have h4:=ha 4;have h5:=ha 5;have h6:=ha 6;clear ha;simp[I4]at hl h0 h1 h2 h3 h4 h5 h6;simp[I4,hl,h0,h1,h2,h3,h4,h5,h6,x1,y1,Q8,hn0,qg,ug,P5];exact hΨ _ ⟨s,-1,rfl,I,RGro.refl _ _,.inl ⟨rfl,rfl⟩⟩
 |some pl =>
  obtain⟨p,l⟩:=pl;rw[hfe]at hfv;obtain⟨ml,rfl⟩:=hfv;obtain⟨f1,f2,f3,b,fb,fd⟩:=NE hfe;obtain⟨g1,g2,g3,g4⟩:=Sz (Wc w2 p f1);have hsub:=se (iV q) hfe (ew q) oq;have D6:l.length=p.parts.length:=by omega
  have hds:=jp fd;have hbq:b.size+1<=q.size:=by
   have:=Tm.size_le (List.mem_of_getLast? fb);have:=q.kids_size;omega
  have pg:=gz p;obtain⟨rp,hrp,hpv⟩:=xE n ih s I p ml l (decide (rule=20)) D6 a_ (λx hx=>⟨(hsub x hx).2.1,by have:=(hsub x hx).2.2;omega⟩) a_;cases hps:Ia (ty s.tys s.effs) (decide (rule=20)) p.parts l with
  |false =>
   rw[hps]at hpv;obtain⟨s1,m1,out,rfl,-⟩:=hpv;have hL:AZ s.effs (ty s.tys s.effs) rule q key J.u=false:=by unfold AZ;rw[hfe];simp only;rw[hps];rfl
   rw[hL];refine AD (C:=Q) ((IU _).trans rfl) ((HM _).trans BK) (by simp[I4]) λΨ hΨ fr hl ha=>?_;rw[LW];have h0:=ha 0;have h1:=ha 1;have h2:=ha 2;have h3:=ha 3;have h4:=ha 4;have h5:=ha 5;have h6:=ha 6;clear ha;simp[I4]at hl h0 h1 h2 h3 h4 h5 h6;simp[I4,hl,h0,h1,h2,h3,h4,h5,h6,x1,y1,Q8,hn0,qg,ug,P5,hrp];exact hΨ _ ⟨s,-1,rfl,I,RGro.refl _ _,.inl ⟨rfl,rfl⟩⟩
  |true =>
   rw[hps]at hpv;obtain⟨s1,m1,out,rfl,hp2⟩:=hpv;obtain⟨I1,G1,ho⟩:=hp2 rfl;have L1:=G1.len;obtain⟨v1,F1,a1,l1,c1,c2,c3,mv1,z1⟩:=mL (c:=B1 DF) rfl (xs:=[.int .i64 (jn:Nat)]) (v:=sl (true,true) 1 [.int .i64 (jn:Nat)]) (x:=sl m1 1 (out.map (AV.int .i64))) (h:=(⟨[],[]⟩:AH)) (ZL _ _ _ true _) (W0 _ _ _ _) f8;simp only at a1;have z11:=λBB=>(z1 BB).1;have z12:=λBB=>(z1 BB).2;have tm1:=λBB=>Rh (l1 []) BB;simp only at tm1;have hfi:∀x,M9 (AV.int .i64 x)=true:=λ_=>rfl;by_cases hg:rule≠18/\0<=p.goal
   .obtain⟨e18,eg⟩:=hg;have hg:rule≠18/\0<=p.goal:=⟨e18,eg⟩;obtain⟨re,hef,E3⟩:=ak p ml l key hkey.th a_ a_ g4;cases hee:cd p l key with
    |none =>
     rw[hee]at E3;obtain⟨xf,rfl⟩:=E3;have hL:AZ s.effs (ty s.tys s.effs) rule q key J.u=false:=by unfold AZ;rw[hfe];simp only;rw[if_pos hg,hee];simp
     rw[hL];refine AD (C:=Q) ((IU _).trans rfl) ((HM _).trans BK) (by simp[I4]) λΨ hΨ fr hl ha=>?_;rw[LW];have h0:=ha 0;have h1:=ha 1;have h2:=ha 2;have h3:=ha 3;have h4:=ha 4;have h5:=ha 5;have h6:=ha 6;clear ha;simp[I4]at hl h0 h1 h2 h3 h4 h5 h6;simp[I4,hl,h0,h1,h2,h3,h4,h5,h6,x1,y1,Q8,hn0,qg,ug,P5,hrp,a1,c1,c2,c3,e18,eg,pg,kg,hef,A9];exact hΨ _ ⟨s,-1,rfl,I,RGro.refl _ _,.inl ⟨rfl,rfl⟩⟩
    |some ts =>
     rw[hee]at E3;obtain⟨mf,rfl⟩:=E3;have hts:∀x∈ts,Ls x:=λx hx=>by
      rcases Zk hee x hx with h1|h1
      .exact tJ hkey h1
      .exact(hsub x h1).2.1
     have htl:ts.length=p.data.length:=Zj _ _ hee;have X9:Tm.sizes ts<=100*ts.length:=mJ λx hx=>(hts x hx).2;obtain⟨s2,k2,he2,r2⟩:=lc s1 ⟨2,p.goal,mf,ts⟩ I1 a_ (by simp only;omega);have hfa:AV.agg [.int .i64 2,.int .i64 p.goal,sl mf 4 (C4 ts)]=Dp ⟨2,p.goal,mf,ts⟩:=rfl;have hfc:(Dp ⟨2,p.goal,mf,ts⟩).cells=[.int .i64 2,.int .i64 p.goal,sl mf 4 (C4 ts)]:=rfl;have hefS:Zi s1.effs ⟨2,p.goal,mf,ts⟩=Zi s.effs ⟨2,p.goal,(true,false),ts⟩:=by rw[G1.effs];exact na s.effs rfl rfl rfl
     rw[hefS]at r2;have hLv:AZ s.effs (ty s.tys s.effs) rule q key J.u=Zi s.effs ⟨2,p.goal,(true,false),ts⟩:=by unfold AZ;rw[hfe];simp only;rw[if_pos hg,hee,hps];simp
     rw[hLv];rcases r2 with ⟨rfl,rfl,r2⟩|⟨I2,G2,j2,rfl,hj2,r2⟩
     .rw[r2];refine AD (C:=Q) ((IU _).trans rfl) ((HM _).trans BK) (by simp[I4]) λΨ hΨ fr hl ha=>?_;rw[LW];have h0:=ha 0;have h1:=ha 1;have h2:=ha 2;have h3:=ha 3;have h4:=ha 4;have h5:=ha 5;have h6:=ha 6;clear ha;simp[I4]at hl h0 h1 h2 h3 h4 h5 h6;simp[I4,hl,h0,h1,h2,h3,h4,h5,h6,x1,y1,Q8,hn0,qg,ug,P5,hrp,a1,c1,c2,c3,e18,eg,pg,kg,hef,hfa,hfc,he2,A9];exact hΨ _ ⟨s,-1,rfl,I,RGro.refl _ _,.inl ⟨rfl,rfl⟩⟩
     .rw[hefS]at r2;rw[r2];have p2:¬(j2:Int)<0:=by omega
      have L2:=G2.len;obtain⟨v2,F2,a2,l2,d1,d2,d3,mv2,z2⟩:=mL (c:=B1 DF) rfl (l1 []) (x:=sl (true,true) 1 [.int .i64 (j2:Nat)]) (W0 _ _ _ _) f8;simp only at a2;have z21:=λBB=>(z2 BB).1;have z22:=λBB=>(z2 BB).2;have tm2:=λBB=>Rh (l2 []) BB;simp only at tm2;obtain⟨s3,hA,I3,G3,R3⟩:=Et I2 (G1.trans G2) a_ rule mv2 ((jn:Int)::(out++[(j2:Int)])) t (Q9 1) HG.1 HG.2;simp only[zf8z,zf6z,List.map_nil]at hA;refine AD (C:=Q) ((IU _).trans rfl) ((HM _).trans BK) (by simp[I4]) λΨ hΨ fr hl ha=>?_;rw[LW];have h0:=ha 0;have h1:=ha 1;have h2:=ha 2;have h3:=ha 3;have h4:=ha 4;have h5:=ha 5;have h6:=ha 6;clear ha;simp[I4]at hl h0 h1 h2 h3 h4 h5 h6;simp[I4,hl,h0,h1,h2,h3,h4,h5,h6,x1,y1,Q8,hn0,qg,ug,P5,hrp,a1,c1,c2,c3,e18,eg,pg,kg,tg,hef,hfa,hfc,he2,p2,a2,d1,d2,d3,z21,z22,tm2,hfi,hs1,A9,hA];exact hΨ _ ⟨s3,_,rfl,I3,G3.mono a_,R3⟩
   .have hLv:AZ s.effs (ty s.tys s.effs) rule q key J.u=true:=by unfold AZ;rw[hfe];simp only;rw[if_neg hg,hps];rfl
    rw[hLv];obtain⟨s3,hA,I3,G3,R3⟩:=Et I1 G1 a_ rule mv1 ((jn:Int)::out) t (Q9 1) HG.1 HG.2;simp only[zf8z]at hA;by_cases e18:rule=18
    .refine AD (C:=Q) ((IU _).trans rfl) ((HM _).trans BK) (by simp[I4]) λΨ hΨ fr hl ha=>?_;rw[LW];have h0:=ha 0;have h1:=ha 1;have h2:=ha 2;have h3:=ha 3;have h4:=ha 4;have h5:=ha 5;have h6:=ha 6;clear ha;simp[I4]at hl h0 h1 h2 h3 h4 h5 h6;simp[I4,hl,h0,h1,h2,h3,h4,h5,h6,x1,y1,Q8,hn0,qg,ug,P5,hrp,a1,c1,c2,c3,eq_true e18,pg,tg,z11,z12,tm1,hfi,hs1,A9,hA];exact hΨ _ ⟨s3,_,rfl,I3,G3.mono a_,R3⟩
    .have eg:¬0<=p.goal:=λh=>hg ⟨e18,h⟩;refine AD (C:=Q) ((IU _).trans rfl) ((HM _).trans BK) (by simp[I4]) λΨ hΨ fr hl ha=>?_;rw[LW];have h0:=ha 0;have h1:=ha 1;have h2:=ha 2;have h3:=ha 3;have h4:=ha 4;have h5:=ha 5;have h6:=ha 6;clear ha;simp[I4]at hl h0 h1 h2 h3 h4 h5 h6;simp[I4,hl,h0,h1,h2,h3,h4,h5,h6,x1,y1,Q8,hn0,qg,ug,P5,hrp,a1,c1,c2,c3,e18,eg,pg,tg,z11,z12,tm1,hfi,hs1,A9,hA];exact hΨ _ ⟨s3,_,rfl,I3,G3.mono a_,R3⟩
end Go.Abs.Q
namespace Go.Abs.Q
open Go.Proofs
attribute [local simp] E5 E6 fin J4 H8 Q3 S6
set_option maxHeartbeats 2000000 in
theorem gy(n:Nat)(ih:YZ n)(t:Tm)(hn:t.size<=n+1)(O9:Ls t)(hk:t.kind=3){a b:Tm}(e:t.kids=[a,b])(s:RS)(I:RInv s)(hb:s.l.length+8*t.size<=900000) :
  Bf IE [JA s,I8 t] (8*t.size) s (Rc s.effs (ty s.tys s.effs) 3 16 a b):=by
 obtain⟨oa,ob,hs,n0,n1,Qc⟩:=Se O9 hk e;have ag:=G9 a;have bg:=G9 b;have tg:=G9 t;have ca:=I7 a;have cb:=I7 b;obtain⟨s1,k1,AQ,I1,G1,r1⟩:=ih b s a_ ob I a_;have L1:=G1.len;apply Bf.mk;unfold Rc;rcases r1 with ⟨rfl,t1⟩|⟨j1,J1,rfl,hj1,f1,v1,t1⟩
 .rw[t1];refine Bs l8 λΨ hΨ fr hl h0 h1=>?_;simp[l8]at hl h0 h1;simp[l8,hl,h0,h1,n0,n1,Qc,ag,bg,tg,AQ];exact hΨ _ ⟨s,-1,rfl,I,RGro.refl _ _,.inl ⟨rfl,rfl⟩⟩
 .rw[t1];have p1:¬(j1:Int)<0:=by omega
  obtain⟨x1,y1⟩:=HS hj1;by_cases k3:J1.u.kind=3
  .obtain⟨s2,k2,h2',I2,G2,r2⟩:=UT n ih 16 t a b n0 oa a_ ob s1 I1 j1 J1 hj1 f1 v1 a_;have d1:decide ((16:Int)=20)=false:=by decide
   have d2:decide ((16:Int)≠18)=true:=by decide
   rw[d1,d2]at h2';rw[G1.tys,G1.effs]at r2;dsimp only;rw[if_pos k3];refine Bs l8 λΨ hΨ fr hl h0 h1=>?_;simp[l8]at hl h0 h1;simp[l8,hl,h0,h1,n0,n1,Qc,ag,bg,tg,AQ,p1,x1,y1,Q8,eq_true k3,h2'];exact hΨ _ ⟨s2,k2,rfl,I2,(G1.trans G2).mono a_,r2⟩
  .obtain⟨s2,k2,h2',I2,G2,r2⟩:=ah n ih 17 t hn O9 hk e s I hb;dsimp only;rw[if_neg k3];refine Bs l8 λΨ hΨ fr hl h0 h1=>?_;simp[l8]at hl h0 h1;simp[l8,hl,h0,h1,n0,n1,Qc,ag,bg,tg,AQ,p1,x1,y1,Q8,k3,h2'];exact hΨ _ ⟨s2,k2,rfl,I2,G2,r2⟩
set_option maxHeartbeats 2000000 in
theorem dE(n:Nat)(ih:YZ n)(t:Tm)(hn:t.size<=n+1)(O9:Ls t)(hk:t.kind=3){a b:Tm}(e:t.kids=[a,b])(s:RS)(I:RInv s)(hb:s.l.length+8*t.size<=900000) :
  Bf HC [JA s,I8 t] (8*t.size) s (Rc s.effs (ty s.tys s.effs) 4 20 a b):=by
 obtain⟨oa,ob,hs,n0,n1,Qc⟩:=Se O9 hk e;have ag:=G9 a;have bg:=G9 b;have tg:=G9 t;have ca:=I7 a;have cb:=I7 b;obtain⟨s1,k1,AQ,I1,G1,r1⟩:=ih b s a_ ob I a_;have L1:=G1.len;apply Bf.mk;unfold Rc;rcases r1 with ⟨rfl,t1⟩|⟨j1,J1,rfl,hj1,f1,v1,t1⟩
 .rw[t1];refine Bs X6 λΨ hΨ fr hl h0 h1=>?_;simp[X6]at hl h0 h1;simp[X6,hl,h0,h1,n0,n1,Qc,ag,bg,tg,AQ];exact hΨ _ ⟨s,-1,rfl,I,RGro.refl _ _,.inl ⟨rfl,rfl⟩⟩
 .rw[t1];have p1:¬(j1:Int)<0:=by omega
  obtain⟨x1,y1⟩:=HS hj1;by_cases k3:J1.u.kind=4
  .obtain⟨s2,k2,h2',I2,G2,r2⟩:=UT n ih 20 t a b n0 oa a_ ob s1 I1 j1 J1 hj1 f1 v1 a_;have d1:decide ((20:Int)=20)=true:=by decide
   have d2:decide ((20:Int)≠18)=true:=by decide
   rw[d1,d2]at h2';rw[G1.tys,G1.effs]at r2;dsimp only;rw[if_pos k3];refine Bs X6 λΨ hΨ fr hl h0 h1=>?_;simp[X6]at hl h0 h1;simp[X6,hl,h0,h1,n0,n1,Qc,ag,bg,tg,AQ,p1,x1,y1,Q8,eq_true k3,h2'];exact hΨ _ ⟨s2,k2,rfl,I2,(G1.trans G2).mono a_,r2⟩
  .obtain⟨s2,k2,h2',I2,G2,r2⟩:=ah n ih 21 t hn O9 hk e s I hb;dsimp only;rw[if_neg k3];refine Bs X6 λΨ hΨ fr hl h0 h1=>?_;simp[X6]at hl h0 h1;simp[X6,hl,h0,h1,n0,n1,Qc,ag,bg,tg,AQ,p1,x1,y1,Q8,k3,h2'];exact hΨ _ ⟨s2,k2,rfl,I2,G2,r2⟩
set_option maxHeartbeats 2000000 in
theorem dD(n:Nat)(ih:YZ n)(t:Tm)(hn:t.size<=n+1)(O9:Ls t)(hk:t.kind=3){a b:Tm}(e:t.kids=[a,b])(s:RS)(I:RInv s)(hb:s.l.length+8*t.size<=900000) :
  Bf Gz [JA s,I8 t] (8*t.size) s (if RA s.effs (ty s.tys s.effs) a b=true then some (Q9 1)else MU (ty s.tys s.effs) a b):=by
 obtain⟨oa,ob,hs,n0,n1,Qc⟩:=Se O9 hk e;have ag:=G9 a;have bg:=G9 b;have tg:=G9 t;have ca:=I7 a;have cb:=I7 b;have hi:=JS b (bs [112,107]);obtain⟨s5,k5,h5',I5,G5,r5⟩:=ah n ih 19 t hn O9 hk e s I hb;apply Bf.mk;cases hpk:OI b (bs [112,107])with
 |false =>
  rw[hpk]at hi;have hS:RA s.effs (ty s.tys s.effs) a b=false:=by unfold RA;rw[hpk];rfl
  rw[if_neg (by rw[hS];simp)];refine Bs J7 λΨ hΨ fr hl h0 h1=>?_;simp[J7]at hl h0 h1;simp[J7,hl,h0,h1,n0,n1,Qc,ag,bg,tg,hi,h5'];exact hΨ _ ⟨s5,k5,rfl,I5,G5,r5⟩
 |true =>
  rw[hpk]at hi;obtain⟨hbk,hbn⟩:=Dq.1 hpk;obtain⟨hb1,_,_⟩:=MJ ob.th hbk;obtain⟨c,ec⟩:=SP (.inl hbn) hb1;obtain⟨oc,sc,m0,mkl⟩:=gd ob hbk ec;have cg:=G9 c;have hSe:RA s.effs (ty s.tys s.effs) a b=(match ty s.tys s.effs c with|some u=>decide (u.kind=4)&&AZ s.effs (ty s.tys s.effs) 18 a c u|none=>false):=by
   unfold RA;rw[hpk,ec];simp only[zf7z]
   all_goals (cases ty s.tys s.effs c<;>rfl)
  rw[hSe];obtain⟨s1,k1,AQ,I1,G1,r1⟩:=ih c s a_ oc I a_;have L1:=G1.len;rcases r1 with ⟨rfl,t1⟩|⟨j1,J1,rfl,hj1,f1,v1,t1⟩
  .rw[t1];refine Bs J7 λΨ hΨ fr hl h0 h1=>?_;simp[J7]at hl h0 h1;simp[J7,hl,h0,h1,n0,n1,Qc,ag,bg,tg,cg,m0,mkl,hi,AQ,h5'];exact hΨ _ ⟨s5,k5,rfl,I5,G5,r5⟩
  .rw[t1];have p1:(0:Int)<=(j1:Int):=by omega
   obtain⟨x1,y1⟩:=HS hj1;by_cases k4:J1.u.kind=4
   .obtain⟨s2,k2,h2',I2,G2,r2⟩:=UT n ih 18 t a c n0 oa a_ oc s1 I1 j1 J1 hj1 f1 v1 a_;have d1:decide ((18:Int)=20)=false:=by decide
    have d2:decide ((18:Int)≠18)=false:=by decide
    rw[d1,d2]at h2';rw[G1.tys,G1.effs]at r2;simp only[decide_eq_true k4,zf7z];rcases r2 with ⟨rfl,r2⟩|⟨j2,J2,rfl,hj2,f2,v2,r2⟩
    .have hL:¬AZ s.effs (ty s.tys s.effs) 18 a c J1.u=true:=λh=>by rw[if_pos h]at r2;cases r2
     rw[if_neg hL];refine Bs J7 λΨ hΨ fr hl h0 h1=>?_;simp[J7]at hl h0 h1;simp[J7,hl,h0,h1,n0,n1,Qc,ag,bg,tg,cg,m0,mkl,hi,AQ,p1,x1,y1,Q8,eq_true k4,h2',h5'];exact hΨ _ ⟨s5,k5,rfl,I5,G5,r5⟩
    .have p2:(0:Int)<=(j2:Int):=by omega
     have hL:AZ s.effs (ty s.tys s.effs) 18 a c J1.u=true:=by
      cases hh:AZ s.effs (ty s.tys s.effs) 18 a c J1.u with
      |true=>rfl
      |false=>rw[hh]at r2;cases r2
     rw[if_pos hL];rw[if_pos hL]at r2;refine Bs J7 λΨ hΨ fr hl h0 h1=>?_;simp[J7]at hl h0 h1;simp[J7,hl,h0,h1,n0,n1,Qc,ag,bg,tg,cg,m0,mkl,hi,AQ,p1,x1,y1,Q8,eq_true k4,h2',p2];exact hΨ _ ⟨s2,_,rfl,I2,(G1.trans G2).mono a_,.inr ⟨j2,J2,rfl,hj2,f2,v2,r2⟩⟩
   .simp only[decide_eq_false k4,Bool.false_and,Bool.false_eq_true,if_false];refine Bs J7 λΨ hΨ fr hl h0 h1=>?_;simp[J7]at hl h0 h1;simp[J7,hl,h0,h1,n0,n1,Qc,ag,bg,tg,cg,m0,mkl,hi,AQ,p1,x1,y1,Q8,k4,h5'];exact hΨ _ ⟨s5,k5,rfl,I5,G5,r5⟩
end Go.Abs.Q
namespace Go.Abs.Q
open Go.Proofs
attribute [local simp] E5 E6 fin J4 H8 Q3 S6
theorem A1L{f:FuncId}{s:RSpec}(hc:L3 f=none)(hs:UZ f=some s){args:b9}{h:AH}{v:AV}{h':AH}(hr:s.run (m6 Qf) args h=some (v,h'))(hrst:(B1 f).rst=false:=by rfl):rc Qf f args h=some (v,h'):=by
 have hq:IG Qf (m6 Qf) f args h=some (v,h'):=by
  unfold IG;have e1:Qf.code f=none:=hc;have e2:Qf.rspec f=some s:=hs;rw[e1,e2];exact hr
 have:=uE Qf hq;have e3:(Qf.ctx f).rst=false:=hrst;rw[e3]at this;exact this
theorem A1P(n:Nat)(hn:n<=1000000)(h:AH):rc Qf Q1 [sl (true,true) 1 [.int .i64 (-1)],.int .i64 n] h=some (.sl h.fams.length n 0 n,⟨h.boxes,h.fams++[⟨zf2z n (.int .i64 (-1)),1,true⟩]⟩):=by
 refine A1L (s:=repR) rfl rfl ?_;change aw [sl (true,true) 1 [.int .i64 (-1)],.int .i64 n] h=_;have hs:sl (true,true) 1 [AV.int .i64 (-1)]=.vs true 1 [.int .i64 (-1)]:=rfl;rw[hs];unfold aw;simp only;rw[if_pos ⟨trivial,a_,a_,f9,f9⟩];simp
def NewP(g:Tyg)(role bad:Int)(bx:List (List AV))(v:AV)(h':AH):Prop :=
 ∃(A:PA) (D:PD),v=.ptr A.p 0/\A.role=role/\A.blk=0/\A.bad=bad/\PrH A D h'/\D.tys=g.tys/\D.efs=g.effs/\D.ti=zf2z g.tys.length (-1)/\D.ei=zf2z g.effs.length (-1)/\D.l=[]/\D.kn=[] /\
  bx.length<=A.p/\bx.length<=A.bm/\∀j,j<bx.length->h'.boxes[j]?=bx[j]?
set_option maxHeartbeats 4000000 in
theorem iJ(g:Tyg)(role bad:Int)(h1:g.tys.length<=1000)(h2:g.effs.length<=1000)(h:AH) :
  ∃v h',rc Qf AC [EO g,.int .i64 role,.int .i64 bad] h=some (v,h')/\NewP g role bad h.boxes v h':=by
 obtain⟨bx,F⟩:=h;have hb:∃B0,B0=bx++[[sl g.tm 6 (g.tys.map r8),sl g.em 3 (g.effs.map Dp)],[.mbox [] []],[.vs true 0 [],.vs true 0 [],.vs true 0 [],.vs true 0 [],.vs true 0 [],.int .i64 0,.int .i64 role,.int .i64 0,.int .i64 bad,.vs true 0 [],.int .i64 0,.str (bs []),.int .i64 0,.vs true 0 [],.int .i64 0,.vs true 0 [],.int .i64 0,.int .i64 0,.vs true 0 [],.mp (bx.length+1)]]:=⟨_,rfl⟩;obtain⟨B0,hB0⟩:=hb;obtain⟨v1,_,c1,F1,rfl,l1,g1⟩:=dG g.tm g.tys a_ B0 F;obtain⟨v2,_,c2,F2,rfl,l2,g2⟩:=iI g.em g.effs a_ B0 F1;subst hB0;have kq:∀(x y:List AV) (F:List Fam),KQ bx.length bx.length [sl g.tm 6 (g.tys.map r8),sl g.em 3 (g.effs.map Dp)] [sl g.tm 6 (g.tys.map r8),sl g.em 3 (g.effs.map Dp)] ⟨bx++[[sl g.tm 6 (g.tys.map r8),sl g.em 3 (g.effs.map Dp)],x,y],F⟩:=λx y F=>by
  have:(bx++[[sl g.tm 6 (g.tys.map r8),sl g.em 3 (g.effs.map Dp)],x,y])[bx.length]?=some [sl g.tm 6 (g.tys.map r8),sl g.em 3 (g.effs.map Dp)]:=by
   rw[zf1z (zg0z _),zf9z];rfl
  exact⟨this,this⟩
 have fa:Fl (KQ bx.length bx.length [sl g.tm 6 (g.tys.map r8),sl g.em 3 (g.effs.map Dp)] [sl g.tm 6 (g.tys.map r8),sl g.em 3 (g.effs.map Dp)]) false 1 (.ptr bx.length 0) (sl g.tm 6 (g.tys.map r8)):=vI (Jr _ _ _) rfl;have fb:Fl (KQ bx.length bx.length [sl g.tm 6 (g.tys.map r8),sl g.em 3 (g.effs.map Dp)] [sl g.tm 6 (g.tys.map r8),sl g.em 3 (g.effs.map Dp)]) false 1 (.ptr bx.length 1) (sl g.em 3 (g.effs.map Dp)):=vI (Jr _ _ _) rfl;have m1:∀b,(AV.mp b).isTup=false:=λ_=>rfl;have m2:∀b,(AV.mp b).cells=[.mp b]:=λ_=>rfl;obtain⟨o1,o2,-,-⟩:=L5 (l1 []);obtain⟨o3,o4,-,-⟩:=L5 (l2 []);have r1:=A1P g.tys.length a_;have r2:=A1P g.effs.length a_;refine Gm SX (by simp[DL]) λfr hl ha=>?_;have h0:=ha 0;have h1:=ha 1;have h2:=ha 2;clear ha;simp[DL]at hl h0 h1 h2;simp[DL,hl,h0,h1,h2,B5,C0,m1,m2];refine E8 (λk=>k) (KQ bx.length bx.length [sl g.tm 6 (g.tys.map r8),sl g.em 3 (g.effs.map Dp)] [sl g.tm 6 (g.tys.map r8),sl g.em 3 (g.effs.map Dp)]) [.nil,.nil,.fl,.any,.nil,.fl,.any,.nil,.nil,.nil,.any] 0 (λa b e=>e) rfl f9 ?_;simp[DL,hl,h0,h1,h2,kq,fa,fb,c1,c2,o1,o2,o3,o4,B5,C0,A9,r1,r2];obtain⟨t1,t2⟩:=g2 _ _ _ _ (l1 (bx++[[sl g.tm 6 (g.tys.map r8),sl g.em 3 (g.effs.map Dp)],[.mbox [] []],[.vs true 0 [],.vs true 0 [],.vs true 0 [],.vs true 0 [],.vs true 0 [],.int .i64 0,.int .i64 role,.int .i64 0,.int .i64 bad,.vs true 0 [],.int .i64 0,.str (bs []),.int .i64 0,.vs true 0 [],.int .i64 0,.vs true 0 [],.int .i64 0,.int .i64 0,.vs true 0 [],.mp (bx.length+1)]]));have fx:∀(X:List Fam) (j:Nat),j<F2.length->(F2++X)[j]?=F2[j]?:=λX j hj=>zf4z hj;refine⟨⟨bx.length+2,bx.length+1,F2.length,F2.length+1,role,0,bad⟩,⟨v1,v2,.vs true 0 [],g.tys,g.effs,zf2z g.tys.length (-1),zf2z g.effs.length (-1),[],[]⟩,rfl,rfl,rfl,rfl,⟨?_,?_,e_,λ_=>?_,λ_=>?_,e_,e_,e_,jS (t1 []) (fx _),jS (l2 []) (fx _),.inl ⟨false,rfl⟩,BI.vs' _ _ _ _,BI.vs' _ _ _ _⟩,rfl,rfl,rfl,rfl,rfl,rfl,e_,e_,λj hj=>zf4z hj⟩
 .simp only;rw[zf1z a_,show bx.length+2-bx.length=2 by omega];rfl
 .simp only;rw[zf1z a_,show bx.length+1-bx.length=1 by omega];rfl
 .simp only;rw[zf1z (zg0z _),zf9z];simp
 .simp only;rw[zf1z a_,show F2.length+1-F2.length=1 by omega];simp
end Go.Abs.Q
