/- A part of the proof. -/
import Derived.Test.YtohjdamplbhdpaaGreatDoorSD28
set_option linter.all false
open Bool renaming and_eq_true->oD
open List renaming mem_singleton->xX,map_cons->xY,mem_map->xZ,mem_cons->xa,mem_append->xb,mem_cons_of_mem->xc,map_append->xd,mem_cons_self->xe,eq_nil_of_length_eq_zero->xf,any_eq_true->xg,length_map->xh,append_assoc->xi,mem_of_mem_take->xk,mem_map_of_mem->xl,getD_eq_getElem?_getD->xm,getElem?_eq_some_iff->xn,map_map->xo,map_nil->xp,not_mem_nil->xq,filter_cons_of_neg->xr,filter_cons_of_pos->xt,nodup_cons->xu,length_singleton->xw,nodup_nil->xy,nodup_append->xz,length_take->yA,mem_flatMap->yB,map_take->yC,length->yD
open Nat renaming le_refl->xj
namespace Go.Abs.Q
open Go.Proofs
attribute [local simp] D1 D4 fin I2 G0 K7 I3 N4 O5
def NX (m:Bool×Bool) (r n:Nar) (me:ByteArray) (role q:Nat):List Tm :=
 j9 (j9 (j9 (j9 [Nb m me] (r.roles.map (NJ m))) (JM m me r.roles role r.roles.length)) (GO me n.fresh)) (UL me (r.steps.take q))
structure Smol (r n:Nar):Prop where
 roles:r.roles.length<=1000
 fresh:n.fresh.length<=1000
 steps:r.steps.length<=1000
 msgs:∀s∈r.steps,s.msg.size<=1048576
theorem Mz (m:J0) (a b:H6):(Nb m a).size=2/\(NJ m a).size=3/\(TA m a b).size=3:=⟨rfl,rfl,rfl⟩
theorem VM {m:J0} {r n:Nar} {me:H6} {role q:Nat} (h:Smol r n):(NX m r n me role q).length<=10000:=by
 unfold NX;have h1:=Ca (r.roles.map (NJ m)) [Nb m me];have h2:=Ca (JM m me r.roles role r.roles.length) (j9 [Nb m me] (r.roles.map (NJ m)));have h3:=Ca (GO me n.fresh) (j9 (j9 [Nb m me] (r.roles.map (NJ m))) (JM m me r.roles role r.roles.length));have h4:=Ca (UL me (r.steps.take q)) (j9 (j9 (j9 [Nb m me] (r.roles.map (NJ m))) (JM m me r.roles role r.roles.length)) (GO me n.fresh));have h5:=PE m me r.roles role r.roles.length;have h6:=Of me n.fresh;have h7:(UL me (r.steps.take q)).length<=r.steps.length:=by
  unfold UL;rw[xh];have:=List.length_filter_le (JT me) (r.steps.take q);rw[yA]at this;omega
 rw[xh,xw]at h1;have:=h.roles;have:=h.fresh;have:=h.steps;omega
theorem jv {m:J0} {r n:Nar} {me:H6} {role q:Nat} {x:Tm} (h:x∈NX m r n me role q):x=Nb m me\/(∃a∈r.roles,x=NJ m a)\/x∈JM m me r.roles role r.roles.length\/x∈GO me n.fresh\/∃s∈r.steps,JT me s=true/\x=s.msg:=by
 unfold NX at h;rcases Cb _ _ h with h|h
 .rcases Cb _ _ h with h|h
  .rcases Cb _ _ h with h|h
   .rcases Cb _ _ h with h|h
    .exact .inl (by simpa using h)
    .rw[xZ]at h;obtain⟨a,ha,rfl⟩:=h;exact .inr (.inl ⟨a,ha,rfl⟩)
   .exact .inr (.inr (.inl h))
  .exact .inr (.inr (.inr (.inl h)))
 .unfold UL at h;rw[xZ]at h;obtain⟨s,hs,rfl⟩:=h;obtain⟨h1,h2⟩:=List.mem_filter.1 hs;exact .inr (.inr (.inr (.inr ⟨s,xk h1,h2,rfl⟩)))
theorem SM (r n:Nar) (F:Fine n) (S:Lens n) (hz:(Ae n).2=0) (hs:Smol r n) (hrn:r.roles=n.roles) (role:Nat) (me:H6) (hme:r.roles[role]?=some me) (q:Nat) (hq:q<=r.steps.length) :
  ∃m,pc Q L4 [Dx r n,.int .i64 (role:Nat),.int .i64 (q:Nat)]=some (sl m 4 (A4 (NX (true,true) r n me role q))):=by
 suffices hQ:∃v,pc Q L4 [Dx r n,.int .i64 (role:Nat),.int .i64 (q:Nat)]=some v/\∃m:Bool×Bool,v=sl m 4 (A4 (NX (true,true) r n me role q)) by
  obtain⟨v,h1,m,rfl⟩:=hQ;exact⟨m,h1⟩
 have sb:=BK r n;have hme':Ir (r.roles.map AV.str) role=some (.str me):=H8 hme;have hG:=SH me;have hA:=SI (bs [115,107]) (true,true) [HM me];rw[show A4 [HM me]=[B8 (HM me)] from rfl]at hA;change pc Q r6 _=some (B8 (Nb (true,true) me))at hA;obtain⟨mf,hFr⟩:=dp n F S hz role me (by rw[←hrn];exact hme);have s1:=hs.roles;have s2:=hs.fresh;have s3:=hs.steps;have b1:=Ca (r.roles.map (NJ (true,true))) [Nb (true,true) me];rw[xh,xw]at b1;have b2:=Ca (JM (true,true) me r.roles role r.roles.length) (j9 [Nb (true,true) me] (r.roles.map (NJ (true,true))));have b5:=PE (true,true) me r.roles role r.roles.length;have b3:=Ca (GO me n.fresh) (j9 (j9 [Nb (true,true) me] (r.roles.map (NJ (true,true)))) (JM (true,true) me r.roles role r.roles.length));have b6:=Of me n.fresh;have z1:∀x∈[Nb (true,true) me],x.size<=1099511627776:=λx hx=>by rw[xX.1 hx,(Mz _ me me).1];omega
 have z2:∀x∈j9 [Nb (true,true) me] (r.roles.map (NJ (true,true))),x.size<=1099511627776:=λx hx=>by
  rcases Cb _ _ hx with h|h
  .exact z1 x h
  .rw[xZ]at h;obtain⟨a,-,rfl⟩:=h;rw[(Mz _ a a).2.1];omega
 have z3:∀x∈j9 (j9 [Nb (true,true) me] (r.roles.map (NJ (true,true)))) (JM (true,true) me r.roles role r.roles.length),x.size<=1099511627776:=λx hx=>by
  rcases Cb _ _ hx with h|h
  .exact z2 x h
  .rw[MY _ _ _ _ _ _ h];omega
 have z4:∀x∈j9 (j9 (j9 [Nb (true,true) me] (r.roles.map (NJ (true,true)))) (JM (true,true) me r.roles role r.roles.length)) (GO me n.fresh),x.size<=1099511627776:=λx hx=>by
  rcases Cb _ _ hx with h|h
  .exact z3 x h
  .rw[Mx h];omega
 unfold NX;generalize hK1:j9 [Nb (true,true) me] (r.roles.map (NJ (true,true)))=k1 at *
 generalize hK2:j9 k1 (JM (true,true) me r.roles role r.roles.length)=k2 at *
 generalize hK3:j9 k2 (GO me n.fresh)=k3 at *
 generalize hK4:j9 k3 (UL me (r.steps.take q))=k4 at *
 have nb:=Y6 n;refine Xw Ez λΨ hΨ fr hl h0 h1 h2=>?_;simp[Ez]at hl h0 h1 h2;simp[Ez,hl,h0,h1,sb,hme',hG,hA,A3];refine C8.mono (gM r.roles r.rm s1 [Nb (true,true) me] (by simp) z1 [(Dx r n).cells,(B8 (HM me)).cells] _ _ ?_ (sl (true,true) 4 (A4 [Nb (true,true) me])) ?_ (ei _ _ _ _ _) ?_ ?_ ?_ ?_) ?_<;>first|(simp[hl,sb];done)|(simp[hl];rfl)|skip
 rintro e H0 ⟨bx,F1⟩ ⟨K,rfl,hB,hg⟩;have B5:H0.length=102:=K.1.trans (by simp[hl]);have k1':A0 H0 1=.int .i64 (role:Nat):=A5 K 1 (by simp[h1]);have k2':A0 H0 2=.int .i64 (q:Nat):=A5 K 2 (by simp[h2]);have k3':A0 H0 3=.ptr 0 0:=A5 K 3 (by simp[hl]);have k7':A0 H0 7=.ptr 1 0:=A5 K 7 (by simp[hl]);clear K;simp only at hB;subst hB;rw[hK1]at hg;generalize hv8:A0 H0 8=v8 at *
 simp[B5,k3',sb];refine C8.mono (gL r.roles r.rm s1 k1 (by omega) z2 role me (Dx r n).cells _ _ ?_ v8 ?_ (P5 hg rfl) ?_ ?_ ?_ ?_ ?_ ?_) ?_<;>first|(simp[B5,sb,k1',k7',hv8];done)|skip
 rintro e Cq ⟨bx2,F2⟩ ⟨K,rfl,hB,hg2⟩;have JS:Cq.length=102:=K.1.trans (by simp[B5]);have k1'':A0 Cq 1=.int .i64 (role:Nat):=A5 K 1 (by simp[k1']);have k2'':A0 Cq 2=.int .i64 (q:Nat):=A5 K 2 (by simp[k2']);have k3'':A0 Cq 3=.ptr 0 0:=A5 K 3 (by simp[k3']);clear K hg;simp only at hB;subst hB;rw[hK2]at hg2;generalize hv8':A0 Cq 8=v8' at *
 simp[JS,k1'',k3'',sb,hFr];refine C8.mono (gK (GO me n.fresh) mf (by omega) k2 (by omega) z3 (λx hx=>by rw[Mx hx];omega) (Dx r n).cells _ _ [(B8 (HM me)).cells] ?_ v8' ?_ (P5 hg2 rfl) ?_ ?_ ?_ ?_) ?_<;>first|(simp[JS,sb,hv8'];done)|skip
 rintro e fr3 ⟨bx3,F3⟩ ⟨K,rfl,⟨B3,hB⟩,hg3⟩;have hl3:fr3.length=102:=K.1.trans (by simp[JS]);have k1a:A0 fr3 1=.int .i64 (role:Nat):=A5 K 1 (by simp[k1'']);have k2a:A0 fr3 2=.int .i64 (q:Nat):=A5 K 2 (by simp[k2'']);have k3a:A0 fr3 3=.ptr 0 0:=A5 K 3 (by simp[k3'']);clear K hg2;simp only at hB;subst hB;rw[hK3]at hg3;generalize hv8a:A0 fr3 8=v8a at *
 have hql:(r.steps.take q).length=q:=by rw[yA];omega
 simp[k2a];refine C8.mono (gJ r n (r.steps.take q) q hq rfl (by omega) k3 (by omega) z4 (λx hx=>by have:=hs.msgs x (xk hx);omega) role me hme _ _ B3 rfl v8a ?_ (P5 hg3 rfl) ?_ ?_ ?_ ?_ ?_) ?_<;>first|(simp[hl3,k1a,k3a,hv8a,hql];done)|skip
 rintro e fr4 ⟨bx4,F4⟩ ⟨K,rfl,hg4⟩;have hl4:fr4.length=102:=K.1.trans (by simp[hl3]);clear K hg3;rw[hK4]at hg4;obtain⟨mm,hf⟩:=ON hg4;simp only at hf;simp[hl4,hf];exact hΨ _ ⟨mm,rfl⟩
theorem jN {c:Ctx} {h:AH} {sz bytes:Nat} {b:Bool} {m:J0} {ys:E5} (M8:ys≠[]) (hb:ys.length*bytes<=G5/\ys.length<=maxLen) :
  L5 c h sz bytes (sl (true,b) sz []) (sl m sz ys)=some (.sl h.fams.length ys.length 0 ys.length,⟨h.boxes,h.fams++[⟨ys,sz,c.mutApp⟩]⟩):=by
 have hl:ys.length≠0:=λe=>M8 (xf e);have hx:=O4 h m sz ys;have e:L5 c h sz bytes (sl (true,b) sz []) (sl m sz ys)=L5 c h sz bytes (.vs true (if (([]:List AV).isEmpty&&!b)=true then 0 else sz) []) (sl m sz ys):=rfl
 rw[e];simp only[L5,hx];rw[if_neg hl,if_pos ⟨.inr rfl,by simpa using hb⟩];simp
theorem Qw (nm:H6) (m:J0) (l:I1) (M8:l≠[]) (C2:l.length<=1048576):pc Q K0 [.str nm,sl m 4 (A4 l)]=some (B8 (Y3 nm (false,true) l)):=by
 rw[←fD];have hl':(A4 l).length=l.length:=by rw[D7,xh]
 have hne':A4 l≠[]:=λe=>M8 (by rw[D7,List.map_eq_nil_iff]at e;exact e);generalize A4 l=xs at *
 have hr:xs.length*56<=G5/\xs.length<=maxLen:=by simp only[G5,maxLen];omega
 have ha:∀(B:List (List AV)),L5 (G8 K0) ⟨B,[]⟩ 4 56 (sl (true,true) 4 []) (sl m 4 xs)=some (.sl 0 xs.length 0 xs.length,⟨B,[⟨xs,4,false⟩]⟩):=λB=>jN hne' hr;refine R9 Md λfr hl h0 h1=>?_;simp[Md]at hl h0 h1;simp[Md,hl,h0,h1,A3,D0,E7,ha]
end Go.Abs.Q
namespace Go.Abs.Q
open Go.Proofs
theorem RT (rs:List ByteArray):∀(l:List (ByteArray×Option ByteArray)) (seen:List ByteArray),V8 rs seen l=0 ->
  (l.map (·.1)).Nodup/\(∀a∈l.map (·.1),a∉seen/\Lz a=false)/\(∀e∈l,mh rs e.2=true)/\∀e∈l,e.2.isSome=true->e.1≠bs [101]/\e.1≠bs [103]
 | [],_,_=>⟨xy,λa h=>(nomatch h),λe h=>(nomatch h),λe h=>(nomatch h)⟩
 |(x,f)::l,seen,h=>by
  have e0:V8 rs seen ((x,f)::l)=if Hr seen x f.isSome≠0 then Hr seen x f.isSome else if mh rs f=false then 13 else V8 rs (seen++[x]) l:=rfl
  rw[e0]at h;by_cases h1:Hr seen x f.isSome=0
  .rw[if_neg (by simp[h1])]at h;by_cases h2:mh rs f=false
   .rw[if_pos h2]at h;omega
   .rw[if_neg h2]at h;obtain⟨k1,k2,k3,k4⟩:=RT rs l (seen++[x]) h;unfold Hr at h1;split at h1
    .omega
    .rename_i g1;split at h1
     .omega
     .rename_i g2;split at h1
      .omega
      .rename_i g3;have hx:x∉seen:=λhm=>g3 (xg.2 ⟨x,hm,(Dm x x).2 rfl⟩);refine⟨?_,λa ha=>?_,λe he=>?_,λe he hs=>?_⟩
       .rw[xY,xu];refine⟨λhm=>?_,k1⟩;exact(k2 x hm).1 (List.mem_append_right _ (xX.2 rfl))
       .rw[xY]at ha;rcases xa.1 ha with rfl|ha
        .exact⟨hx,by simpa using g1⟩
        .exact⟨λhm=>(k2 a ha).1 (List.mem_append_left _ hm),(k2 a ha).2⟩
       .rcases xa.1 he with rfl|he
        .simpa using h2
        .exact k3 e he
       .rcases xa.1 he with rfl|he
        .exact⟨λe=>g2 ⟨hs,.inl e⟩,λe=>g2 ⟨hs,.inr e⟩⟩
        .exact k4 e he hs
  .rw[if_pos h1]at h;exact absurd h h1
theorem QO {n:Nar} (h:Hf n=0):(B4 n).Nodup/\∀a∈B4 n,Lz a=false:=by
 obtain⟨k1,k2,-,-⟩:=RT n.roles (TE n) [] h;have e:(TE n).map (·.1)=B4 n:=by
  unfold TE B4;rw[xd,xd,xo,xo,xo];have e1:∀l:List ByteArray,l.map ((λx:ByteArray×Option ByteArray=>x.1)∘λa=>(a,none))=l:=λl=>by
   rw[show ((λx:ByteArray×Option ByteArray=>x.1)∘λa=>(a,none))=id from rfl,List.map_id]
  rw[e1,e1];rfl
 rw[e]at k1 k2;exact⟨k1,λa ha=>(k2 a ha).2⟩
theorem YJ {n:Nar} (h:Hf n=0):n.roles.Nodup:=by
 have h1:=(QO h).1;unfold B4 at h1;rw[xi]at h1;exact(xz.1 h1).1
noncomputable def JA (G2 l:List Tm):List Tm:=l.foldl Lj G2
theorem OU:∀(l G2:I1),(j9 G2 l).map D2=JA (G2.map D2) (l.map D2)
 | [],G2=>rfl
 |t::l,G2=>by
  show (j9 (Jt G2 t) l).map D2=JA (Lj (G2.map D2) (D2 t)) (l.map D2);rw[OU l,jK]
theorem PU:∀(l G2:I1),l.Nodup->(∀x∈l,x∉G2)->JA G2 l=G2++l
 | [],G2,_,_=>by simp[JA]
 |t::l,G2,hn,h=>by
  rw[xu]at hn;have e:Lj G2 t=G2++[t]:=if_neg (h t xe);show JA (Lj G2 t) l=_;rw[e,PU l _ hn.2 (λx hx hm=>?_),xi,List.singleton_append];rcases xb.1 hm with hm|hm
  .exact h x (xc _ hx) hm
  .rw[xX.1 hm]at hx;exact hn.1 hx
def PM (a:ByteArray):Tm:=D2 (Nb (true,true) a)
def Ow (a:ByteArray):Tm:=D2 (NJ (true,true) a)
def KR (a b:ByteArray):Tm:=D2 (TA (true,true) a b)
theorem nf (m:J0) (a:H6):D2 (Nb m a)=PM a:=rfl
theorem Zp (m:J0) (a b:H6):D2 (TA m a b)=KR a b:=rfl
theorem kY {a b:H6} (h:Ow a=Ow b):a=b:=by
 simp only[Ow,NJ,Nb,Y3,HM,D2,H3]at h;injection h with _ _ _ _ h
 injection h with h _
 injection h with _ _ _ _ h
 injection h with h _
 injection h with _ h _ _ _
theorem bR {a b c d:H6} (h:KR a b=KR c d):a=c/\b=d:=by
 simp only[KR,TA,Y3,HM,D2,H3]at h;injection h with _ _ _ _ h
 injection h with h1 h
 injection h with h2 _
 injection h1 with _ h1 _ _ _
 injection h2 with _ h2 _ _ _
 exact⟨h1,h2⟩
theorem mv:bs [115,107]≠bs [112,107]:=by decide
theorem mw:bs [115,107]≠bs [115,104,107]:=by decide
theorem my:bs [112,107]≠bs [115,104,107]:=by decide
theorem iQ (a b:H6):Ow a≠PM b:=λh=>by
 simp only[PM,Ow,NJ,Nb,Y3,HM,D2,H3]at h;injection h with _ h _ _ _
 exact mv h.symm
theorem YN (a b c:H6):KR a b≠PM c:=λh=>by
 simp only[PM,KR,TA,Nb,Y3,HM,D2,H3]at h;injection h with _ h _ _ _
 exact mw h.symm
theorem YM (a b c:H6):KR a b≠Ow c:=λh=>by
 simp only[Ow,KR,NJ,TA,Nb,Y3,HM,D2,H3]at h;injection h with _ h _ _ _
 exact my h.symm
theorem iO (m m':J0) (me:H6) (rs:List ByteArray) (role:Nat):∀i,(JM m me rs role i).map D2=(JM m' me rs role i).map D2
 |0=>rfl
 |i+1=>by
  rw[JM,JM,xd,xd,iO m m' me rs role i];congr 1;split
  .rfl
  .split<;>rfl
theorem RB {m:J0} {me:H6} {rs:List ByteArray} {role:Nat}:∀{i:Nat} {x:Tm},x∈(JM m me rs role i).map D2->∃(j:Nat) (r:H6),j<i/\j≠role/\rs[j]?=some r/\(x=KR me r\/x=KR r me)
 |0,x,h=>by simp[JM]at h
 |i+1,x,h=>by
  rw[JM,xd,xb]at h;rcases h with h|h
  .obtain⟨j,r,h1,h2⟩:=RB h;exact⟨j,r,by omega,h2⟩
  .split at h
   .simp at h
   .rename_i hir;split at h
    .rename_i r hr;simp only[xY,xp,xa,xq,or_false,Zp]at h;exact⟨i,r,by omega,hir,hr,h⟩
    .simp at h
theorem Pk {rs:List ByteArray} (h:rs.Nodup) {i j:Nat} {a:H6} (hi:rs[i]?=some a) (hj:rs[j]?=some a):i=j:=by
 obtain⟨h1,e1⟩:=xn.1 hi;obtain⟨h2,e2⟩:=xn.1 hj;rw[List.Nodup,List.pairwise_iff_getElem]at h;rcases Nat.lt_trichotomy i j with A7|he|hgt
 .exact absurd (e1.trans e2.symm) (h i j h1 h2 A7)
 .exact he
 .exact absurd (e2.trans e1.symm) (h j i h2 h1 hgt)
theorem Ug {m:J0} {me:H6} {rs:List ByteArray} {role:Nat} (hn:rs.Nodup) (hme:rs[role]?=some me):∀i,((JM m me rs role i).map D2).Nodup
 |0=>xy
 |i+1=>by
  have ih:=Ug (m:=m) hn hme i;rw[JM,xd];split
  .simpa using ih
  .rename_i hir;split
   .rename_i r hr;have hrm:r≠me:=λe=>hir (Pk hn hr (e ▸ hme));rw[xz];refine⟨ih,?_,?_⟩
    .simp only[xY,xp,xu,xa,xq,or_false,not_false_eq_true,xy,and_true,Zp];intro h;exact hrm (bR h).2
    .intro x hx y hy e;subst e;obtain⟨j,r',j1,j2,j3,j4⟩:=RB hx;simp only[xY,xp,xa,xq,or_false,Zp]at hy;have M8:r≠r':=λe=>by have:=Pk hn hr (e ▸ j3);omega
     have hrm':r'≠me:=λe=>j2 (Pk hn j3 (e ▸ hme));rcases hy with hy|hy<;>rcases j4 with j4|j4<;>rw[hy]at j4<;>have h:=bR j4
     .exact M8 h.2
     .exact hrm' h.1.symm
     .exact hrm h.1
     .exact M8 h.1
   .simpa using ih
noncomputable def KQ (f:ByteArray->Int) (n:Nar) (me:ByteArray) (role q:Nat):List Tm :=
 JA (JA ([PM me]++n.roles.map Ow++(JM (true,true) me n.roles role n.roles.length).map D2) ((GO me n.fresh).map D2)) (((n.steps.take q).filter (JT me)).map λs=>U3 f s.msg)
theorem gW {f:ByteArray->Int} {me:H6}:∀{l l':List Ste},l.map LX=l'.map (DB f)->(UL me l).map D2=(l'.filter (JT me)).map λs=>U3 f s.msg
 | [],[],_=>rfl
 | [],_::_,h=>by simp at h
 |_::_,[],h=>by simp at h
 |s::l,s'::l',h=>by
  rw[xY,xY,List.cons.injEq]at h;have ih:=gW (me:=me) h.2;have h1:=h.1;unfold LX DB at h1;injection h1 with e1 e2 e3 e4
  have eb:JT me s=JT me s':=by unfold JT;rw[e1,e2]
  unfold UL at ih ⊢;cases hb:JT me s' with
  |true =>
   rw[xt (by rw[eb];exact hb),xt hb,xY,xY,xY,ih,e3]
  |false =>
   rw[xr (by rw[eb,hb];simp),xr (by rw[hb];simp),ih]
theorem VT {l:List ByteArray} (m:J0):(l.map (NJ m)).map D2=l.map Ow:=by
 rw[xo];rfl
theorem Pd {m:J0} {r n:Nar} {f:ByteArray->Int} (hd:Hf n=0) (he:Oc r=DA f n) {me:H6} {role:Nat} (hme:n.roles[role]?=some me) (q:Nat):(NX m r n me role q).map D2=KQ f n me role q:=by
 obtain⟨-,e2,-,-,e5,-⟩:=AE he;have hn:=YJ hd;have eq:(r.steps.take q).map LX=(n.steps.take q).map (DB f):=by rw[yC,yC,e5]
 unfold NX KQ;rw[OU,gW eq,OU,OU,OU,e2,VT,iO m (true,true),xY,xp,nf];congr 2;rw[PU (n.roles.map Ow) [PM me] ?_ ?_,PU _ _ (Ug hn hme _) ?_]
 .intro x hx hm;obtain⟨j,r',-,-,-,h4⟩:=RB hx;rcases xb.1 hm with hm|hm
  .rw[xX.1 hm]at h4;rcases h4 with h4|h4
   .exact YN _ _ _ h4.symm
   .exact YN _ _ _ h4.symm
  .rw[xZ]at hm;obtain⟨a,-,rfl⟩:=hm;rcases h4 with h4|h4
   .exact YM _ _ _ h4.symm
   .exact YM _ _ _ h4.symm
 .exact(List.Pairwise.map Ow (λa b La h=>La (kY h)) hn)
 .intro x hx hm;rw[xZ]at hx;obtain⟨a,-,rfl⟩:=hx;exact iQ _ _ (xX.1 hm)
theorem Rv {t:Tm} (h:HF t=0):t.size<=40:=by
 unfold HF at h;split at h
 .rename_i h1;exact absurd h h1
 .split at h
  .omega
  .omega
theorem dP {n:Nar} (h:Pl n=0):2<=n.roles.length/\n.roles.length<=4/\n.fresh.length<=12/\n.tags.length<=8/\1<=n.steps.length/\n.steps.length<=8/\n.goals.length<=8:=by
 unfold Pl at h
 repeat' split at h
 all_goals omega
theorem PH (f:ByteArray->Int):∀(N:Nat) (t:Tm),t.size<=N->(U3 f t).size=t.size:=by
 intro N
 induction N with
 |zero=>intro t h;have:=t.size_pos;omega
 |succ N ih =>
  intro t h;obtain⟨k,nm,s,m,l⟩:=t;have e:Tm.size (.mk k nm s m l)=1+Tm.sizes l:=rfl;have key:∀l:List Tm,Tm.sizes l<=N->Tm.sizes (AO f l)=Tm.sizes l:=by
   intro l
   induction l with
   |nil=>intro _;rfl
   |cons a l ihl =>
    intro hl;simp only[Tm.sizes]at hl;simp only[AO,Tm.sizes];rw[ih a (by omega),ihl (by omega)]
  show Tm.size (.mk k nm _ (false,false) (AO f l))=_;rw[Tm.size,key l (by omega),e]
theorem LB {r n:Nar} {f:ByteArray->Int} (hR:NP n=0) (he:Oc r=DA f n):Smol r n/\Smol r r:=by
 obtain⟨h1,h2,h3⟩:=GU hR;have hs:=dP (Re h1).2;obtain⟨-,e2,e3,-,e5,-⟩:=AE he;have cZ:r.steps.length=n.steps.length:=by have:=congrArg yD e5;simpa using this
 have hmsg:∀s∈r.steps,s.msg.size<=1048576:=λs hs=>by
  have hm:LX s∈n.steps.map (DB f):=by rw[←e5];exact xl hs
  obtain⟨s',hs',e⟩:=xZ.1 hm;unfold LX DB at e;injection e with _ _ e _
  have h4:=Rv (RC (h2 s' hs'));have h5:=PH f _ s'.msg (xj _);rw[e,Dn _ _ (xj _)]at h5;omega
 exact⟨⟨by rw[e2];omega,by omega,by omega,hmsg⟩,⟨by rw[e2];omega,by rw[e3];omega,by omega,hmsg⟩⟩
end Go.Abs.Q
namespace Go.Abs.Q
open Go.Proofs
attribute [local simp] D1 D4 fin I2 G0 K7 I3 N4 O5
theorem MZ {l:I1} {N:Nat} (h:∀x∈l,x.size<=N):Tm.sizes l<=l.length*N:=by
 induction l with
 |nil=>simp[Tm.sizes]
 |cons a l ih =>
  have h1:=h a xe;have h2:=ih λx hx=>h x (xc _ hx);rw[Tm.sizes,List.length_cons,Nat.succ_mul];omega
theorem Rw {r n:Nar} {f:ByteArray->Int} (hR:NP n=0) (he:Oc r=DA f n):∀s∈r.steps,s.msg.size<=40:=λs hs=>by
 obtain⟨h1,h2,h3⟩:=GU hR;obtain⟨-,e2,e3,-,e5,-⟩:=AE he;have hm:LX s∈n.steps.map (DB f):=by rw[←e5];exact xl hs
 obtain⟨s',hs',e⟩:=xZ.1 hm;unfold LX DB at e;injection e with _ _ e _
 have h4:=Rv (RC (h2 s' hs'));have h5:=PH f _ s'.msg (xj _);rw[e,Dn _ _ (xj _)]at h5;omega
theorem Hl {r n:Nar} {f:ByteArray->Int} (he:Oc r=DA f n):r.roles=n.roles/\r.fresh=n.fresh/\r.steps.length=n.steps.length:=by
 obtain⟨-,e2,e3,-,e5,-⟩:=AE he;exact⟨e2,e3,by have:=congrArg yD e5;simpa using this⟩
mutual
theorem Wp:∀t:Tm,D2 (D2 t)=D2 t
 | .mk k nm s m l=>by rw[D2,D2,aU l]
theorem aU:∀l:List Tm,H3 (H3 l)=H3 l
 | []=>rfl
 |t::l=>by rw[H3,H3,Wp t,aU l]
end
end Go.Abs.Q
namespace Go.Abs.Q
open Go.Proofs
def NG (x:Tm):Prop:=(x.kind=2/\0<=x.sort/\x.sort<=5/\x.kids=[]/\BI x.name=true/\Nx x.name (bs [101,35])=false) \/
 (x.kind=3/\x.sort=0/\x.name∈AD/\Kd x.name x.kids.length=true/\WB x.name x.kids=0)
def GK (t:Tm):Prop:=∀x∈EH t,NG x
theorem Wi:∀a∈AD,BI a=true/\JE a≠0/\∀n,Kd a n=true->n<=2:=by
 intro a ha;have h1:(AD.all λa=>BI a&&decide (JE a≠0)&&decide ((LY a).2.2.1<=2))=true:=by decide
 have h2:=List.all_eq_true.1 h1 a ha;simp only[oD,decide_eq_true_eq]at h2;refine⟨h2.1.1,h2.1.2,λn hn=>?_⟩;unfold Kd at hn;simp only[oD,decide_eq_true_eq]at hn;omega
theorem GK.kid {t x:Tm} (h:GK t) (hx:x∈t.kids):GK x:=λy hy=>h y (by
 rw[AY,I9];exact xc _ (yB.2 ⟨x,hx,hy⟩))
theorem GK.root {t:Tm} (h:GK t):NG t:=h t (by rw[AY];exact xe)
theorem Zy {t:Tm} (h:NG t) (hk:∀x∈t.kids,GK x):GK t:=λy hy=>by
 rw[AY,I9]at hy;rcases xa.1 hy with rfl|hy
 .exact h
 .obtain⟨x,hx,hy⟩:=yB.1 hy;exact hk x hx y hy
theorem bc:∀(N:Nat) (t:Tm),t.size<=N->GK t->L0 t=0/\RF t=0:=by
 intro N
 induction N with
 |zero=>intro t h;have:=t.size_pos;omega
 |succ N ih =>
  intro t hs h;have hr:=h.root;have hkid:∀x∈t.kids,L0 x=0/\RF x=0:=λx hx=>ih x (by have:=Tm.size_le hx;have:=t.kids_size;omega) (h.kid hx);obtain⟨k,nm,s,m,l⟩:=t;simp only[Tm.kids]at hkid;have e1:T5 l=0:=by
   clear hr hs h ih
   induction l with
   |nil=>rfl
   |cons a l ihl =>
    have h1:=hkid a xe;have h2:=ihl λx hx=>hkid x (xc _ hx);rw[T5,h1.1,h2];simp
  have e2:LZ l=0:=by
   clear hr hs h ih e1
   induction l with
   |nil=>rfl
   |cons a l ihl =>
    have h1:=hkid a xe;have h2:=ihl λx hx=>hkid x (xc _ hx);rw[LZ,h1.2,h2];simp
  rcases hr with ⟨q1,q2,q3,q4,q5,q6⟩|⟨q1,q2,q3,q4,q5⟩
  .simp only[Tm.kind,Tm.sort,Tm.kids,Tm.name]at q1 q2 q3 q4 q5;subst q1 q4;refine⟨?_,by rw[RF];simp⟩;have:t6 2 s nm 0=0:=by
    unfold t6;rw[if_neg (by omega),if_neg (by simp[q5]),if_neg (by omega)]
   rw[L0,List.length_nil,this];simp[T5]
  .simp only[Tm.kind,Tm.sort,Tm.kids,Tm.name]at q1 q2 q3 q4 q5;subst q1 q2;obtain⟨f1,f2,f3⟩:=Wi nm q3;have hl:=f3 _ q4;have:t6 3 0 nm l.length=0:=by
    unfold t6;rw[if_neg (by omega),if_neg (by simp[f1]),if_neg (by omega)]
   refine⟨by rw[L0,this,e1];simp,?_⟩;rw[RF];rw[if_neg (by omega),if_neg f2,if_neg (by simp[q4]),if_neg (by simp[q5])];exact e2
theorem GK.good {t:Tm} (h:GK t) (hs:t.size<=40):GoodT t:=by
 obtain⟨h1,h2⟩:=bc _ t (xj _) h;refine⟨λx hx hk=>?_,?_,?_,λx hx hk=>?_⟩
 .rcases h x hx with q|q
  .have:=q.1;omega
  .exact q.2.2.1
 .unfold vE;have hv:S6 t=0:=by
   unfold S6;have:=VB t;rw[if_neg (by simp[h1]),if_neg (by omega)]
  rw[if_neg (by simp[hv]),h2]
 .unfold rL;rw[List.isEmpty_iff,List.filter_eq_nil_iff];intro x hx;rcases h x hx with q|q<;>have:=q.1<;>simp<;>omega
 .rcases h x hx with q|q
  .exact q.2.2.2.2.2
  .have:=q.1;omega
theorem qJ {t:Tm} (h:NG (D2 t)):NG t:=by
 obtain⟨k,nm,s,m,l⟩:=t;simp only[NG,D2,Tm.kind,Tm.sort,Tm.kids,Tm.name]at h ⊢;rw[ew,E4,xh]at h;rcases h with ⟨q1,q2,q3,q4,q5,q6⟩|h
 .exact .inl ⟨q1,q2,q3,by simpa using q4,q5,q6⟩
 .exact .inr h
theorem Mp {t:Tm} (h:GK (D2 t)):GK t:=λx hx=>qJ (h _ (by rw[RL];exact xl hx))
inductive Wt (ro:ByteArray->Prop) (ok:ByteArray->Int->Prop):Tm->Prop
 |atom (a:ByteArray) (s:Int) (h:ok a s):Wt ro ok (.mk 2 a s (false,false) [])
 |pair (x y:Tm) (hx:Wt ro ok x) (hy:Wt ro ok y):Wt ro ok (.mk 3 (bs [112,97,105,114]) 0 (false,false) [x,y])
 |enc (x y:Tm) (hx:Wt ro ok x) (hy:Wt ro ok y):Wt ro ok (.mk 3 (bs [101,110,99]) 0 (false,false) [x,y])
 |hash (x:Tm) (hx:Wt ro ok x):Wt ro ok (.mk 3 (bs [104,97,115,104]) 0 (false,false) [x])
 |aenc (x:Tm) (r:ByteArray) (hx:Wt ro ok x) (hr:ro r):Wt ro ok (.mk 3 (bs [97,101,110,99]) 0 (false,false) [x,Ow r])
 |sign (x:Tm) (r:ByteArray) (hx:Wt ro ok x) (hr:ro r):Wt ro ok (.mk 3 (bs [115,105,103,110]) 0 (false,false) [x,PM r])
 |pk (r:ByteArray) (hr:ro r):Wt ro ok (Ow r)
 |shk (a b:ByteArray) (ha:ro a) (hb:ro b) (M8:a≠b):Wt ro ok (KR a b)
def RI (a:ByteArray):Prop:=BI a=true/\Nx a (bs [101,35])=false
theorem Mo {a:H6} {s:Int} {m:J0} (h:RI a) (h1:0<=s) (h2:s<=5):GK (.mk 2 a s m []) :=
 Zy (.inl ⟨rfl,h1,h2,rfl,h.1,h.2⟩) (λx hx=>nomatch hx)
theorem Gx {nm:H6} {m:J0} {l:I1} (h:nm∈AD) (hf:Kd nm l.length=true) (ha:WB nm l=0) (hl:∀x∈l,GK x):GK (.mk 3 nm 0 m l) :=
 Zy (.inr ⟨rfl,rfl,h,hf,ha⟩) hl
theorem PW {nm:H6} {l:I1} (h:nm≠bs [115,107]/\nm≠bs [115,104,107]/\nm≠bs [110,101,119]):WB nm l=0:=by
 unfold WB;rw[if_neg (by simp[h.1,h.2.1]),if_neg h.2.2]
theorem Ll {P:Tm->Prop} {x:Tm} (h:P x):∀z∈[x],P z:=λz hz=>by rw[xX.1 hz];exact h
theorem HO {P:Tm->Prop} {x y:Tm} (h:P x) (k:P y):∀z∈[x,y],P z:=λz hz=>by
 rcases xa.1 hz with rfl|hz
 .exact h
 .rw[xX.1 hz];exact k
theorem Un {a:H6} (h:RI a):GK (D2 (HM a)):=Mo h (by omega) (by omega)
theorem Uq {a:H6} (h:RI a):GK (PM a) :=
 Gx (l:=[D2 (HM a)]) (by simp[AD]) rfl rfl λx hx=>by rw[xX.1 hx];exact Un h
theorem Uo {a:H6} (h:RI a):GK (Ow a) :=
 Gx (l:=[PM a]) (by simp[AD]) rfl (PW (by decide)) λx hx=>by rw[xX.1 hx];exact Uq h
theorem Up {a b:H6} (h:RI a) (h':RI b):GK (KR a b) :=
 Gx (l:=[D2 (HM a),D2 (HM b)]) (by simp[AD]) rfl rfl λx hx=>by
  rcases xa.1 hx with rfl|hx
  .exact Un h
  .rw[xX.1 hx];exact Un h'
theorem Wt.allN {ro:ByteArray->Prop} {ok:ByteArray->Int->Prop} (hr:∀a,ro a->RI a) (ho:∀a s,ok a s->RI a/\0<=s/\s<=5) {t:Tm} (h:Wt ro ok t):GK t:=by
 induction h with
 |atom a s h=>obtain⟨h1,h2,h3⟩:=ho a s h;exact Mo h1 h2 h3
 |pair x y _ _ ix iy=>exact Gx (by simp[AD]) rfl (PW (by decide)) (HO ix iy)
 |enc x y _ _ ix iy=>exact Gx (by simp[AD]) rfl (PW (by decide)) (HO ix iy)
 |hash x _ ix=>exact Gx (by simp[AD]) rfl (PW (by decide)) (Ll ix)
 |aenc x r _ h ix=>exact Gx (by simp[AD]) rfl (PW (by decide)) (HO ix (Uo (hr r h)))
 |sign x r _ h ix=>exact Gx (by simp[AD]) rfl (PW (by decide)) (HO ix (Uq (hr r h)))
 |pk r h=>exact Uo (hr r h)
 |shk a b h h' _=>exact Up (hr a h) (hr b h')
theorem iB {a:H6} (h:Lz a=false):Nx a (bs [101,35])=false:=by
 unfold Nx;by_cases h1:(FD a).take (bs [101,35]).size=FD (bs [101,35])
 .exfalso
  have e1:FD (bs [101,35])=[101,35]:=by decide
  have e2:(bs [101,35]).size=2:=by decide
  rw[e1,e2]at h1;unfold Lz at h;have hm:(35:UInt8)∈FD a:=xk (i:=2) (by rw[h1];simp);rw[List.contains_iff_mem.2 hm]at h;cases h
 .rw[show decide ((FD a).take (bs [101,35]).size=FD (bs [101,35]))=false from decide_eq_false h1,Bool.and_false]
theorem Oj {a:H6} (h:Y2 a=true):BI a=true:=by
 unfold Y2 at h;rw[oD]at h;exact h.1
theorem Ns {n:Nar} (h:Hc n=0):(∀a∈n.roles,BI a=true)/\(∀f∈n.fresh,BI f.name=true/\2<=f.sort/\f.sort<=4)/\∀a∈n.tags,BI a=true:=by
 unfold Hc at h;split at h
 .omega
 .split at h
  .rename_i h1;exact absurd h h1
  .split at h
   .omega
   .rename_i h1;split at h
    .rename_i h2;exact absurd h h2
    .rename_i h2;split at h
     .omega
     .rename_i h3;have key:∀l:List ByteArray,¬l.any KO=true->∀a∈l,BI a=true:=λl hl a ha=>by
       refine Oj ?_;cases hb:Y2 a with
       |true=>rfl
       |false=>exact absurd (xg.2 ⟨a,ha,by simp[KO,hb]⟩) hl
      refine⟨key _ h1,λf hf=>?_,key _ h3⟩;have h4:E8 Ly n.fresh=0:=by
       apply Classical.byContradiction;exact h2
      have h5:=FF h4 f hf;unfold Ly at h5;split at h5
      .omega
      .rename_i h6;split at h5
       .omega
       .exact⟨Oj (by
         cases hb:Y2 f.name with
         |true=>rfl
         |false=>exact absurd (.inr hb) h6),by omega,by omega⟩
theorem Ry {n:Nar} (h:Right n):∀a∈B4 n,RI a:=λa ha=>by
 obtain⟨k1,k2,k3⟩:=Ns (GU h.nar).1;refine⟨?_,iB ((QO h.dec).2 a ha)⟩;unfold B4 at ha;rcases xb.1 ha with ha|ha
 .rcases xb.1 ha with ha|ha
  .exact k1 a ha
  .obtain⟨f,hf,rfl⟩:=xZ.1 ha;exact(k2 f hf).1
 .exact k3 a ha
theorem iU {n:Nar} (h:Right n) (a:H6):0<=G3 (B4 n) (D6 n) a/\G3 (B4 n) (D6 n) a<=5:=by
 obtain⟨k1,k2,k3⟩:=Ns (GU h.nar).1;unfold G3;split
 .rw[xm];cases hx:(D6 n)[(idx (BR a) (B4 n)).toNat]? with
  |none=>simp
  |some x =>
   have hm:=List.mem_of_getElem? hx;simp only[Option.getD_some];unfold D6 at hm;rcases xb.1 hm with hm|hm
   .rcases xb.1 hm with hm|hm
    .obtain⟨_,_,rfl⟩:=xZ.1 hm;omega
    .obtain⟨f,hf,rfl⟩:=xZ.1 hm;have:=(k2 f hf).2;omega
   .obtain⟨_,_,rfl⟩:=xZ.1 hm;omega
 .omega
theorem QH {α:Type} (p:α->Bool):∀(l l':List α) (i:Nat),l.any p=true->R7 p i (l++l')=R7 p i l
 | [],l',i,h=>by simp at h
 |a::l,l',i,h=>by
  rw[List.cons_append];unfold R7;by_cases hp:p a=true
  .rw[if_pos hp,if_pos hp]
  .rw[if_neg hp,if_neg hp];refine QH p l l' _ ?_;rw[List.any_cons]at h;simpa[hp]using h
theorem Ud {n:Nar} {a:H6} (h:a∈n.roles):G3 (B4 n) (D6 n) a=1:=by
 have h1:n.roles.any (BR a)=true:=xg.2 ⟨a,h,(Dm a a).2 rfl⟩;have h2:(B4 n).any (BR a)=true:=YI n a h1;unfold G3;rw[if_pos h2];have e:idx (BR a) (B4 n)=idx (BR a) n.roles:=by
  unfold idx B4;rw[xi];exact QH _ _ _ _ h1
 have hge:=(CH (BR a) n.roles 0).2 h1;have A7:=IE (BR a) n.roles 0;rw[e];have hi:(idx (BR a) n.roles).toNat<n.roles.length:=by unfold idx;omega
 rw[xm];have:(D6 n)[(idx (BR a) n.roles).toNat]?=some 1:=by
  unfold D6;rw[xi,List.getElem?_append_left (by simpa using hi),List.getElem?_map,List.getElem?_eq_getElem hi];rfl
 rw[this];rfl
theorem Sj {rs:List ByteArray} {f:ByteArray->Int} (hf:∀a∈rs,f a=1) {t:Tm} (hn:L0 t=0) (h:EG rs t=true):∃a∈rs,t.name=a/\U3 f t=D2 (HM a):=by
 obtain⟨k,nm,s,m,l⟩:=t;obtain⟨h1,_⟩:=CP hn;rw[EG,oD]at h;have hk:k=2:=of_decide_eq_true h.1;have hr:rs.any (BR nm)=true:=h.2;obtain⟨a,ha,he⟩:=xg.1 hr;rw[Dm]at he;subst he;have hl:l=[]:=xf ((IM h1).2.1 (.inr hk));subst hl hk;refine⟨nm,ha,rfl,?_⟩;rw[U3,if_pos rfl,hf nm ha];rfl
theorem YS {rs:List ByteArray} {f:ByteArray->Int} (hf:∀a∈rs,f a=1) {t:Tm} (hn:L0 t=0) (h:HJ rs t=true):∃a∈rs,U3 f t=PM a:=by
 obtain⟨k,nm,s,m,l⟩:=t;obtain⟨h1,h2⟩:=CP hn;rw[HJ,oD,Ah,oD,oD]at h;obtain⟨⟨⟨hk0,hnm0⟩,hl0⟩,hff⟩:=h;have hk:k=3:=of_decide_eq_true hk0;have hnm:nm=bs [115,107]:=of_decide_eq_true hnm0;have hl:(l.length:Int)=1:=of_decide_eq_true hl0;clear hk0 hnm0 hl0
 replace hff:VJ (EG rs) l=true:=hff
 subst hk hnm
 replace hl:l.length=1:=by omega
 have hs:s=0:=by
  unfold t6 at h1;split at h1
  .omega
  .omega
 match l,hl,hff,h2 with
 | [a],_,hff,h2 =>
  obtain⟨r,hr,_,e⟩:=Sj hf (BJ h2 a (by simp)) hff;refine⟨r,hr,?_⟩;rw[U3,if_neg (by omega),AO,AO,e,hs];rfl
theorem YT {rs:List ByteArray} {f:ByteArray->Int} (hf:∀a∈rs,f a=1) {t:Tm} (hn:L0 t=0) (h:Kq rs t=true):∃a∈rs,U3 f t=Ow a:=by
 obtain⟨k,nm,s,m,l⟩:=t;obtain⟨h1,h2⟩:=CP hn;rw[Kq,oD,Ah,oD,oD]at h;obtain⟨⟨⟨hk0,hnm0⟩,hl0⟩,hff⟩:=h;have hk:k=3:=of_decide_eq_true hk0;have hnm:nm=bs [112,107]:=of_decide_eq_true hnm0;have hl:(l.length:Int)=1:=of_decide_eq_true hl0;clear hk0 hnm0 hl0
 replace hff:VJ (HJ rs) l=true:=hff
 subst hk hnm
 replace hl:l.length=1:=by omega
 have hs:s=0:=by
  unfold t6 at h1;split at h1
  .omega
  .omega
 match l,hl,hff,h2 with
 | [a],_,hff,h2 =>
  obtain⟨r,hr,e⟩:=YS hf (BJ h2 a (by simp)) hff;refine⟨r,hr,?_⟩;rw[U3,if_neg (by omega),AO,AO,e,hs];rfl
theorem iC {k:Int} {nm:H6} {s:Int} {m:J0} {l:I1} (h:Ku (.mk k nm s m l)=0):k≠1/\s=0/\∀x∈l,Ku x=0:=by
 rw[Ku]at h;split at h
 .omega
 .rename_i h1;split at h
  .omega
  .refine⟨λe=>h1 (.inl e),by
    apply Classical.byContradiction;exact λe=>h1 (.inr e),?_⟩
   clear h1
   induction l with
   |nil=>exact λx hx=>nomatch hx
   |cons a l ih =>
    rw[MS]at h;by_cases ha:Ku a=0
    .rw[if_neg (by simp[ha])]at h;intro x hx;rcases xa.1 hx with rfl|hx
     .exact ha
     .exact ih h x hx
    .rw[if_pos ha]at h;exact absurd h ha
def tf (n:Nar) (a:ByteArray) (s:Int):Prop:=a∈B4 n/\s=G3 (B4 n) (D6 n) a
theorem qN {n:Nar}:∀(N:Nat) (t:Tm),t.size<=N->L0 t=0->Ku t=0->Af (B4 n) n.roles t=0->Wt (·∈n.roles) (tf n) (U3 (G3 (B4 n) (D6 n)) t):=by
 have hf:∀a∈n.roles,G3 (B4 n) (D6 n) a=1:=λa ha=>Ud ha;intro N
 induction N with
 |zero=>intro t h;have:=t.size_pos;omega
 |succ N ih =>
  intro t hn M8 hraw hs;obtain⟨k,nm,s,m,l⟩:=t;have K3:Tm.size (.mk k nm s m l)=1+Tm.sizes l:=rfl;obtain⟨h1,h2⟩:=CP M8;obtain⟨w1,w2,w3⟩:=iC hraw;subst w2;have one:∀t∈l,Af (B4 n) n.roles t=0->Wt (·∈n.roles) (tf n) (U3 (G3 (B4 n) (D6 n)) t):=λt ht h0=>ih t (by have:=Tm.size_le ht;omega) (BJ h2 t ht) (w3 t ht) h0;have nk:=λt (ht:t∈l)=>BJ h2 t ht;by_cases hk:k=3
  .subst hk;rw[U3,if_neg (by omega)];rw[RA]at hs;simp only[Tm.kind,ne_eq,not_true,if_false]at hs;split at hs
   .omega
   .rename_i hkd;have Fy:=FF hs;rw[ju]at Fy hkd;simp only[Tm.kids]at Fy;by_cases c1:nm=bs [112,97,105,114]/\(l.length:Int)=2\/nm=bs [101,110,99]/\(l.length:Int)=2
    .rw[if_pos c1]at Fy;have hl:l.length=2:=by omega
     match l,hl,Fy,one with
     | [a,b],_,Fy,one =>
      have ha:=one a (by simp) (Fy a (by simp));have hb:=one b (by simp) (Fy b (by simp));rw[AO,AO,AO];rcases c1 with ⟨rfl,_⟩|⟨rfl,_⟩
      .exact .pair _ _ ha hb
      .exact .enc _ _ ha hb
    .rw[if_neg c1]at Fy hkd;by_cases c2:nm=bs [104,97,115,104]/\(l.length:Int)=1
     .rw[if_pos c2]at Fy;have hl:l.length=1:=by omega
      match l,hl,Fy,one with
      | [a],_,Fy,one =>
       obtain⟨rfl,_⟩:=c2;exact .hash _ (one a (by simp) (Fy a (by simp)))
     .rw[if_neg c2]at Fy hkd;by_cases c3:(nm=bs [97,101,110,99]/\(l.length:Int)=2)/\Si (Kq n.roles) l=true\/(nm=bs [115,105,103,110]/\(l.length:Int)=2)/\Si (HJ n.roles) l=true
      .rw[if_pos c3]at Fy;have hl:l.length=2:=by omega
       match l,hl,Fy,one,c3,nk with
       | [a,b],_,Fy,one,c3,nk =>
        have ha:=one a (by simp) (Fy a (by simp));rw[AO,AO,AO];rcases c3 with ⟨⟨rfl,_⟩,hb⟩|⟨⟨rfl,_⟩,hb⟩
        .obtain⟨r,hr,e⟩:=YT hf (nk b (by simp)) hb;rw[e];exact .aenc _ r ha hr
        .obtain⟨r,hr,e⟩:=YS hf (nk b (by simp)) hb;rw[e];exact .sign _ r ha hr
      .rw[if_neg c3]at Fy hkd;by_cases c4:Kq n.roles (.mk 3 nm 0 m l)=true\/YO n.roles (.mk 3 nm 0 m l)=true
       .rcases c4 with c4|c4
        .obtain⟨r,hr,e⟩:=YT hf M8 c4;rw[U3,if_neg (by omega)]at e;rw[e];exact .pk r hr
        .rw[YO,oD,oD,oD,fF]at c4;obtain⟨⟨⟨⟨rfl,hl⟩,ha⟩,hb⟩,hd⟩:=c4
         replace ha:VJ (EG n.roles) l=true:=ha
         replace hb:Si (EG n.roles) l=true:=hb
         replace hd:mM l=true:=hd
         have hl:l.length=2:=by omega
         match l,hl,ha,hb,nk,hd with
         | [a,b],_,ha,hb,nk,hd =>
          obtain⟨r,hr,e1,e⟩:=Sj hf (nk a (by simp)) ha;obtain⟨r',hr',e1',e'⟩:=Sj hf (nk b (by simp)) hb;rw[AO,AO,AO,e,e'];refine .shk r r' hr hr' λhe=>?_;have:a.name≠b.name:=of_decide_eq_true hd;exact this (by rw[e1,e1',he])
       .rw[if_neg c4]at hkd;omega
  .have hb:=(IM h1);have hk2:k=2:=by rcases hb.2.2.1 with h|h|h<;>omega
   subst hk2;have hl:l=[]:=xf (hb.2.1 (.inr rfl));subst hl;rw[RA]at hs;simp only[Tm.kind,ne_eq,hk,not_false_eq_true,if_true,Tm.name]at hs;by_cases h:(B4 n).any (BR nm)=true
   .obtain⟨a,ha,he⟩:=xg.1 h;rw[Dm]at he;subst he;rw[U3,if_pos rfl];exact .atom nm _ ⟨ha,rfl⟩
   .replace hs:(if (B4 n).any (BR nm)=true then (0:Int)else 13)=0:=hs
    rw[if_neg h]at hs;omega
theorem kI {t:Tm} (h:HF t=0):Ku t=0:=by
 have h1:KJ t=0:=by
  apply Classical.byContradiction;intro hc;unfold HF at h;rw[if_pos hc]at h;exact hc h
 unfold KJ at h1;have hv:S6 t=0:=by
  apply Classical.byContradiction;intro hc;rw[if_pos hc]at h1;exact hc h1
 rw[if_neg (by simp[hv])]at h1;exact h1
theorem Right.role_ok {n:Nar} (h:Right n):∀a,a∈n.roles->RI a:=λa ha=>Ry h a (by unfold B4;simp[ha])
theorem Right.at_ok {n:Nar} (h:Right n):∀a s,tf n a s->RI a/\0<=s/\s<=5:=λa s ha=>by
 obtain⟨h1,rfl⟩:=ha;exact⟨Ry h a h1,iU h a⟩
theorem Right.msg {n:Nar} (h:Right n) {s:Ste} (hs:s∈n.steps):Wt (·∈n.roles) (tf n) (U3 (G3 (B4 n) (D6 n)) s.msg)/\s.msg.size<=40:=by
 have h1:=RC ((GU h.nar).2.1 s hs);exact⟨qN _ _ (xj _) (Ph h1) (kI h1) (iL (h.steps s hs)),Rv h1⟩
end Go.Abs.Q
