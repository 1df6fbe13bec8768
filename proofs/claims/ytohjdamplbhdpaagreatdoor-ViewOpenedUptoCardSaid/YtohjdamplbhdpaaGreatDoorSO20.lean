/- A part of the proof. -/
import Derived.Test.YtohjdamplbhdpaaGreatDoorSO19
set_option linter.all false
open List renaming map_cons->A0Q,getElem?_eq_getElem->A0S,map_append->A0T,mem_map->A0U,mem_singleton->A0V,mem_cons->A0W,mem_append->A0X,mem_cons_of_mem->A0Y,length_map->A0Z,any_eq_true->A0b,mem_map_of_mem->A0c,mem_cons_self->A0d,append_assoc->A0e,take_of_length_le->A0f,eq_nil_of_length_eq_zero->A0g,map_nil->A0h,length_take->A0i,mem_flatMap->A0j,mem_of_mem_take->A0k,getD_eq_getElem?_getD->A0l,take_succ_eq_append_getElem->A0m,append_nil->A0n,length->A0o,map_take->A0p,getElem?_eq_some_iff->A0q,getElem_mem->A0r,map_map->A0s,not_mem_nil->A0t,filter_cons_of_neg->A0u,filter_cons_of_pos->A0v,nodup_cons->A0w,drop_eq_nil_of_le->A0x,length_singleton->A0y,nodup_nil->A0z,mem_of_getElem?->A00,nodup_append->A02,length_cons->A03,length_nil->A04,mem_filter->A05,any_cons->A06
open Bool renaming and_eq_true->A0R,false_eq_true->A01
open Nat renaming le_refl->A0a
namespace Go.Abs.Q
open Go.Proofs
attribute [local simp] E1 E5 fin J7 G4 O2 L3 P2 P1
theorem uV {c:Ctx} {h:AH} {sz bytes:Nat} {b:Bool} {m:I7} {ys:G3} (P0:ys≠[]) (hb:ys.length*bytes<=H2/\ys.length<=maxLen) :
  K1 c h sz bytes (sl (true,b) sz []) (sl m sz ys)=some (.sl h.fams.length ys.length 0 ys.length,⟨h.boxes,h.fams++[⟨ys,sz,c.mutApp⟩]⟩):=by
 have hl:ys.length≠0:=λe=>P0 (A0g e);have hx:=M9 h m sz ys;have e:K1 c h sz bytes (sl (true,b) sz []) (sl m sz ys)=K1 c h sz bytes (.vs true (if (([]:List AV).isEmpty&&!b)=true then 0 else sz) []) (sl m sz ys):=rfl
 rw[e];simp only[K1,hx];rw[if_neg hl,if_pos ⟨.inr rfl,by simpa using hb⟩];simp
theorem UO (nm:J2) (m:I7) (l:G7) (P0:l≠[]) (B8:l.length<=1048576):pc Q W1 [.str nm,sl m 4 (A4 l)]=some (B9 (Uy nm (false,true) l)):=by
 rw[←qY];have hl':(A4 l).length=l.length:=by rw[D0,A0Z]
 have hne':A4 l≠[]:=λe=>P0 (by rw[D0,List.map_eq_nil_iff]at e;exact e);generalize A4 l=xs at *
 have hr:xs.length*56<=H2/\xs.length<=maxLen:=by simp only[H2,maxLen];omega
 have ha:∀(B:List (List AV)),K1 (D6 W1) ⟨B,[]⟩ 4 56 (sl (true,true) 4 []) (sl m 4 xs)=some (.sl 0 xs.length 0 xs.length,⟨B,[⟨xs,4,false⟩]⟩):=λB=>uV hne' hr;refine O9 DK λfr hl h0 h1=>?_;simp[DK]at hl h0 h1;simp[DK,hl,h0,h1,A5,D2,E6,ha]
theorem fc (a:J2):pc Q Ib [.str a]=some (B9 (Mk (false,true) a)):=by
 have hG:=VJ a;have hA:=UO (bs [115,107]) (true,true) [Hv a] (by simp) (by simp);rw[show A4 [Hv a]=[B9 (Hv a)] from rfl]at hA;change pc Q W1 _=some (B9 (Mk (false,true) a))at hA;refine H5 MF λfr hl h0=>?_;simp[MF]at hl h0;simp[MF,hl,h0,hG,hA,A5]
theorem sg (a:J2):pc Q Mz [.str a]=some (B9 (Ll (false,true) a)):=by
 have hG:=fc a;have hA:=UO (bs [112,107]) (true,true) [Mk (false,true) a] (by simp) (by simp);rw[show A4 [Mk (false,true) a]=[B9 (Mk (false,true) a)] from rfl]at hA;change pc Q W1 _=some (B9 (Ll (false,true) a))at hA;generalize Mk (false,true) a=u at *
 refine H5 Nd λfr hl h0=>?_;simp[Nd]at hl h0;simp[Nd,hl,h0,hG,hA,A5]
theorem fl (a b:J2):pc Q Ji [.str a,.str b]=some (B9 (Sg (false,true) a b)):=by
 have hG:=VJ a;have hG':=VJ b;have hA:=UO (bs [115,104,107]) (true,true) [Hv a,Hv b] (by simp) (by simp);rw[show A4 [Hv a,Hv b]=[B9 (Hv a),B9 (Hv b)] from rfl]at hA;change pc Q W1 _=some (B9 (Sg (false,true) a b))at hA;generalize Hv a=u at *
 generalize Hv b=u' at *
 refine O9 Nf λfr hl h0 h1=>?_;simp[Nf]at hl h0 h1;simp[Nf,hl,h0,h1,hG,hG',hA,A5]
theorem nW (r:Nar) (B8:r.roles.length<=1000) (acc:G7) (hal:acc.length<=1000) (fr:Fr) (h:AH) (hh:h.boxes=[(G8 r).cells]) (v0:AV) (hv0:A0 fr 8=v0) (hg0:KL false 4 (A4 acc) v0 h) (hl:fr.length=112) (h3:A0 fr 3=.ptr 0 0) (h9:A0 fr 9=.int .i64 0) :
  B7 (lp (A2 (K8 Q) (D6 T8) DS) (fr,h)) λe C4 h'=>Kp DS.wr fr C4/\e=.exit 0/\h'.boxes=[(G8 r).cells]/\KL false 4 (A4 (acc++r.roles.map (Ll (false,true)))) (A0 C4 8) h':=by
 refine B4 rfl fr (λn fr h'=>∃(i:Nat),i+n=r.roles.length/\A0 fr 9=.int .i64 (i:Nat)/\(∃v,A0 fr 8=v/\h'.boxes=[(G8 r).cells]/\KL false 4 (A4 (acc++(r.roles.take i).map (Ll (false,true)))) v h')) ?_ r.roles.length h ⟨0,by omega,h9,_,hv0,hh,by simpa using hg0⟩;rintro J Φ hJ hΦ n D5 H1 K ⟨i,hi,k9,hr⟩;have A6:=K.1.trans hl;have k3:=A8 K 3 h3;clear K;by_cases A7:i<r.roles.length
 .have L4:=C6 i (by omega);obtain⟨v,k8,hB,hg⟩:=hr;obtain⟨bx,fams⟩:=H1;simp only at hB;subst hB;have rb:=E7 r;have hx:=G2 (f:=AV.str) (A0S A7);have Q4:acc++(r.roles.take (i+1)).map (Ll (false,true))=(acc++(r.roles.take i).map (Ll (false,true)))++[Ll (false,true) r.roles[i]]:=by
   rw[A0m A7,A0T,A0Q,A0h,A0e]
  have CK:(acc++(r.roles.take i).map (Ll (false,true))).length<=2000:=by simp;omega
  generalize r.roles[i]=a at *
  have hP:=sg a;obtain⟨v',F',ha,Z6,-⟩:=Nw (c:=D6 T8) (bytes:=56) (x:=sl (true,true) 4 [B9 (Ll (false,true) a)]) (ys:=[B9 (Ll (false,true) a)]) (h:=⟨[(G8 r).cells],fams⟩) hg (M9 _ _ _ _) (by simp only[H2,maxLen,D0,A0Z,A0y];omega);rw[←P8,←Q4]at Z6;rw[rb]at ha;clear Q4 hg;generalize Ll (false,true) a=t2 at *
  simp[DS,A6,k3,k9,A7,L4,k8,rb,hx,hP,A5,ha];exact E9 hJ ⟨i+1,by omega,by simp[A6],v',by simp[A6],by rw[rb],I4 Z6 rfl⟩
 .obtain⟨v,k8,hB,hg⟩:=hr;obtain⟨bx,fams⟩:=H1;simp only at hB;subst hB;have rb:=E7 r;rw[A0f (by omega)]at hg;simp[DS,A6,k3,k9,A7,rb];exact hΦ _ _ _ ⟨rfl,by rw[rb],by simp[k8];exact I4 hg rfl⟩
theorem nV (r:Nar) (B8:r.roles.length<=1000) (acc:G7) (hal:acc.length<=2000) (role:Nat) (me:J2) (fr:Fr) (h:AH) (hh:h.boxes=[(G8 r).cells]) (v0:AV) (hv0:A0 fr 8=v0) (hg0:KL false 4 (A4 acc) v0 h) (hl:fr.length=112) (h1:A0 fr 1=.int .i64 (role:Nat)) (h3:A0 fr 3=.ptr 0 0) (h7:A0 fr 7=.str me) (h10:A0 fr 10=.int .i64 0) :
  B7 (lp (A2 (K8 Q) (D6 T8) Ao) (fr,h)) λe C4 h'=>Kp Ao.wr fr C4/\e=.exit 2/\h'.boxes=[(G8 r).cells]/\KL false 4 (A4 (acc++Lx (false,true) me r.roles role r.roles.length)) (A0 C4 8) h':=by
 refine B4 rfl fr (λn fr h'=>∃(i:Nat),i+n=r.roles.length/\A0 fr 10=.int .i64 (i:Nat)/\(∃v,A0 fr 8=v/\h'.boxes=[(G8 r).cells]/\KL false 4 (A4 (acc++Lx (false,true) me r.roles role i)) v h')) ?_ r.roles.length h ⟨0,by omega,h10,_,hv0,hh,by simpa[Lx]using hg0⟩;rintro J Φ hJ hΦ n D5 H1 K ⟨i,hi,k10,hr⟩;have A6:=K.1.trans hl;have k1:=A8 K 1 h1;have k3:=A8 K 3 h3;have k7:=A8 K 7 h7;clear K;by_cases A7:i<r.roles.length
 .have L4:=C6 i (by omega);obtain⟨v,k8,hB,hg⟩:=hr;obtain⟨bx,fams⟩:=H1;simp only at hB;subst hB;have rb:=E7 r;have hx:=G2 (f:=AV.str) (A0S A7);have hl3:=Sh (false,true) me r.roles role i;have CK:(acc++Lx (false,true) me r.roles role i).length<=4000:=by simp;omega
  have Q4:acc++Lx (false,true) me r.roles role (i+1)=(acc++Lx (false,true) me r.roles role i)++(if i=role then []else [Sg (false,true) me r.roles[i],Sg (false,true) r.roles[i] me]):=by
   rw[Lx,A0S A7,A0e]
  generalize r.roles[i]=a at *
  by_cases hir:i=role
  .rw[if_pos hir,A0n]at Q4;rw[←Q4]at hg;subst hir;simp[Ao,A6,k1,k3,k10,A7,L4,rb];exact E9 hJ ⟨i+1,by omega,by simp[A6],v,by simp[k8],by rw[rb],I4 hg rfl⟩
  .rw[if_neg hir]at Q4;have hii:¬(i:Int)=(role:Int):=by omega
   have hA:=fl me a;have hA2:=fl a me;obtain⟨v',F',ha,Z6,-⟩:=Nw (c:=D6 T8) (bytes:=56) (x:=sl (true,true) 4 [B9 (Sg (false,true) me a),B9 (Sg (false,true) a me)]) (ys:=[B9 (Sg (false,true) me a),B9 (Sg (false,true) a me)]) (h:=⟨[(G8 r).cells],fams⟩) hg (M9 _ _ _ _) (by simp only[H2,maxLen,D0,A0Z,A03,A04];omega);have e1:A4 (acc++Lx (false,true) me r.roles role i)++[B9 (Sg (false,true) me a),B9 (Sg (false,true) a me)]=A4 (acc++Lx (false,true) me r.roles role (i+1)):=by
    rw[Q4,D0,D0,A0T (l₂:=[_,_])];rfl
   rw[e1]at Z6;rw[rb]at ha;clear e1 Q4 hg;generalize Sg (false,true) me a=t2 at *
   generalize Sg (false,true) a me=t1 at *
   simp[Ao,A6,k1,k3,k7,k10,A7,L4,k8,rb,hx,hii,hA,hA2,A5,ha];exact E9 hJ ⟨i+1,by omega,by simp[A6],v',by simp[A6],by rw[rb],I4 Z6 rfl⟩
 .obtain⟨v,k8,hB,hg⟩:=hr;obtain⟨bx,fams⟩:=H1;simp only at hB;subst hB;have rb:=E7 r;have hi2:i=r.roles.length:=by omega
  subst hi2;simp[Ao,A6,k3,k10,rb];exact hΦ _ _ _ ⟨rfl,by rw[rb],by simp[k8];exact I4 hg rfl⟩
theorem eX (r:Nar) (hfl:r.fresh.length<=1048576) (role:Nat) (me:J2) (hme:KN (r.roles.map AV.str) role=some (.str me)) (fr:Fr) (h:AH) (hh:h.boxes=[(G8 r).cells]) (h5:A0 fr 5=.vs true 0 []) (hl:fr.length=43) (h1:A0 fr 1=.int .i64 (role:Nat)) (h2:A0 fr 2=.ptr 0 0) (h6:A0 fr 6=.int .i64 0) :
  B7 (lp (A2 (K8 Q) (D6 Dz) Bb) (fr,h)) λe C4 h'=>Kp Bb.wr fr C4/\e=.exit 0/\KL false 4 (A4 (Hz me r.fresh)) (A0 C4 5) h':=by
 refine B4 rfl fr (λn fr h'=>∃(i:Nat),i+n=r.fresh.length/\A0 fr 6=.int .i64 (i:Nat)/\(∃v,A0 fr 5=v/\h'.boxes=[(G8 r).cells]/\KL false 4 (A4 (Hz me (r.fresh.take i))) v h')) ?_ r.fresh.length h ⟨0,by omega,h6,_,h5,hh,WO _ _ _⟩;rintro J Φ hJ hΦ n D5 H1 K ⟨i,hi,k6,hr⟩;have A6:=K.1.trans hl;have k1:=A8 K 1 h1;have k2:=A8 K 2 h2;clear K;by_cases A7:i<r.fresh.length
 .have L4:=C6 i (by omega);obtain⟨v,k5,hB,hg⟩:=hr;obtain⟨bx,fams⟩:=H1;simp only at hB;subst hB;have rb:=E7 r;have hx:=G2 (f:=Lp) (A0S A7);have B8:=RJ me (r.fresh.take i);rw[A0i]at B8;have Q4:=Zd (me:=me) A7;generalize r.fresh[i]=f at *
  have hA:=Wd f.name f.sort;by_cases hf:f.role=me
  .rw[if_pos hf]at Q4;obtain⟨v',F',ha,Z6,-⟩:=Nw (c:=D6 Dz) (bytes:=56) (x:=sl (true,true) 4 [B9 (.mk 2 f.name f.sort (true,false) [])]) (ys:=[B9 (.mk 2 f.name f.sort (true,false) [])]) (h:=⟨[(G8 r).cells],fams⟩) (I4 hg rfl) (M9 _ _ _ _) (by simp only[H2,maxLen,D0,A0Z,A0y];omega);rw[←P8,←Q4]at Z6;rw[rb]at ha;generalize Tm.mk 2 f.name f.sort (true,false) []=t at *
   simp[Bb,A6,k1,k2,k6,A7,L4,k5,hx,rb,hme,hf,hA,A5,ha];exact E9 hJ ⟨i+1,by omega,by simp[A6],v',by simp[A6],by rw[rb],I4 Z6 rfl⟩
  .rw[if_neg hf,A0n]at Q4;rw[←Q4]at hg;simp[Bb,A6,k1,k2,k6,A7,L4,hx,rb,hme,hf];exact E9 hJ ⟨i+1,by omega,by simp[A6],v,by simp[k5],by rw[rb],I4 hg rfl⟩
 .obtain⟨v,k5,hB,hg⟩:=hr;obtain⟨bx,fams⟩:=H1;simp only at hB;subst hB;have rb:=E7 r;rw[A0f (by omega)]at hg;simp[Bb,A6,k2,k6,A7,rb];exact hΦ _ _ _ ⟨rfl,by simp[k5];exact I4 hg rfl⟩
theorem oT (r:Nar) (hfl:r.fresh.length<=1048576) (role:Nat) (me:J2) (hme:r.roles[role]?=some me):∃m,pc Q Dz [G8 r,.int .i64 (role:Nat)]=some (sl m 4 (A4 (Hz me r.fresh))):=by
 suffices hq:∃v,pc Q Dz [G8 r,.int .i64 (role:Nat)]=some v/\∃m:Bool×Bool,v=sl m 4 (A4 (Hz me r.fresh)) by
  obtain⟨v,h1,m,rfl⟩:=hq;exact⟨m,h1⟩
 have rb:=E7 r;have hme':KN (r.roles.map AV.str) role=some (.str me):=G2 hme;refine Sp Nc λΨ hΨ fr hl h0 h1=>?_;simp[Nc]at hl h0 h1;simp[Nc,h0,rb];refine B7.mono (eX r hfl role me hme' _ _ ?_ ?_ ?_ ?_ ?_ ?_) ?_<;>first|(simp[hl,h1,rb];done)|skip
 rintro e D5 ⟨bx,F1⟩ ⟨K,rfl,hg⟩;have A6:D5.length=43:=K.1.trans (by simp[hl]);obtain⟨m',hf⟩:=Pg hg;simp only at hf;simp[A6,hf];exact hΨ _ ⟨m',rfl⟩
theorem nU (l:G7) (m0:I7) (B8:l.length<=1000) (acc:G7) (hal:acc.length<=5000) (has:∀x∈acc,x.size<=1099511627776) (hls:∀x∈l,x.size<=1099511627776) (B0:List (List AV)) (fr:Fr) (h:AH) (hh:h.boxes=B0) (v0:AV) (hv0:A0 fr 8=v0) (hg0:KL false 4 (A4 acc) v0 h) (hl:fr.length=112) (h11:A0 fr 11=sl m0 4 (A4 l)) (h12:A0 fr 12=.int .i64 0) :
  B7 (lp (A2 (K8 Q) (D6 T8) DR) (fr,h)) λe C4 h'=>Kp DR.wr fr C4/\e=.exit 4/\h'.boxes=B0/\KL false 4 (A4 (U2 acc l)) (A0 C4 8) h':=by
 refine B4 rfl fr (λn fr h'=>∃(i:Nat),i+n=l.length/\A0 fr 12=.int .i64 (i:Nat)/\(∃v,A0 fr 8=v/\h'.boxes=B0/\KL false 4 (A4 (U2 acc (l.take i))) v h')) ?_ l.length h ⟨0,by omega,h12,_,hv0,hh,hg0⟩;rintro J Φ hJ hΦ n D5 H1 K ⟨i,hi,k12,hr⟩;have A6:=K.1.trans hl;have k11:=A8 K 11 h11;clear K;by_cases A7:i<l.length
 .have L4:=C6 i (by omega);obtain⟨v,k8,hB,hg⟩:=hr;obtain⟨bx,fams⟩:=H1;simp only at hB;subst hB;have hx:=H9 A7;have CK:=Bh (l.take i) acc;rw[A0i]at CK;have J4:∀x∈U2 acc (l.take i),x.size<=1099511627776:=λx hx=>by
   rcases Bi _ _ hx with h|h
   .exact has x h
   .exact hls x (A0k h)
  have hli:=hls _ (A0r A7);have Q4:l.take (i+1)=l.take i++[l[i]]:=A0m A7;generalize l[i]=t at *
  obtain⟨v',F',hK,Z6⟩:=lZ _ v ⟨bx,fams⟩ hg t (by omega) J4 hli;have e1:KU (U2 acc (l.take i)) t=U2 acc (l.take (i+1)):=by
   rw[Q4,PD];rfl
  rw[e1]at Z6;clear e1 Q4 hg J4;simp[DR,A6,k11,k12,A7,L4,k8,hx,hK];exact E9 hJ ⟨i+1,by omega,by simp[A6],v',by simp[A6],rfl,I4 Z6 rfl⟩
 .obtain⟨v,k8,hB,hg⟩:=hr;rw[A0f (by omega)]at hg;simp[DR,A6,k11,k12,A7];exact hΦ _ _ _ ⟨rfl,hB,by simp[k8];exact I4 hg rfl⟩
theorem nT (r:Nar) (l:List Ste) (q:Nat) (hq:q<=r.steps.length) (hlq:l=r.steps.take q) (B8:l.length<=1000) (acc:G7) (hal:acc.length<=7000) (has:∀x∈acc,x.size<=1099511627776) (hls:∀x∈l,x.msg.size<=1099511627776) (me:J2) (fr:Fr) (h:AH) (hh:h.boxes=[(G8 r).cells]) (v0:AV) (hv0:A0 fr 8=v0) (hg0:KL false 4 (A4 acc) v0 h) (hl:fr.length=112) (h2:A0 fr 2=.int .i64 l.length) (h3:A0 fr 3=.ptr 0 0) (h7:A0 fr 7=.str me) (h13:A0 fr 13=.int .i64 0) :
  B7 (lp (A2 (K8 Q) (D6 T8) o7) (fr,h)) λe C4 h'=>Kp o7.wr fr C4/\e=.exit 6/\KL false 4 (A4 (U2 acc (Sn me l))) (A0 C4 8) h':=by
 refine B4 rfl fr (λn fr h'=>∃(i:Nat),i+n=l.length/\A0 fr 13=.int .i64 (i:Nat)/\(∃v,A0 fr 8=v/\h'.boxes=[(G8 r).cells]/\KL false 4 (A4 (U2 acc (Sn me (l.take i)))) v h')) ?_ l.length h ⟨0,by omega,h13,_,hv0,hh,hg0⟩;rintro J Φ hJ hΦ n D5 H1 K ⟨i,hi,k13,hr⟩;have A6:=K.1.trans hl;have k2:=A8 K 2 h2;have k3:=A8 K 3 h3;have k7:=A8 K 7 h7;clear K;by_cases A7:i<l.length
 .have L4:=C6 i (by omega);obtain⟨v,k8,hB,hg⟩:=hr;obtain⟨bx,fams⟩:=H1;simp only at hB;subst hB;have rb:=E7 r;have hlr:i<r.steps.length:=by rw[hlq,A0i]at A7;omega
  have hli:l[i]=r.steps[i]:=by simp only[hlq,List.getElem_take]
  have hx:=G2 (f:=El) (A0S hlr);have CK:=Bh (Sn me (l.take i)) acc;have hml:(Sn me (l.take i)).length<=i:=by
   unfold Sn;rw[A0Z];have:=List.length_filter_le (OT me) (l.take i);rw[A0i]at this;omega
  have J4:∀x∈U2 acc (Sn me (l.take i)),x.size<=1099511627776:=λx hx=>by
   rcases Bi _ _ hx with h|h
   .exact has x h
   .unfold Sn at h;rw[A0U]at h;obtain⟨s,hs,rfl⟩:=h;exact hls s (A0k (A05.1 hs).1)
  have hli2:=hls _ (A0r A7);have Q4:=fB (me:=me) A7;rw[hli]at Q4 hli2;generalize r.steps[i]=s at *
  have hyes:OT me s=true->KL false 4 (A4 (U2 acc (Sn me (l.take i)))) v ⟨[(G8 r).cells],fams⟩->∃v' F',XQ true ⟨[(G8 r).cells],fams⟩ (rc Q AG [v,B9 s.msg] ⟨[(G8 r).cells],fams⟩)=some (v',⟨[(G8 r).cells],F'⟩)/\KL false 4 (A4 (U2 acc (Sn me (l.take (i+1))))) v' ⟨[(G8 r).cells],F'⟩:=λhb hg=>by
   rw[hb,if_pos rfl]at Q4;obtain⟨v',F',hK,Z6⟩:=lZ _ v ⟨[(G8 r).cells],fams⟩ hg s.msg (by omega) J4 hli2;have e1:KU (U2 acc (Sn me (l.take i))) s.msg=U2 acc (Sn me (l.take (i+1))):=by
    rw[Q4,PD];rfl
   rw[e1]at Z6;exact⟨v',F',hK,Z6⟩
  by_cases hq1:s.frm=me
  .obtain⟨v',F',hK,Z6⟩:=hyes (by simp[OT,hq1]) hg;rw[rb]at hK;clear hyes Q4 J4;simp[o7,A6,k2,k3,k7,k13,A7,L4,rb,k8,hx,hq1,hK];exact E9 hJ ⟨i+1,by omega,by simp[A6],v',by simp[A6],by rw[rb],I4 Z6 rfl⟩
  .by_cases hq2:s.to=me
   .obtain⟨v',F',hK,Z6⟩:=hyes (by simp[OT,hq2]) hg;rw[rb]at hK;clear hyes Q4 J4;simp[o7,A6,k2,k3,k7,k13,A7,L4,rb,k8,hx,hq1,hq2,hK];exact E9 hJ ⟨i+1,by omega,by simp[A6],v',by simp[A6],by rw[rb],I4 Z6 rfl⟩
   .have hb:OT me s=false:=by simp[OT,hq1,hq2]
    rw[hb]at Q4;simp only[A01,if_false,A0n]at Q4;rw[←Q4]at hg;clear hyes Q4 J4;simp[o7,A6,k2,k3,k7,k13,A7,L4,rb,hx,hq1,hq2];exact E9 hJ ⟨i+1,by omega,by simp[A6],v,by simp[k8],by rw[rb],I4 hg rfl⟩
 .obtain⟨v,k8,hB,hg⟩:=hr;rw[A0f (by omega)]at hg;simp[o7,A6,k2,k13,A7];exact hΦ _ _ _ ⟨rfl,by simp[k8];exact I4 hg rfl⟩
def lE (m:Bool×Bool) (r:Nar) (me:ByteArray) (role q:Nat):List Tm :=
 U2 (U2 (([Mk m me]++r.roles.map (Ll m))++Lx m me r.roles role r.roles.length) (Hz me r.fresh)) (Sn me (r.steps.take q))
theorem jX (r:Nar) (hs:Smol r r) (role:Nat) (me:J2) (hme:r.roles[role]?=some me) (q:Nat) (hq:q<=r.steps.length) :
  ∃m,pc Q T8 [G8 r,.int .i64 (role:Nat),.int .i64 (q:Nat)]=some (sl m 4 (A4 (lE (false,true) r me role q))):=by
 suffices hQ:∃v,pc Q T8 [G8 r,.int .i64 (role:Nat),.int .i64 (q:Nat)]=some v/\∃m:Bool×Bool,v=sl m 4 (A4 (lE (false,true) r me role q)) by
  obtain⟨v,h1,m,rfl⟩:=hQ;exact⟨m,h1⟩
 have rb:=E7 r;have hme':KN (r.roles.map AV.str) role=some (.str me):=G2 hme;have hA:=fc me;have s1:=hs.roles;have s2:=hs.fresh;have s3:=hs.steps;obtain⟨mf,hFr⟩:=oT r (by omega) role me hme;have b1:([Mk (false,true) me]++r.roles.map (Ll (false,true))).length<=1001:=by simp;omega
 have b5:=Sh (false,true) me r.roles role r.roles.length;have b2:(([Mk (false,true) me]++r.roles.map (Ll (false,true)))++Lx (false,true) me r.roles role r.roles.length).length<=3001:=by rw[List.length_append];omega
 have b3:=Bh (Hz me r.fresh) (([Mk (false,true) me]++r.roles.map (Ll (false,true)))++Lx (false,true) me r.roles role r.roles.length);have b6:=RJ me r.fresh;have z3:∀x∈([Mk (false,true) me]++r.roles.map (Ll (false,true)))++Lx (false,true) me r.roles role r.roles.length,x.size<=1099511627776:=λx hx=>by
  rcases A0X.1 hx with h|h
  .rcases A0X.1 h with h|h
   .rw[A0V.1 h,(Mi _ me me).1];omega
   .rw[A0U]at h;obtain⟨a,-,rfl⟩:=h;rw[(Mi _ a a).2.1];omega
  .rw[Rk _ _ _ _ _ _ h];omega
 have z4:∀x∈U2 (([Mk (false,true) me]++r.roles.map (Ll (false,true)))++Lx (false,true) me r.roles role r.roles.length) (Hz me r.fresh),x.size<=1099511627776:=λx hx=>by
  rcases Bi _ _ hx with h|h
  .exact z3 x h
  .rw[PJ h];omega
 unfold lE;generalize hK1:[Mk (false,true) me]++r.roles.map (Ll (false,true))=k1 at *
 generalize hK2:k1++Lx (false,true) me r.roles role r.roles.length=k2 at *
 generalize hK3:U2 k2 (Hz me r.fresh)=k3 at *
 generalize hK4:U2 k3 (Sn me (r.steps.take q))=k4 at *
 refine fu ME λΨ hΨ fr hl h0 h1 h2=>?_;simp[ME]at hl h0 h1 h2;simp[ME,hl,h0,h1,rb,hme',hA,A5];refine B7.mono (nW r s1 [Mk (false,true) me] (by simp) _ _ ?_ (sl (true,true) 4 (A4 [Mk (false,true) me])) ?_ (qL _ _ _ _ _) ?_ ?_ ?_) ?_<;>first|(simp[hl,rb];done)|(simp[hl];rfl)|skip
 rintro e D5 ⟨bx,F1⟩ ⟨K,rfl,hB,hg⟩;have A6:D5.length=112:=K.1.trans (by simp[hl]);have k1':A0 D5 1=.int .i64 (role:Nat):=A8 K 1 (by simp[h1]);have k2':A0 D5 2=.int .i64 (q:Nat):=A8 K 2 (by simp[h2]);have k3':A0 D5 3=.ptr 0 0:=A8 K 3 (by simp[hl]);have k7':A0 D5 7=.str me:=A8 K 7 (by simp[hl]);clear K;simp only at hB;subst hB;rw[hK1]at hg;generalize hv8:A0 D5 8=v8 at *
 simp;refine B7.mono (nV r s1 k1 (by omega) role me _ _ ?_ v8 ?_ (I4 hg rfl) ?_ ?_ ?_ ?_ ?_) ?_<;>first|(simp[A6,rb,k1',k3',k7',hv8];done)|skip
 rintro e R1 ⟨bx2,F2⟩ ⟨K,rfl,hB,hg2⟩;have CK:R1.length=112:=K.1.trans (by simp[A6]);have k1'':A0 R1 1=.int .i64 (role:Nat):=A8 K 1 (by simp[k1']);have k2'':A0 R1 2=.int .i64 (q:Nat):=A8 K 2 (by simp[k2']);have k3'':A0 R1 3=.ptr 0 0:=A8 K 3 (by simp[k3']);have k7'':A0 R1 7=.str me:=A8 K 7 (by simp[k7']);clear K hg;simp only at hB;subst hB;rw[hK2]at hg2;generalize hv8':A0 R1 8=v8' at *
 simp[CK,k1'',k3'',rb,hFr];refine B7.mono (nU (Hz me r.fresh) mf (by omega) k2 (by omega) z3 (λx hx=>by rw[PJ hx];omega) [(G8 r).cells] _ _ ?_ v8' ?_ (I4 hg2 rfl) ?_ ?_ ?_) ?_<;>first|(simp[CK,rb,hv8'];done)|skip
 rintro e fr3 ⟨bx3,F3⟩ ⟨K,rfl,hB,hg3⟩;have hl3:fr3.length=112:=K.1.trans (by simp[CK]);have k2a:A0 fr3 2=.int .i64 (q:Nat):=A8 K 2 (by simp[k2'']);have k3a:A0 fr3 3=.ptr 0 0:=A8 K 3 (by simp[k3'']);have k7a:A0 fr3 7=.str me:=A8 K 7 (by simp[k7'']);clear K hg2;simp only at hB;subst hB;rw[hK3]at hg3;generalize hv8a:A0 fr3 8=v8a at *
 have hql:(r.steps.take q).length=q:=by rw[A0i];omega
 simp;refine B7.mono (nT r (r.steps.take q) q hq rfl (by omega) k3 (by omega) z4 (λx hx=>by have:=hs.msgs x (A0k hx);omega) me _ _ ?_ v8a ?_ (I4 hg3 rfl) ?_ ?_ ?_ ?_ ?_) ?_<;>first|(simp[hl3,rb,k2a,k3a,k7a,hv8a,hql];done)|skip
 rintro e fr4 ⟨bx4,F4⟩ ⟨K,rfl,hg4⟩;have hl4:fr4.length=112:=K.1.trans (by simp[hl3]);clear K hg3;rw[hK4]at hg4;obtain⟨mm,hf⟩:=Pg hg4;simp only at hf;simp[hl4,hf];exact hΨ _ ⟨mm,rfl⟩
end Go.Abs.Q
namespace Go.Abs.Q
open Go.Proofs
theorem Ww (rs:List ByteArray):∀(l:List (ByteArray×Option ByteArray)) (seen:List ByteArray),Z7 rs seen l=0 ->
  (l.map (·.1)).Nodup/\(∀a∈l.map (·.1),a∉seen/\Qd a=false)/\(∀e∈l,zJ rs e.2=true)/\∀e∈l,e.2.isSome=true->e.1≠bs [101]/\e.1≠bs [103]
 | [],_,_=>⟨A0z,λa h=>(nomatch h),λe h=>(nomatch h),λe h=>(nomatch h)⟩
 |(x,f)::l,seen,h=>by
  have e0:Z7 rs seen ((x,f)::l)=if ND seen x f.isSome≠0 then ND seen x f.isSome else if zJ rs f=false then 13 else Z7 rs (seen++[x]) l:=rfl
  rw[e0]at h;by_cases h1:ND seen x f.isSome=0
  .rw[if_neg (by simp[h1])]at h;by_cases h2:zJ rs f=false
   .rw[if_pos h2]at h;omega
   .rw[if_neg h2]at h;obtain⟨k1,k2,k3,k4⟩:=Ww rs l (seen++[x]) h;unfold ND at h1;split at h1
    .omega
    .rename_i g1;split at h1
     .omega
     .rename_i g2;split at h1
      .omega
      .rename_i g3;have hx:x∉seen:=λhm=>g3 (A0b.2 ⟨x,hm,(IX x x).2 rfl⟩);refine⟨?_,λa ha=>?_,λe he=>?_,λe he hs=>?_⟩
       .rw[A0Q,A0w];refine⟨λhm=>?_,k1⟩;exact(k2 x hm).1 (List.mem_append_right _ (A0V.2 rfl))
       .rw[A0Q]at ha;rcases A0W.1 ha with rfl|ha
        .exact⟨hx,by simpa using g1⟩
        .exact⟨λhm=>(k2 a ha).1 (List.mem_append_left _ hm),(k2 a ha).2⟩
       .rcases A0W.1 he with rfl|he
        .simpa using h2
        .exact k3 e he
       .rcases A0W.1 he with rfl|he
        .exact⟨λe=>g2 ⟨hs,.inl e⟩,λe=>g2 ⟨hs,.inr e⟩⟩
        .exact k4 e he hs
  .rw[if_pos h1]at h;exact absurd h h1
theorem Vq {n:Nar} (h:Hx n=0):(B5 n).Nodup/\∀a∈B5 n,Qd a=false:=by
 obtain⟨k1,k2,-,-⟩:=Ww n.roles (XB n) [] h;have e:(XB n).map (·.1)=B5 n:=by
  unfold XB B5;rw[A0T,A0T,A0s,A0s,A0s];have e1:∀l:List ByteArray,l.map ((λx:ByteArray×Option ByteArray=>x.1)∘λa=>(a,none))=l:=λl=>by
   rw[show ((λx:ByteArray×Option ByteArray=>x.1)∘λa=>(a,none))=id from rfl,List.map_id]
  rw[e1,e1];rfl
 rw[e]at k1 k2;exact⟨k1,λa ha=>(k2 a ha).2⟩
theorem gL {n:Nar} (h:Hx n=0):n.roles.Nodup:=by
 have h1:=(Vq h).1;unfold B5 at h1;rw[A0e]at h1;exact(A02.1 h1).1
noncomputable def Wp (acc l:List Tm):List Tm:=l.foldl mH acc
theorem Pi:∀(l acc:G7),(U2 acc l).map E3=Wp (acc.map E3) (l.map E3)
 | [],acc=>rfl
 |t::l,acc=>by
  show (U2 (KU acc t) l).map E3=Wp (mH (acc.map E3) (E3 t)) (l.map E3);rw[Pi l,uR]
theorem Uv:∀(l acc:G7),l.Nodup->(∀x∈l,x∉acc)->Wp acc l=acc++l
 | [],acc,_,_=>by simp[Wp]
 |t::l,acc,hn,h=>by
  rw[A0w]at hn;have e:mH acc t=acc++[t]:=if_neg (h t A0d);show Wp (mH acc t) l=_;rw[e,Uv l _ hn.2 (λx hx hm=>?_),A0e,List.singleton_append];rcases A0X.1 hm with hm|hm
  .exact h x (A0Y _ hx) hm
  .rw[A0V.1 hm]at hx;exact hn.1 hx
def pw (a:ByteArray):Tm:=E3 (Mk (true,true) a)
def gq (a:ByteArray):Tm:=E3 (Ll (true,true) a)
def pu (a b:ByteArray):Tm:=E3 (Sg (true,true) a b)
theorem tU (m:I7) (a:J2):E3 (Mk m a)=pw a:=rfl
theorem kA (m:I7) (a b:J2):E3 (Sg m a b)=pu a b:=rfl
theorem vp {a b:J2} (h:gq a=gq b):a=b:=by
 simp only[gq,Ll,Mk,Uy,Hv,E3,H4]at h;injection h with _ _ _ _ h
 injection h with h _
 injection h with _ _ _ _ h
 injection h with h _
 injection h with _ h _ _ _
theorem li {a b c d:J2} (h:pu a b=pu c d):a=c/\b=d:=by
 simp only[pu,Sg,Uy,Hv,E3,H4]at h;injection h with _ _ _ _ h
 injection h with h1 h
 injection h with h2 _
 injection h1 with _ h1 _ _ _
 injection h2 with _ h2 _ _ _
 exact⟨h1,h2⟩
theorem xn:bs [115,107]≠bs [112,107]:=by decide
theorem xo:bs [115,107]≠bs [115,104,107]:=by decide
theorem xp:bs [112,107]≠bs [115,104,107]:=by decide
theorem tV (a b:J2):gq a≠pw b:=λh=>by
 simp only[pw,gq,Ll,Mk,Uy,Hv,E3,H4]at h;injection h with _ h _ _ _
 exact xn h.symm
theorem gQ (a b c:J2):pu a b≠pw c:=λh=>by
 simp only[pw,pu,Sg,Mk,Uy,Hv,E3,H4]at h;injection h with _ h _ _ _
 exact xo h.symm
theorem gP (a b c:J2):pu a b≠gq c:=λh=>by
 simp only[gq,pu,Ll,Sg,Mk,Uy,Hv,E3,H4]at h;injection h with _ h _ _ _
 exact xp h.symm
theorem kB (m m':I7) (me:J2) (rs:List ByteArray) (role:Nat):∀i,(Lx m me rs role i).map E3=(Lx m' me rs role i).map E3
 |0=>rfl
 |i+1=>by
  rw[Lx,Lx,A0T,A0T,kB m m' me rs role i];congr 1;split
  .rfl
  .split<;>rfl
theorem Wh {m:I7} {me:J2} {rs:List ByteArray} {role:Nat}:∀{i:Nat} {x:Tm},x∈(Lx m me rs role i).map E3->∃(j:Nat) (r:J2),j<i/\j≠role/\rs[j]?=some r/\(x=pu me r\/x=pu r me)
 |0,x,h=>by simp[Lx]at h
 |i+1,x,h=>by
  rw[Lx,A0T,A0X]at h;rcases h with h|h
  .obtain⟨j,r,h1,h2⟩:=Wh h;exact⟨j,r,by omega,h2⟩
  .split at h
   .simp at h
   .rename_i hir;split at h
    .rename_i r hr;simp only[A0Q,A0h,A0W,A0t,or_false,kA]at h;exact⟨i,r,by omega,hir,hr,h⟩
    .simp at h
theorem VH {rs:List ByteArray} (h:rs.Nodup) {i j:Nat} {a:J2} (hi:rs[i]?=some a) (hj:rs[j]?=some a):i=j:=by
 obtain⟨h1,e1⟩:=A0q.1 hi;obtain⟨h2,e2⟩:=A0q.1 hj;rw[List.Nodup,List.pairwise_iff_getElem]at h;rcases Nat.lt_trichotomy i j with A7|he|hgt
 .exact absurd (e1.trans e2.symm) (h i j h1 h2 A7)
 .exact he
 .exact absurd (e2.trans e1.symm) (h j i h2 h1 hgt)
theorem aU {m:I7} {me:J2} {rs:List ByteArray} {role:Nat} (hn:rs.Nodup) (hme:rs[role]?=some me):∀i,((Lx m me rs role i).map E3).Nodup
 |0=>A0z
 |i+1=>by
  have ih:=aU (m:=m) hn hme i;rw[Lx,A0T];split
  .simpa using ih
  .rename_i hir;split
   .rename_i r hr;have hrm:r≠me:=λe=>hir (VH hn hr (e ▸ hme));rw[A02];refine⟨ih,?_,?_⟩
    .simp only[A0Q,A0h,A0w,A0W,A0t,or_false,not_false_eq_true,A0z,and_true,kA];intro h;exact hrm (li h).2
    .intro x hx y hy e;subst e;obtain⟨j,r',j1,j2,j3,j4⟩:=Wh hx;simp only[A0Q,A0h,A0W,A0t,or_false,kA]at hy;have P0:r≠r':=λe=>by have:=VH hn hr (e ▸ j3);omega
     have hrm':r'≠me:=λe=>j2 (VH hn j3 (e ▸ hme));rcases hy with hy|hy<;>rcases j4 with j4|j4<;>rw[hy]at j4<;>have h:=li j4
     .exact P0 h.2
     .exact hrm' h.1.symm
     .exact hrm h.1
     .exact P0 h.1
   .simpa using ih
noncomputable def RP (f:ByteArray->Int) (n:Nar) (me:ByteArray) (role q:Nat):List Tm :=
 Wp (Wp ([pw me]++n.roles.map gq++(Lx (true,true) me n.roles role n.roles.length).map E3) ((Hz me n.fresh).map E3)) (((n.steps.take q).filter (OT me)).map λs=>CI f s.msg)
theorem jQ {f:ByteArray->Int} {me:J2}:∀{l l':List Ste},l.map Oz=l'.map (Ek f)->(Sn me l).map E3=(l'.filter (OT me)).map λs=>CI f s.msg
 | [],[],_=>rfl
 | [],_::_,h=>by simp at h
 |_::_,[],h=>by simp at h
 |s::l,s'::l',h=>by
  rw[A0Q,A0Q,List.cons.injEq]at h;have ih:=jQ (me:=me) h.2;have h1:=h.1;unfold Oz Ek at h1;injection h1 with e1 e2 e3 e4
  have eb:OT me s=OT me s':=by unfold OT;rw[e1,e2]
  unfold Sn at ih ⊢;cases hb:OT me s' with
  |true =>
   rw[A0v (by rw[eb];exact hb),A0v hb,A0Q,A0Q,A0Q,ih,e3]
  |false =>
   rw[A0u (by rw[eb,hb];simp),A0u (by rw[hb];simp),ih]
theorem UJ {l:List ByteArray} (m:I7):(l.map (Ll m)).map E3=l.map gq:=by
 rw[A0s];rfl
theorem OU {m:I7} {r n:Nar} {f:ByteArray->Int} (hd:Hx n=0) (he:Qn r=DI f n) {me:J2} {role:Nat} (hme:n.roles[role]?=some me) (q:Nat):(Pt m r n me role q).map E3=RP f n me role q:=by
 obtain⟨-,e2,-,-,e5,-⟩:=BE he;have hn:=gL hd;have eq:(r.steps.take q).map Oz=(n.steps.take q).map (Ek f):=by rw[A0p,A0p,e5]
 unfold Pt RP;rw[Pi,jQ eq,Pi,Pi,Pi,e2,UJ,kB m (true,true),A0Q,A0h,tU];congr 2;rw[Uv (n.roles.map gq) [pw me] ?_ ?_,Uv _ _ (aU hn hme _) ?_]
 .intro x hx hm;obtain⟨j,r',-,-,-,h4⟩:=Wh hx;rcases A0X.1 hm with hm|hm
  .rw[A0V.1 hm]at h4;rcases h4 with h4|h4
   .exact gQ _ _ _ h4.symm
   .exact gQ _ _ _ h4.symm
  .rw[A0U]at hm;obtain⟨a,-,rfl⟩:=hm;rcases h4 with h4|h4
   .exact gP _ _ _ h4.symm
   .exact gP _ _ _ h4.symm
 .exact(List.Pairwise.map gq (λa b HH h=>HH (vp h)) hn)
 .intro x hx hm;rw[A0U]at hx;obtain⟨a,-,rfl⟩:=hx;exact tV _ _ (A0V.1 hm)
theorem bW {m:I7} {r n:Nar} {f:ByteArray->Int} (he:Qn r=DI f n) {me:J2} {role:Nat} (q:Nat):(lE m r me role q).map E3=RP f n me role q:=by
 obtain⟨-,e2,e3,-,e5,-⟩:=BE he;have eq:(r.steps.take q).map Oz=(n.steps.take q).map (Ek f):=by rw[A0p,A0p,e5]
 unfold lE RP;rw[Pi,jQ eq,Pi,A0T,A0T,e2,e3,UJ,kB m (true,true),A0Q,A0h,tU]
theorem Xa {t:Tm} (h:GT t=0):t.size<=40:=by
 unfold GT at h;split at h
 .rename_i h1;exact absurd h h1
 .split at h
  .omega
  .omega
theorem nj {n:Nar} (h:RZ n=0):2<=n.roles.length/\n.roles.length<=4/\n.fresh.length<=12/\n.tags.length<=8/\1<=n.steps.length/\n.steps.length<=8/\n.goals.length<=8:=by
 unfold RZ at h
 repeat' split at h
 all_goals omega
theorem gV (f:ByteArray->Int):∀(N:Nat) (t:Tm),t.size<=N->(CI f t).size=t.size:=by
 intro N
 induction N with
 |zero=>intro t h;have:=t.size_pos;omega
 |succ N ih =>
  intro t h;obtain⟨k,nm,s,m,l⟩:=t;have e:Tm.size (.mk k nm s m l)=1+Tm.sizes l:=rfl;have key:∀l:List Tm,Tm.sizes l<=N->Tm.sizes (m8 f l)=Tm.sizes l:=by
   intro l
   induction l with
   |nil=>intro _;rfl
   |cons a l ihl =>
    intro hl;simp only[Tm.sizes]at hl;simp only[m8,Tm.sizes];rw[ih a (by omega),ihl (by omega)]
  show Tm.size (.mk k nm _ (false,false) (m8 f l))=_;rw[Tm.size,key l (by omega),e]
theorem LN {r n:Nar} {f:ByteArray->Int} (hR:PQ n=0) (he:Qn r=DI f n):Smol r n/\Smol r r:=by
 obtain⟨h1,h2,h3⟩:=JB hR;have hs:=nj (XI h1).2;obtain⟨-,e2,e3,-,e5,-⟩:=BE he;have WY:r.steps.length=n.steps.length:=by have:=congrArg A0o e5;simpa using this
 have hmsg:∀s∈r.steps,s.msg.size<=1048576:=λs hs=>by
  have hm:Oz s∈n.steps.map (Ek f):=by rw[←e5];exact A0c hs
  obtain⟨s',hs',e⟩:=A0U.1 hm;unfold Oz Ek at e;injection e with _ _ e _
  have h4:=Xa (Si (h2 s' hs'));have h5:=gV f _ s'.msg (A0a _);rw[e,HF _ _ (A0a _)]at h5;omega
 exact⟨⟨by rw[e2];omega,by omega,by omega,hmsg⟩,⟨by rw[e2];omega,by rw[e3];omega,by omega,hmsg⟩⟩
end Go.Abs.Q
namespace Go.Abs.Q
open Go.Proofs
attribute [local simp] E1 E5 fin J7 G4 O2 L3 P2 P1
theorem tT {l:G7} {N:Nat} (h:∀x∈l,x.size<=N):Tm.sizes l<=l.length*N:=by
 induction l with
 |nil=>simp[Tm.sizes]
 |cons a l ih =>
  have h1:=h a A0d;have h2:=ih λx hx=>h x (A0Y _ hx);rw[Tm.sizes,A03,Nat.succ_mul];omega
theorem kV {n:Nar} {role step:Int} (h:Pk n role step=0):∃me,n.roles[role.toNat]?=some me/\n.roles.getD role.toNat (bs [])=me:=by
 obtain⟨-,-,h3,-,-⟩:=Qy h;exact⟨_,A0S h3,by rw[A0l,A0S h3];rfl⟩
theorem Xb {r n:Nar} {f:ByteArray->Int} (hR:PQ n=0) (he:Qn r=DI f n):∀s∈r.steps,s.msg.size<=40:=λs hs=>by
 obtain⟨h1,h2,h3⟩:=JB hR;obtain⟨-,e2,e3,-,e5,-⟩:=BE he;have hm:Oz s∈n.steps.map (Ek f):=by rw[←e5];exact A0c hs
 obtain⟨s',hs',e⟩:=A0U.1 hm;unfold Oz Ek at e;injection e with _ _ e _
 have h4:=Xa (Si (h2 s' hs'));have h5:=gV f _ s'.msg (A0a _);rw[e,HF _ _ (A0a _)]at h5;omega
theorem JS {r n:Nar} {f:ByteArray->Int} (he:Qn r=DI f n):r.roles=n.roles/\r.fresh=n.fresh/\r.steps.length=n.steps.length:=by
 obtain⟨-,e2,e3,-,e5,-⟩:=BE he;exact⟨e2,e3,by have:=congrArg A0o e5;simpa using this⟩
mutual
theorem eB:∀t:Tm,E3 (E3 t)=E3 t
 | .mk k nm s m l=>by rw[E3,E3,kr l]
theorem kr:∀l:List Tm,H4 (H4 l)=H4 l
 | []=>rfl
 |t::l=>by rw[H4,H4,eB t,kr l]
end
end Go.Abs.Q
namespace Go.Abs.Q
open Go.Proofs
def NG (x:Tm):Prop:=(x.kind=2/\0<=x.sort/\x.sort<=5/\x.kids=[]/\U3 x.name=true/\QG x.name (bs [101,35])=false) \/
 (x.kind=3/\x.sort=0/\x.name∈AQ/\Lo x.name x.kids.length=true/\Yh x.name x.kids=0)
def JH (t:Tm):Prop:=∀x∈Cu t,NG x
theorem du:∀a∈AQ,U3 a=true/\Du a≠0/\∀n,Lo a n=true->n<=2:=by
 intro a ha;have h1:(AQ.all λa=>U3 a&&decide (Du a≠0)&&decide ((NL a).2.2.1<=2))=true:=by decide
 have h2:=List.all_eq_true.1 h1 a ha;simp only[A0R,decide_eq_true_eq]at h2;refine⟨h2.1.1,h2.1.2,λn hn=>?_⟩;unfold Lo at hn;simp only[A0R,decide_eq_true_eq]at hn;omega
theorem JH.kid {t x:Tm} (h:JH t) (hx:x∈t.kids):JH x:=λy hy=>h y (by
 rw[AD,G0];exact A0Y _ (A0j.2 ⟨x,hx,hy⟩))
theorem JH.root {t:Tm} (h:JH t):NG t:=h t (by rw[AD];exact A0d)
theorem kK {t:Tm} (h:NG t) (hk:∀x∈t.kids,JH x):JH t:=λy hy=>by
 rw[AD,G0]at hy;rcases A0W.1 hy with rfl|hy
 .exact h
 .obtain⟨x,hx,hy⟩:=A0j.1 hy;exact hk x hx y hy
theorem lw:∀(N:Nat) (t:Tm),t.size<=N->JH t->I8 t=0/\Ue t=0:=by
 intro N
 induction N with
 |zero=>intro t h;have:=t.size_pos;omega
 |succ N ih =>
  intro t hs h;have hr:=h.root;have hkid:∀x∈t.kids,I8 x=0/\Ue x=0:=λx hx=>ih x (by have:=Tm.size_le hx;have:=t.kids_size;omega) (h.kid hx);obtain⟨k,nm,s,m,l⟩:=t;simp only[Tm.kids]at hkid;have e1:L8 l=0:=by
   clear hr hs h ih
   induction l with
   |nil=>rfl
   |cons a l ihl =>
    have h1:=hkid a A0d;have h2:=ihl λx hx=>hkid x (A0Y _ hx);rw[L8,h1.1,h2];simp
  have e2:NM l=0:=by
   clear hr hs h ih e1
   induction l with
   |nil=>rfl
   |cons a l ihl =>
    have h1:=hkid a A0d;have h2:=ihl λx hx=>hkid x (A0Y _ hx);rw[NM,h1.2,h2];simp
  rcases hr with ⟨q1,q2,q3,q4,q5,q6⟩|⟨q1,q2,q3,q4,q5⟩
  .simp only[Tm.kind,Tm.sort,Tm.kids,Tm.name]at q1 q2 q3 q4 q5;subst q1 q4;refine⟨?_,by rw[Ue];simp⟩;have:r8 2 s nm 0=0:=by
    unfold r8;rw[if_neg (by omega),if_neg (by simp[q5]),if_neg (by omega)]
   rw[I8,A04,this];simp[L8]
  .simp only[Tm.kind,Tm.sort,Tm.kids,Tm.name]at q1 q2 q3 q4 q5;subst q1 q2;obtain⟨f1,f2,f3⟩:=du nm q3;have hl:=f3 _ q4;have:r8 3 0 nm l.length=0:=by
    unfold r8;rw[if_neg (by omega),if_neg (by simp[f1]),if_neg (by omega)]
   refine⟨by rw[I8,this,e1];simp,?_⟩;rw[Ue];rw[if_neg (by omega),if_neg f2,if_neg (by simp[q4]),if_neg (by simp[q5])];exact e2
theorem JH.good {t:Tm} (h:JH t) (hs:t.size<=40):GoodT t:=by
 obtain⟨h1,h2⟩:=lw _ t (A0a _) h;refine⟨λx hx hk=>?_,?_,?_,λx hx hk=>?_⟩
 .rcases h x hx with q|q
  .have:=q.1;omega
  .exact q.2.2.1
 .unfold vE;have hv:R4 t=0:=by
   unfold R4;have:=iN t;rw[if_neg (by simp[h1]),if_neg (by omega)]
  rw[if_neg (by simp[hv]),h2]
 .unfold uz;rw[List.isEmpty_iff,List.filter_eq_nil_iff];intro x hx;rcases h x hx with q|q<;>have:=q.1<;>simp<;>omega
 .rcases h x hx with q|q
  .exact q.2.2.2.2.2
  .have:=q.1;omega
theorem zl {t:Tm} (h:NG (E3 t)):NG t:=by
 obtain⟨k,nm,s,m,l⟩:=t;simp only[NG,E3,Tm.kind,Tm.sort,Tm.kids,Tm.name]at h ⊢;rw[kR,E4,A0Z]at h;rcases h with ⟨q1,q2,q3,q4,q5,q6⟩|h
 .exact .inl ⟨q1,q2,q3,by simpa using q4,q5,q6⟩
 .exact .inr h
theorem Pc {t:Tm} (h:JH (E3 t)):JH t:=λx hx=>zl (h _ (by rw[Ux];exact A0c hx))
inductive Wt (ro:ByteArray->Prop) (ok:ByteArray->Int->Prop):Tm->Prop
 |atom (a:ByteArray) (s:Int) (h:ok a s):Wt ro ok (.mk 2 a s (false,false) [])
 |pair (x y:Tm) (hx:Wt ro ok x) (hy:Wt ro ok y):Wt ro ok (.mk 3 (bs [112,97,105,114]) 0 (false,false) [x,y])
 |enc (x y:Tm) (hx:Wt ro ok x) (hy:Wt ro ok y):Wt ro ok (.mk 3 (bs [101,110,99]) 0 (false,false) [x,y])
 |hash (x:Tm) (hx:Wt ro ok x):Wt ro ok (.mk 3 (bs [104,97,115,104]) 0 (false,false) [x])
 |aenc (x:Tm) (r:ByteArray) (hx:Wt ro ok x) (hr:ro r):Wt ro ok (.mk 3 (bs [97,101,110,99]) 0 (false,false) [x,gq r])
 |sign (x:Tm) (r:ByteArray) (hx:Wt ro ok x) (hr:ro r):Wt ro ok (.mk 3 (bs [115,105,103,110]) 0 (false,false) [x,pw r])
 |pk (r:ByteArray) (hr:ro r):Wt ro ok (gq r)
 |shk (a b:ByteArray) (ha:ro a) (hb:ro b) (P0:a≠b):Wt ro ok (pu a b)
def Wm (a:ByteArray):Prop:=U3 a=true/\QG a (bs [101,35])=false
theorem SG {a:J2} {s:Int} {m:I7} (h:Wm a) (h1:0<=s) (h2:s<=5):JH (.mk 2 a s m []) :=
 kK (.inl ⟨rfl,h1,h2,rfl,h.1,h.2⟩) (λx hx=>nomatch hx)
theorem LT {nm:J2} {m:I7} {l:G7} (h:nm∈AQ) (hf:Lo nm l.length=true) (ha:Yh nm l=0) (hl:∀x∈l,JH x):JH (.mk 3 nm 0 m l) :=
 kK (.inr ⟨rfl,rfl,h,hf,ha⟩) hl
theorem Uw {nm:J2} {l:G7} (h:nm≠bs [115,107]/\nm≠bs [115,104,107]/\nm≠bs [110,101,119]):Yh nm l=0:=by
 unfold Yh;rw[if_neg (by simp[h.1,h.2.1]),if_neg h.2.2]
theorem uT {P:Tm->Prop} {x:Tm} (h:P x):∀z∈[x],P z:=λz hz=>by rw[A0V.1 hz];exact h
theorem az {P:Tm->Prop} {x y:Tm} (h:P x) (k:P y):∀z∈[x,y],P z:=λz hz=>by
 rcases A0W.1 hz with rfl|hz
 .exact h
 .rw[A0V.1 hz];exact k
theorem ai {a:J2} (h:Wm a):JH (E3 (Hv a)):=SG h (by omega) (by omega)
theorem al {a:J2} (h:Wm a):JH (pw a) :=
 LT (l:=[E3 (Hv a)]) (by simp[AQ]) rfl rfl λx hx=>by rw[A0V.1 hx];exact ai h
theorem aj {a:J2} (h:Wm a):JH (gq a) :=
 LT (l:=[pw a]) (by simp[AQ]) rfl (Uw (by decide)) λx hx=>by rw[A0V.1 hx];exact al h
theorem ak {a b:J2} (h:Wm a) (h':Wm b):JH (pu a b) :=
 LT (l:=[E3 (Hv a),E3 (Hv b)]) (by simp[AQ]) rfl rfl λx hx=>by
  rcases A0W.1 hx with rfl|hx
  .exact ai h
  .rw[A0V.1 hx];exact ai h'
theorem Wt.allN {ro:ByteArray->Prop} {ok:ByteArray->Int->Prop} (hr:∀a,ro a->Wm a) (ho:∀a s,ok a s->Wm a/\0<=s/\s<=5) {t:Tm} (h:Wt ro ok t):JH t:=by
 induction h with
 |atom a s h=>obtain⟨h1,h2,h3⟩:=ho a s h;exact SG h1 h2 h3
 |pair x y _ _ ix iy=>exact LT (by simp[AQ]) rfl (Uw (by decide)) (az ix iy)
 |enc x y _ _ ix iy=>exact LT (by simp[AQ]) rfl (Uw (by decide)) (az ix iy)
 |hash x _ ix=>exact LT (by simp[AQ]) rfl (Uw (by decide)) (uT ix)
 |aenc x r _ h ix=>exact LT (by simp[AQ]) rfl (Uw (by decide)) (az ix (aj (hr r h)))
 |sign x r _ h ix=>exact LT (by simp[AQ]) rfl (Uw (by decide)) (az ix (al (hr r h)))
 |pk r h=>exact aj (hr r h)
 |shk a b h h' _=>exact ak (hr a h) (hr b h')
theorem tD {a:J2} (h:Qd a=false):QG a (bs [101,35])=false:=by
 unfold QG;by_cases h1:(M0 a).take (bs [101,35]).size=M0 (bs [101,35])
 .exfalso
  have e1:M0 (bs [101,35])=[101,35]:=by decide
  have e2:(bs [101,35]).size=2:=by decide
  rw[e1,e2]at h1;unfold Qd at h;have hm:(35:UInt8)∈M0 a:=A0k (i:=2) (by rw[h1];simp);rw[List.contains_iff_mem.2 hm]at h;cases h
 .rw[show decide ((M0 a).take (bs [101,35]).size=M0 (bs [101,35]))=false from decide_eq_false h1,Bool.and_false]
theorem eN {a:J2} (h:P4 a=true):U3 a=true:=by
 unfold P4 at h;rw[A0R]at h;exact h.1
theorem TX {n:Nar} (h:KM n=0):(∀a∈n.roles,U3 a=true)/\(∀f∈n.fresh,U3 f.name=true/\2<=f.sort/\f.sort<=4)/\∀a∈n.tags,U3 a=true:=by
 unfold KM at h;split at h
 .omega
 .split at h
  .rename_i h1;exact absurd h h1
  .split at h
   .omega
   .rename_i h1;split at h
    .rename_i h2;exact absurd h h2
    .rename_i h2;split at h
     .omega
     .rename_i h3;have key:∀l:List ByteArray,¬l.any In=true->∀a∈l,U3 a=true:=λl hl a ha=>by
       refine eN ?_;cases hb:P4 a with
       |true=>rfl
       |false=>exact absurd (A0b.2 ⟨a,ha,by simp[In,hb]⟩) hl
      refine⟨key _ h1,λf hf=>?_,key _ h3⟩;have h4:D3 Lc n.fresh=0:=by
       apply Classical.byContradiction;exact h2
      have h5:=Em h4 f hf;unfold Lc at h5;split at h5
      .omega
      .rename_i h6;split at h5
       .omega
       .exact⟨eN (by
         cases hb:P4 f.name with
         |true=>rfl
         |false=>exact absurd (.inr hb) h6),by omega,by omega⟩
theorem Xf {n:Nar} (h:Right n):∀a∈B5 n,Wm a:=λa ha=>by
 obtain⟨k1,k2,k3⟩:=TX (JB h.nar).1;refine⟨?_,tD ((Vq h.dec).2 a ha)⟩;unfold B5 at ha;rcases A0X.1 ha with ha|ha
 .rcases A0X.1 ha with ha|ha
  .exact k1 a ha
  .obtain⟨f,hf,rfl⟩:=A0U.1 ha;exact(k2 f hf).1
 .exact k3 a ha
theorem tY {n:Nar} (h:Right n) (a:J2):0<=L0 (B5 n) (G6 n) a/\L0 (B5 n) (G6 n) a<=5:=by
 obtain⟨k1,k2,k3⟩:=TX (JB h.nar).1;unfold L0;split
 .rw[A0l];cases hx:(G6 n)[(idx (V4 a) (B5 n)).toNat]? with
  |none=>simp
  |some x =>
   have hm:=A00 hx;simp only[Option.getD_some];unfold G6 at hm;rcases A0X.1 hm with hm|hm
   .rcases A0X.1 hm with hm|hm
    .obtain⟨_,_,rfl⟩:=A0U.1 hm;omega
    .obtain⟨f,hf,rfl⟩:=A0U.1 hm;have:=(k2 f hf).2;omega
   .obtain⟨_,_,rfl⟩:=A0U.1 hm;omega
 .omega
theorem Vi {α:Type} (p:α->Bool):∀(l l':List α) (i:Nat),l.any p=true->S6 p i (l++l')=S6 p i l
 | [],l',i,h=>by simp at h
 |a::l,l',i,h=>by
  rw[List.cons_append];unfold S6;by_cases hp:p a=true
  .rw[if_pos hp,if_pos hp]
  .rw[if_neg hp,if_neg hp];refine Vi p l l' _ ?_;rw[A06]at h;simpa[hp]using h
theorem pl {n:Nar} {a:J2} (h:a∈n.roles):L0 (B5 n) (G6 n) a=1:=by
 have h1:n.roles.any (V4 a)=true:=A0b.2 ⟨a,h,(IX a a).2 rfl⟩;have h2:(B5 n).any (V4 a)=true:=Vz n a h1;unfold L0;rw[if_pos h2];have e:idx (V4 a) (B5 n)=idx (V4 a) n.roles:=by
  unfold idx B5;rw[A0e];exact Vi _ _ _ _ h1
 have hge:=(DY (V4 a) n.roles 0).2 h1;have A7:=KX (V4 a) n.roles 0;rw[e];have hi:(idx (V4 a) n.roles).toNat<n.roles.length:=by unfold idx;omega
 rw[A0l];have:(G6 n)[(idx (V4 a) n.roles).toNat]?=some 1:=by
  unfold G6;rw[A0e,List.getElem?_append_left (by simpa using hi),List.getElem?_map,A0S hi];rfl
 rw[this];rfl
theorem YU {rs:List ByteArray} {f:ByteArray->Int} (hf:∀a∈rs,f a=1) {t:Tm} (hn:I8 t=0) (h:Bt rs t=true):∃a∈rs,t.name=a/\CI f t=E3 (Hv a):=by
 obtain⟨k,nm,s,m,l⟩:=t;obtain⟨h1,_⟩:=Q1 hn;rw[Bt,A0R]at h;have hk:k=2:=of_decide_eq_true h.1;have hr:rs.any (V4 nm)=true:=h.2;obtain⟨a,ha,he⟩:=A0b.1 hr;rw[IX]at he;subst he;have hl:l=[]:=A0g ((Gm h1).2.1 (.inr hk));subst hl hk;refine⟨nm,ha,rfl,?_⟩;rw[CI,if_pos rfl,hf nm ha];rfl
theorem gT {rs:List ByteArray} {f:ByteArray->Int} (hf:∀a∈rs,f a=1) {t:Tm} (hn:I8 t=0) (h:CJ rs t=true):∃a∈rs,CI f t=pw a:=by
 obtain⟨k,nm,s,m,l⟩:=t;obtain⟨h1,h2⟩:=Q1 hn;rw[CJ,A0R,s8,A0R,A0R]at h;obtain⟨⟨⟨hk0,hnm0⟩,hl0⟩,hff⟩:=h;have hk:k=3:=of_decide_eq_true hk0;have hnm:nm=bs [115,107]:=of_decide_eq_true hnm0;have hl:(l.length:Int)=1:=of_decide_eq_true hl0;clear hk0 hnm0 hl0
 replace hff:TW (Bt rs) l=true:=hff
 subst hk hnm
 replace hl:l.length=1:=by omega
 have hs:s=0:=by
  unfold r8 at h1;split at h1
  .omega
  .omega
 match l,hl,hff,h2 with
 | [a],_,hff,h2 =>
  obtain⟨r,hr,_,e⟩:=YU hf (K0 h2 a (by simp)) hff;refine⟨r,hr,?_⟩;rw[CI,if_neg (by omega),m8,m8,e,hs];rfl
theorem gU {rs:List ByteArray} {f:ByteArray->Int} (hf:∀a∈rs,f a=1) {t:Tm} (hn:I8 t=0) (h:HT rs t=true):∃a∈rs,CI f t=gq a:=by
 obtain⟨k,nm,s,m,l⟩:=t;obtain⟨h1,h2⟩:=Q1 hn;rw[HT,A0R,s8,A0R,A0R]at h;obtain⟨⟨⟨hk0,hnm0⟩,hl0⟩,hff⟩:=h;have hk:k=3:=of_decide_eq_true hk0;have hnm:nm=bs [112,107]:=of_decide_eq_true hnm0;have hl:(l.length:Int)=1:=of_decide_eq_true hl0;clear hk0 hnm0 hl0
 replace hff:TW (CJ rs) l=true:=hff
 subst hk hnm
 replace hl:l.length=1:=by omega
 have hs:s=0:=by
  unfold r8 at h1;split at h1
  .omega
  .omega
 match l,hl,hff,h2 with
 | [a],_,hff,h2 =>
  obtain⟨r,hr,e⟩:=gT hf (K0 h2 a (by simp)) hff;refine⟨r,hr,?_⟩;rw[CI,if_neg (by omega),m8,m8,e,hs];rfl
theorem tF {k:Int} {nm:J2} {s:Int} {m:I7} {l:G7} (h:NH (.mk k nm s m l)=0):k≠1/\s=0/\∀x∈l,NH x=0:=by
 rw[NH]at h;split at h
 .omega
 .rename_i h1;split at h
  .omega
  .refine⟨λe=>h1 (.inl e),by
    apply Classical.byContradiction;exact λe=>h1 (.inr e),?_⟩
   clear h1
   induction l with
   |nil=>exact λx hx=>nomatch hx
   |cons a l ih =>
    rw[NI]at h;by_cases ha:NH a=0
    .rw[if_neg (by simp[ha])]at h;intro x hx;rcases A0W.1 hx with rfl|hx
     .exact ha
     .exact ih h x hx
    .rw[if_pos ha]at h;exact absurd h ha
def atN (n:Nar) (a:ByteArray) (s:Int):Prop:=a∈B5 n/\s=L0 (B5 n) (G6 n) a
theorem zp {n:Nar}:∀(N:Nat) (t:Tm),t.size<=N->I8 t=0->NH t=0->x6 (B5 n) n.roles t=0->Wt (·∈n.roles) (atN n) (CI (L0 (B5 n) (G6 n)) t):=by
 have hf:∀a∈n.roles,L0 (B5 n) (G6 n) a=1:=λa ha=>pl ha;intro N
 induction N with
 |zero=>intro t h;have:=t.size_pos;omega
 |succ N ih =>
  intro t hn P0 hraw hs;obtain⟨k,nm,s,m,l⟩:=t;have J4:Tm.size (.mk k nm s m l)=1+Tm.sizes l:=rfl;obtain⟨h1,h2⟩:=Q1 P0;obtain⟨w1,w2,w3⟩:=tF hraw;subst w2;have one:∀t∈l,x6 (B5 n) n.roles t=0->Wt (·∈n.roles) (atN n) (CI (L0 (B5 n) (G6 n)) t):=λt ht h0=>ih t (by have:=Tm.size_le ht;omega) (K0 h2 t ht) (w3 t ht) h0;have nk:=λt (ht:t∈l)=>K0 h2 t ht;by_cases hk:k=3
  .subst hk;rw[CI,if_neg (by omega)];rw[Sf]at hs;simp only[Tm.kind,ne_eq,not_true,if_false]at hs;split at hs
   .omega
   .rename_i hkd;have s9:=Em hs;rw[lD]at s9 hkd;simp only[Tm.kids]at s9;by_cases c1:nm=bs [112,97,105,114]/\(l.length:Int)=2\/nm=bs [101,110,99]/\(l.length:Int)=2
    .rw[if_pos c1]at s9;have hl:l.length=2:=by omega
     match l,hl,s9,one with
     | [a,b],_,s9,one =>
      have ha:=one a (by simp) (s9 a (by simp));have hb:=one b (by simp) (s9 b (by simp));rw[m8,m8,m8];rcases c1 with ⟨rfl,_⟩|⟨rfl,_⟩
      .exact .pair _ _ ha hb
      .exact .enc _ _ ha hb
    .rw[if_neg c1]at s9 hkd;by_cases c2:nm=bs [104,97,115,104]/\(l.length:Int)=1
     .rw[if_pos c2]at s9;have hl:l.length=1:=by omega
      match l,hl,s9,one with
      | [a],_,s9,one =>
       obtain⟨rfl,_⟩:=c2;exact .hash _ (one a (by simp) (s9 a (by simp)))
     .rw[if_neg c2]at s9 hkd;by_cases c3:(nm=bs [97,101,110,99]/\(l.length:Int)=2)/\QL (HT n.roles) l=true\/(nm=bs [115,105,103,110]/\(l.length:Int)=2)/\QL (CJ n.roles) l=true
      .rw[if_pos c3]at s9;have hl:l.length=2:=by omega
       match l,hl,s9,one,c3,nk with
       | [a,b],_,s9,one,c3,nk =>
        have ha:=one a (by simp) (s9 a (by simp));rw[m8,m8,m8];rcases c3 with ⟨⟨rfl,_⟩,hb⟩|⟨⟨rfl,_⟩,hb⟩
        .obtain⟨r,hr,e⟩:=gU hf (nk b (by simp)) hb;rw[e];exact .aenc _ r ha hr
        .obtain⟨r,hr,e⟩:=gT hf (nk b (by simp)) hb;rw[e];exact .sign _ r ha hr
      .rw[if_neg c3]at s9 hkd;by_cases c4:HT n.roles (.mk 3 nm 0 m l)=true\/VS n.roles (.mk 3 nm 0 m l)=true
       .rcases c4 with c4|c4
        .obtain⟨r,hr,e⟩:=gU hf P0 c4;rw[CI,if_neg (by omega)]at e;rw[e];exact .pk r hr
        .rw[VS,A0R,A0R,A0R,iG]at c4;obtain⟨⟨⟨⟨rfl,hl⟩,ha⟩,hb⟩,hd⟩:=c4
         replace ha:TW (Bt n.roles) l=true:=ha
         replace hb:QL (Bt n.roles) l=true:=hb
         replace hd:uh l=true:=hd
         have hl:l.length=2:=by omega
         match l,hl,ha,hb,nk,hd with
         | [a,b],_,ha,hb,nk,hd =>
          obtain⟨r,hr,e1,e⟩:=YU hf (nk a (by simp)) ha;obtain⟨r',hr',e1',e'⟩:=YU hf (nk b (by simp)) hb;rw[m8,m8,m8,e,e'];refine .shk r r' hr hr' λhe=>?_;have:a.name≠b.name:=of_decide_eq_true hd;exact this (by rw[e1,e1',he])
       .rw[if_neg c4]at hkd;omega
  .have hb:=(Gm h1);have hk2:k=2:=by rcases hb.2.2.1 with h|h|h<;>omega
   subst hk2;have hl:l=[]:=A0g (hb.2.1 (.inr rfl));subst hl;rw[Sf]at hs;simp only[Tm.kind,ne_eq,hk,not_false_eq_true,if_true,Tm.name]at hs;by_cases h:(B5 n).any (V4 nm)=true
   .obtain⟨a,ha,he⟩:=A0b.1 h;rw[IX]at he;subst he;rw[CI,if_pos rfl];exact .atom nm _ ⟨ha,rfl⟩
   .replace hs:(if (B5 n).any (V4 nm)=true then (0:Int)else 13)=0:=hs
    rw[if_neg h]at hs;omega
theorem vP {t:Tm} (h:GT t=0):NH t=0:=by
 have h1:Li t=0:=by
  apply Classical.byContradiction;intro hc;unfold GT at h;rw[if_pos hc]at h;exact hc h
 unfold Li at h1;have hv:R4 t=0:=by
  apply Classical.byContradiction;intro hc;rw[if_pos hc]at h1;exact hc h1
 rw[if_neg (by simp[hv])]at h1;exact h1
theorem Right.role_ok {n:Nar} (h:Right n):∀a,a∈n.roles->Wm a:=λa ha=>Xf h a (by unfold B5;simp[ha])
theorem Right.at_ok {n:Nar} (h:Right n):∀a s,atN n a s->Wm a/\0<=s/\s<=5:=λa s ha=>by
 obtain⟨h1,rfl⟩:=ha;exact⟨Xf h a h1,tY h a⟩
theorem Right.msg {n:Nar} (h:Right n) {s:Ste} (hs:s∈n.steps):Wt (·∈n.roles) (atN n) (CI (L0 (B5 n) (G6 n)) s.msg)/\s.msg.size<=40:=by
 have h1:=Si ((JB h.nar).2.1 s hs);exact⟨zp _ _ (A0a _) (Ka h1) (vP h1) (gN (h.steps s hs)),Xa h1⟩
end Go.Abs.Q
namespace Go.Abs.Q
open Go.Proofs
attribute [local simp] E1 E5 fin J7 G4 O2 L3 P2 P1
open Classical in
noncomputable def dn (k:List Tm) (t:Tm):Nat:=if h:∃U,K7 U (alls (k++[t]))then h.choose.length else 0
theorem ZL {U U' l l':G7} (h:K7 U l) (h':K7 U' l') (e:∀e,e∈l.map E3↔e∈l'.map E3):U.length=U'.length:=by
 have:=dW h h' e;rw[E4,E4]at this;simpa using congrArg A0o this
theorem bH {k:G7} {t:Tm} {U:G7} (h:K7 U (alls (k++[t]))):dn k t=U.length:=by
 unfold dn;rw[dif_pos ⟨U,h⟩];exact ZL (l:=alls (k++[t])) (l':=alls (k++[t])) (Exists.choose_spec (⟨U,h⟩:∃U,K7 U (alls (k++[t])))) h λ_=>Iff.rfl
theorem GX {l l':G7} (h:l.map E3=l'.map E3):(alls l).map E3=(alls l').map E3:=by
 rw[←WQ,←WQ,E4,E4,h]
theorem ko {k k':G7} {t t':Tm} (h:k.map E3=k'.map E3) (ht:E3 t=E3 t'):(k++[t]).map E3=(k'++[t']).map E3:=by
 rw[A0T,A0T,h,A0Q,A0Q,ht,A0h]
theorem Iv {U l l':G7} (h:K7 U l) (e:l.map E3=l'.map E3):K7 U l':=⟨h.1,λx=>by rw[←e];exact h.2 x⟩
theorem ub {k k':G7} {t t':Tm} (h:k.map E3=k'.map E3) (ht:E3 t=E3 t'):dn k t=dn k' t':=by
 have e:=GX (ko h ht);have hiff:(∃U,K7 U (alls (k++[t])))↔∃U,K7 U (alls (k'++[t'])):=⟨λ⟨U,hU⟩=>⟨U,Iv hU e⟩,λ⟨U,hU⟩=>⟨U,Iv hU e.symm⟩⟩;by_cases hx:∃U,K7 U (alls (k++[t]))
 .obtain⟨U,hU⟩:=hx;rw[bH hU,bH (Iv hU e)]
 .unfold dn;rw[dif_neg hx,dif_neg λh=>hx (hiff.2 h)]
theorem kL {k k':G7} {t t':Tm} (h:k.map E3=k'.map E3) (ht:E3 t=E3 t'):WH k t↔WH k' t':=by
 have e:=GX (ko h ht);unfold WH;rw[ht];exact⟨Hu (λx hx=>by rw[←h];exact hx) (λx hx=>by rw[←e];exact hx),Hu (λx hx=>by rw[h];exact hx) (λx hx=>by rw[e];exact hx)⟩
open Classical in
noncomputable def s7 (k:List Tm) (t:Tm):Int×Bool:=if 60<k.length\/200<dn k t then (3,false)else (0,decide (WH k t))
theorem SO {k k':G7} {t t':Tm} (h:k.map E3=k'.map E3) (ht:E3 t=E3 t'):s7 k t=s7 k' t':=by
 have hl:k.length=k'.length:=by simpa using congrArg A0o h
 have e2:(@decide (WH k t) (Classical.propDecidable _))=@decide (WH k' t') (Classical.propDecidable _):=by
  by_cases hd:WH k t
  .rw[@decide_eq_true _ (Classical.propDecidable _) hd,@decide_eq_true _ (Classical.propDecidable _) ((kL h ht).1 hd)]
  .rw[@decide_eq_false _ (Classical.propDecidable _) hd,@decide_eq_false _ (Classical.propDecidable _) λk=>hd ((kL h ht).2 k)]
 unfold s7;rw[hl,ub h ht,e2]
theorem cA (m:I7) (k:G7) (t:Tm) (hk:∀x∈k,GoodT x) (ht:GoodT t) (Do:k.length<=1048576) :
  pc Q R3 [sl m 4 (A4 k),B9 t]=some (.tup [.bool (s7 k t).2,.int .i64 (s7 k t).1]):=by
 obtain⟨U,h1,h2⟩:=cB m k t hk ht Do;rw[h1];unfold xU s7;by_cases hc:k.length<=60
 .rw[bH (h2 hc)];split<;>rfl
 .rw[if_pos (.inl (by omega)),if_pos (.inl (by omega))]
open Classical in
theorem md {k:G7} {t:Tm} (h:(s7 k t).2=true):(s7 k t).1=0/\WH k t:=by
 unfold s7 at h ⊢;split at h
 .cases h
 .rename_i hc;rw[if_neg hc];exact⟨rfl,of_decide_eq_true h⟩
theorem RQ {m:I7} {r n:Nar} (hR:Right n) (he:Qn r=DI (L0 (B5 n) (G6 n)) n) {me:J2} (hme:me∈n.roles) {role q:Nat} {x:Tm} (h:x∈Pt m r n me role q):JH x/\x.size<=40:=by
 obtain⟨e2,e3,e5⟩:=JS he;have ro:=hR.role_ok;rcases vH h with rfl|⟨a,ha,rfl⟩|h|h|⟨s,h1,_,rfl⟩
 .exact⟨Pc (al (ro me hme)),by rw[(Mi m me me).1];omega⟩
 .exact⟨Pc (aj (ro a (by rw[←e2];exact ha))),by rw[(Mi m a me).2.1];omega⟩
 .refine⟨?_,by rw[Rk _ _ _ _ _ _ h];omega⟩;obtain⟨j,r',-,-,hj,h4⟩:=Wh (A0c (f:=E3) h);have hr':r'∈n.roles:=by rw[←e2];exact A00 hj
  refine Pc ?_;rcases h4 with h4|h4<;>rw[h4]
  .exact ak (ro me hme) (ro r' hr')
  .exact ak (ro r' hr') (ro me hme)
 .refine⟨?_,by rw[PJ h];omega⟩;unfold Hz at h;rw[A0U]at h;obtain⟨f,hf,rfl⟩:=h;have hf':=(A05.1 hf).1;obtain⟨-,k2,-⟩:=TX (JB hR.nar).1;have:=k2 f hf';exact SG (Xf hR f.name (by unfold B5;simp only[A0X,A0U];exact .inl (.inr ⟨f,hf',rfl⟩))) (by omega) (by omega)
 .refine⟨?_,Xb hR.nar he s h1⟩;have hm:Oz s∈n.steps.map (Ek (L0 (B5 n) (G6 n))):=by rw[←(BE he).2.2.2.2.1];exact A0c h1
  obtain⟨s',hs',e⟩:=A0U.1 hm;unfold Oz Ek at e;injection e with _ _ e _
  refine Pc ?_;rw[←e];exact(hR.msg hs').1.allN hR.role_ok hR.at_ok
theorem fC {r n:Nar} (hR:Right n) (he:Qn r=DI (L0 (B5 n) (G6 n)) n) {s:Ste} (hs:s∈r.steps):JH s.msg/\s.msg.size<=40:=by
 refine⟨?_,Xb hR.nar he s hs⟩;have hm:Oz s∈n.steps.map (Ek (L0 (B5 n) (G6 n))):=by rw[←(BE he).2.2.2.2.1];exact A0c hs
 obtain⟨s',hs',e⟩:=A0U.1 hm;unfold Oz Ek at e;injection e with _ _ e _
 refine Pc ?_;rw[←e];exact(hR.msg hs').1.allN hR.role_ok hR.at_ok
theorem qV:∀(N:Nat) (t:Tm),t.size<=N->∀x∈Cu t,x.size<=t.size:=by
 intro N
 induction N with
 |zero=>intro t h;have:=t.size_pos;omega
 |succ N ih =>
  intro t h x hx;have J4:=t.kids_size;rw[AD,G0]at hx;rcases A0W.1 hx with rfl|hx
  .exact A0a _
  .obtain⟨y,hy,hx⟩:=A0j.1 hx;have:=Tm.size_le hy;have:=ih y (by omega) x hx;omega
theorem ZQ:∀(N:Nat) (t:Tm),t.size<=N->∀x∈Cu t,∀y∈Cu x,y∈Cu t:=by
 intro N
 induction N with
 |zero=>intro t h;have:=t.size_pos;omega
 |succ N ih =>
  intro t h x hx y hy;have J4:=t.kids_size;rw[AD,G0]at hx;rcases A0W.1 hx with rfl|hx
  .exact hy
  .obtain⟨z,hz,hx⟩:=A0j.1 hx;rw[AD,G0];refine A0Y _ (A0j.2 ⟨z,hz,?_⟩);have:=Tm.size_le hz;exact ih z (by omega) x hx y hy
theorem tg {R:G7} {t:Tm} (h:K7 R (alls [t])) (hN:JH t) (hs:t.size<=40):∀x∈R,JH x/\x.size<=40:=λx hx=>by
 obtain⟨y,hy,e⟩:=Us h hx;rw[alls,alls,A0n]at hy;have h1:JH y:=λz hz=>hN z (ZQ _ t (A0a _) y hy z hz);have h2:=qV _ t (A0a _) y hy;refine⟨Pc ?_,?_⟩
 .rw[←e];intro z hz;rw[Ux]at hz;obtain⟨w,hw,rfl⟩:=A0U.1 hz;have:=h1 w hw;obtain⟨k,nm,s,m,l⟩:=w;simp only[NG,E3,Tm.kind,Tm.sort,Tm.kids,Tm.name]at this ⊢;rw[kR,E4,A0Z];rcases this with ⟨q1,q2,q3,q4,q5,q6⟩|h
  .exact .inl ⟨q1,q2,q3,by simp[q4],q5,q6⟩
  .exact .inr h
 .have h3:x.size=y.size:=by rw[←HF _ x (A0a _),←e,HF _ y (A0a _)]
  omega
theorem ft (r n:Nar) (hl:r.roles.length<=1000) (a:J2):pc Q GQ [HU r n,.str a]=some (.int .i64 (idx (V4 a) r.roles)):=by
 have hI:=Vr r.rm r.roles a (by omega);simp only[DJ]at hI;have sb:=Bu r n;refine O9 KD λfr hl h0 h1=>?_;simp[KD]at hl h0 h1;simp[KD,hl,h0,h1,sb,hI]
def Qi (rs:List ByteArray) (a:ByteArray):Nat:=(idx (V4 a) rs).toNat
theorem VO {rs:List ByteArray} {a:J2} (h:a∈rs):rs[Qi rs a]?=some a/\idx (V4 a) rs=((Qi rs a:Nat):Int):=by
 have h1:rs.any (V4 a)=true:=A0b.2 ⟨a,h,(IX a a).2 rfl⟩;have hge:=(DY (V4 a) rs 0).2 h1;have A7:=KX (V4 a) rs 0;have key:∀(l:List ByteArray) (i:Nat),l.any (V4 a)=true->∃j:Nat,S6 (V4 a) i l=((i+j:Nat):Int)/\l[j]?=some a:=by
  intro l
  induction l with
  |nil=>intro i h;simp at h
  |cons b l ih =>
   intro i h;unfold S6;by_cases hb:V4 a b=true
   .rw[if_pos hb];exact⟨0,by simp,by rw[(IX a b).1 hb];rfl⟩
   .rw[if_neg hb];rw[A06]at h;obtain⟨j,j1,j2⟩:=ih (i+1) (by simpa[hb]using h);exact⟨j+1,by rw[j1];congr 1;omega,by simpa using j2⟩
 obtain⟨j,j1,j2⟩:=key rs 0 h1;rw[Nat.zero_add]at j1;have e:Qi rs a=j:=by unfold Qi idx;rw[j1];rfl
 exact⟨by rw[e];exact j2,by rw[e];exact j1⟩
theorem QK {ns rs:List ByteArray} {s:Ste} (h:Gn ns rs s=0):s.frm∈rs/\s.to∈rs/\s.frm≠s.to:=by
 have h1:NN rs s.frm s.to=0:=by
  unfold Gn at h;apply Classical.byContradiction;intro hc;rw[if_pos hc]at h;exact hc h
 unfold NN at h1;split at h1
 .rename_i h2;split at h1
  .omega
  .rename_i h3;obtain⟨q1,q2⟩:=h2;obtain⟨a,ha,ea⟩:=A0b.1 q1;obtain⟨b,hb,eb⟩:=A0b.1 q2;rw[IX]at ea eb;exact⟨ea ▸ ha,eb ▸ hb,h3⟩
 .omega
end Go.Abs.Q
namespace Go.Abs.Q
open Go.Proofs
attribute [local simp] E1 E5 fin J7 G4 O2 L3 P2 P1
def gt:Tm:=.mk 0 (bs []) 0 (true,false) []
noncomputable def Nr (k:List Tm) (i:Int):List Tm->Option (Int×Tm×Int)
 | []=>none
 |t::l=>if (s7 k t).1≠0 then some (0,gt,(s7 k t).1)else if (s7 k t).2=true then Nr k i l else some (i,t,13)
def bN (x:Int×Tm×Int):Int×Tm×Int:=(x.1,E3 x.2.1,x.2.2)
theorem Wj {k k':G7} (h:k.map E3=k'.map E3) (i:Int):∀{l l':G7},l.map E3=l'.map E3->(Nr k i l).map bN=(Nr k' i l').map bN
 | [],[],_=>rfl
 | [],_::_,e=>by simp at e
 |_::_,[],e=>by simp at e
 |t::l,t'::l',e=>by
  rw[A0Q,A0Q,List.cons.injEq]at e;have hd:=SO h e.1;rw[Nr,Nr,hd];split
  .rfl
  .split
   .exact Wj h i e.2
   .simp only[Option.map_some,bN,e.1]
theorem rV (R kk:G7) (mr mk:I7) (B8:R.length<=1000) (hR:∀x∈R,GoodT x/\x.size<=1000) (hk:∀x∈kk,GoodT x) (Do:kk.length<=10000) (q:Int) (C0 Z SC:G3) (hZ:Z.length=4) (hZm:Es Z=false) (fr:Fr) (h:AH) (B0:List (List AV)) (hB0:h.boxes=C0::Z::SC::B0) (hl:fr.length=83) (h3:A0 fr 3=.ptr 1 0) (h7:A0 fr 7=.int .i64 q) (h9:A0 fr 9=sl mk 4 (A4 kk)) (h56:A0 fr 56=sl mr 4 (A4 R)) (h57:A0 fr 57=.int .i64 R.length) (h58:A0 fr 58=.int .i64 0) :
  B7 (lp (A2 (K8 Q) (D6 j6) V8) (fr,h)) λe C4 h'=>Kp V8.wr fr C4/\((e=.exit 2/\Nr kk q R=none/\∃B,h'.boxes=C0::Z::SC::B)\/(e=.ret/\∃(a c:Int) (t t':Tm),Nr kk q R=some (a,t',c)/\E3 t=E3 t'/\A0 C4 2=.int .i64 a/\A0 C4 4=.int .i64 c/\∃B,h'.boxes=C0::(B9 t).cells::SC::B)):=by
 refine B4 rfl fr (λn fr h'=>∃(i:Nat),i+n=R.length/\A0 fr 58=.int .i64 (i:Nat)/\(∃B,h'.boxes=C0::Z::SC::B)/\Nr kk q (R.drop i)=Nr kk q R) ?_ R.length h ⟨0,by omega,h58,⟨_,hB0⟩,rfl⟩;rintro J Φ hJ hΦ n D5 H1 K ⟨i,hi,k58,hr⟩;have A6:=K.1.trans hl;have k3:=A8 K 3 h3;have k7:=A8 K 7 h7;have k9:=A8 K 9 h9;have k56:=A8 K 56 h56;have k57:=A8 K 57 h57;clear K;by_cases A7:i<R.length
 .have L4:=C6 i (by omega);obtain⟨⟨B,hB⟩,hr⟩:=hr;obtain⟨bx,fams⟩:=H1;simp only at hB;subst hB;have hx:=H9 A7;have hZd:Z.drop 4=[]:=A0x (by omega);rw[List.drop_eq_getElem_cons A7,Nr]at hr;obtain⟨hg,J4⟩:=hR _ (A0r A7);generalize R[i]=t at *
  have hD:=cA mk kk t hk hg (by omega);generalize hd:s7 kk t=d at *
  obtain⟨de,db⟩:=d;simp only at hD hr;by_cases hde:de=0
  .subst hde;rw[if_neg (by simp)]at hr;cases db with
   |true =>
    simp only[if_true]at hr;simp[V8,A6,k9,k56,k57,k58,A7,L4,hx,hD];exact E9 hJ ⟨i+1,by omega,by simp[A6],⟨_,rfl⟩,hr⟩
   |false =>
    simp only[A01,if_false]at hr;obtain⟨m',l',hC,hCe⟩:=aG _ (true,true) [t] (A0a _) (by simp only[Tm.sizes];omega);rw[show A4 [t]=[B9 t] from rfl]at hC;have CK:l'.length=1:=by
     have:=congrArg A0o hCe;rw[E4,E4,A0Z,A0Z]at this;simpa using this
    obtain⟨t2,rfl⟩:∃t2,l'=[t2]:=by
     match l',CK with
     | [t2],_=>exact⟨t2,rfl⟩
    have he2:E3 t2=E3 t:=by
     rw[E4,E4]at hCe;simpa using hCe
    rw[show A4 [t2]=[B9 t2] from rfl]at hC;simp[V8,A6,k3,k7,k9,k56,k57,k58,A7,hx,hD,A5,hC,hZ,hZm,M5];exact hΦ _ _ _ (.inr ⟨rfl,q,13,t2,t,hr.symm,he2,by simp[A6],by simp[A6],B++[(B9 t).cells],by simp[hZd]⟩)
  .rw[if_pos hde]at hr;simp[V8,A6,k3,k9,k56,k57,k58,A7,hx,hD,hde,D2,E6,hZ,hZm,M5];refine hΦ _ _ _ (.inr ⟨rfl,0,de,gt,gt,hr.symm,rfl,by simp[A6],by simp[A6],B++[(B9 t).cells],?_⟩);simp[gt,Tm.kind,Tm.name,Tm.sort,Tm.cm,Tm.kids,A4,hZd];exact Il 4
 .obtain⟨⟨B,hB⟩,hr⟩:=hr;rw[A0x (by omega),Nr]at hr;simp[V8,A6,k57,k58,A7];exact hΦ _ _ _ (.inl ⟨rfl,hr.symm,B,hB⟩)
open Classical in
noncomputable def Ud (t:Tm):List Tm:=if h:∃R,K7 R (alls [t])then h.choose else []
theorem Wi {t t':Tm} {R:G7} (h:K7 R (alls [t])) (e:E3 t=E3 t'):R.map E3=(Ud t').map E3:=by
 have hx:∃R,K7 R (alls [t']):=⟨R,Iv h (GX (by simp[e]))⟩;unfold Ud;rw[dif_pos hx];have:=dW (Iv h (GX (l:=[t]) (l':=[t']) (by simp[e]))) hx.choose_spec λ_=>Iff.rfl
 rwa [E4,E4]at this
noncomputable def Yl (kf:ByteArray->Nat->List Tm):Nat->List Ste->Int×Tm×Int
 |_,[]=>(0,gt,0)
 |i,s::l=>if (s7 (kf s.frm i) s.msg).1≠0 then (0,gt,(s7 (kf s.frm i) s.msg).1)else if (s7 (kf s.frm i) s.msg).2=true then Yl kf (i+1) l else
  match Nr (kf s.frm i) i (Ud s.msg)with
  |some x=>x
  |none=>Yl kf (i+1) l
theorem qp {kf kf':ByteArray->Nat->List Tm}:∀{l l':List Ste} (i:Nat),(∀s∈l,∀j,j<i+l.length->(kf s.frm j).map E3=(kf' s.frm j).map E3)->l.map Oz=l'.map Oz->bN (Yl kf i l)=bN (Yl kf' i l')
 | [],[],i,_,_=>rfl
 | [],_::_,i,_,e=>by simp at e
 |_::_,[],i,_,e=>by simp at e
 |s::l,s'::l',i,hk,e=>by
  rw[A0Q,A0Q,List.cons.injEq]at e;obtain⟨e1,e2⟩:=e;unfold Oz at e1;injection e1 with a1 a2 a3 a4
  have hki:=hk s A0d i (by simp);have ih:=qp (kf:=kf) (kf':=kf') (l:=l) (l':=l') (i+1) (λx hx j hj=>hk x (A0Y _ hx) j (by simp;omega)) e2;have hd:=SO hki a3;have hsub:(Ud s.msg).map E3=(Ud s'.msg).map E3:=by
   by_cases hx:∃R,K7 R (alls [s.msg])
   .obtain⟨R,hR⟩:=hx;rw[←Wi hR rfl,Wi hR a3]
   .have hx':¬ ∃R,K7 R (alls [s'.msg]):=λ⟨R,hR⟩=>hx ⟨R,Iv hR (GX (by simp[a3]))⟩;unfold Ud;rw[dif_neg hx,dif_neg hx']
  have hs:=Wj hki (i:Int) hsub;rw[Yl,Yl,←a1,hd];split
  .rfl
  .split
   .exact ih
   .generalize Nr (kf s.frm i) i (Ud s.msg)=o1 at hs;generalize Nr (kf' s.frm i) i (Ud s'.msg)=o2 at hs;cases o1 with
    |none =>
     cases o2 with
     |none=>exact ih
     |some y=>simp at hs
    |some x =>
     cases o2 with
     |none=>simp at hs
     |some y=>simpa using hs
end Go.Abs.Q
