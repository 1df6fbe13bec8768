/- A part of the proof. -/
import Derived.Test.YtohjdamplbhdpaaGreatDoorSB19
set_option linter.all false
open List renaming map_cons->A0O,mem_map->A0Q,map_append->A0R,mem_singleton->A0S,getElem?_eq_getElem->A0T,mem_cons->A0U,mem_map_of_mem->A0V,mem_append->A0W,mem_cons_of_mem->A0X,length_map->A0Y,any_eq_true->A0a,mem_cons_self->A0b,append_assoc->A0c,drop_eq_nil_of_le->A0d,take_of_length_le->A0e,eq_nil_of_length_eq_zero->A0f,map_nil->A0g,length_take->A0h,mem_flatMap->A0i,mem_of_mem_take->A0j,map_map->A0k,getElem_mem->A0l,take_succ_eq_append_getElem->A0m,append_nil->A0n,length->A0o,getD_eq_getElem?_getD->A0q,map_take->A0r,drop_eq_getElem_cons->A0s,getElem?_eq_some_iff->A0t,not_mem_nil->A0u,filter_cons_of_neg->A0v,filter_cons_of_pos->A0w,nodup_cons->A0x,length_singleton->A0y,nodup_nil->A0z,mem_of_getElem?->A00,nodup_append->A01,length_cons->A02,length_nil->A03,mem_filter->A04,any_cons->A05
open Bool renaming and_eq_true->A0P,false_eq_true->A0p
open Nat renaming le_refl->A0Z
namespace Go.Abs.Q
open Go.Proofs
attribute [local simp] E6 E7 fin K1 H4 P2 L5 R0 Q9
theorem uT {c:Ctx} {h:AH} {sz bytes:Nat} {b:Bool} {m:I6} {ys:G4} (P6:ys≠[]) (hb:ys.length*bytes<=H3/\ys.length<=maxLen) :
  K3 c h sz bytes (sl (true,b) sz []) (sl m sz ys)=some (.sl h.fams.length ys.length 0 ys.length,⟨h.boxes,h.fams++[⟨ys,sz,c.mutApp⟩]⟩):=by
 have hl:ys.length≠0:=λe=>P6 (A0f e);have hx:=N0 h m sz ys;have e:K3 c h sz bytes (sl (true,b) sz []) (sl m sz ys)=K3 c h sz bytes (.vs true (if (([]:List AV).isEmpty&&!b)=true then 0 else sz) []) (sl m sz ys):=rfl
 rw[e];simp only[K3,hx];rw[if_neg hl,if_pos ⟨.inr rfl,by simpa using hb⟩];simp
theorem UO (nm:J3) (m:I6) (l:G6) (P6:l≠[]) (B9:l.length<=1048576):pc Q W5 [.str nm,sl m 4 (A4 l)]=some (B8 (Uy nm (false,true) l)):=by
 rw[←qU];have hl':(A4 l).length=l.length:=by rw[C9,A0Y]
 have hne':A4 l≠[]:=λe=>P6 (by rw[C9,List.map_eq_nil_iff]at e;exact e);generalize A4 l=xs at *
 have hr:xs.length*56<=H3/\xs.length<=maxLen:=by simp only[H3,maxLen];omega
 have ha:∀(B:List (List AV)),K3 (D6 W5) ⟨B,[]⟩ 4 56 (sl (true,true) 4 []) (sl m 4 xs)=some (.sl 0 xs.length 0 xs.length,⟨B,[⟨xs,4,false⟩]⟩):=λB=>uT hne' hr;refine M9 DM λfr hl h0 h1=>?_;simp[DM]at hl h0 h1;simp[DM,hl,h0,h1,A5,D2,E4,ha]
theorem ff (a:J3):pc Q Ic [.str a]=some (B8 (NO (false,true) a)):=by
 have hG:=VK a;have hA:=UO (bs [115,107]) (true,true) [Hv a] (by simp) (by simp);rw[show A4 [Hv a]=[B8 (Hv a)] from rfl]at hA;change pc Q W5 _=some (B8 (NO (false,true) a))at hA;refine H8 ME λfr hl h0=>?_;simp[ME]at hl h0;simp[ME,hl,h0,hG,hA,A5]
theorem sf (a:J3):pc Q NB [.str a]=some (B8 (Lm (false,true) a)):=by
 have hG:=ff a;have hA:=UO (bs [112,107]) (true,true) [NO (false,true) a] (by simp) (by simp);rw[show A4 [NO (false,true) a]=[B8 (NO (false,true) a)] from rfl]at hA;change pc Q W5 _=some (B8 (Lm (false,true) a))at hA;generalize NO (false,true) a=u at *
 refine H8 Ni λfr hl h0=>?_;simp[Ni]at hl h0;simp[Ni,hl,h0,hG,hA,A5]
theorem fp (a b:J3):pc Q Ji [.str a,.str b]=some (B8 (Sa (false,true) a b)):=by
 have hG:=VK a;have hG':=VK b;have hA:=UO (bs [115,104,107]) (true,true) [Hv a,Hv b] (by simp) (by simp);rw[show A4 [Hv a,Hv b]=[B8 (Hv a),B8 (Hv b)] from rfl]at hA;change pc Q W5 _=some (B8 (Sa (false,true) a b))at hA;generalize Hv a=u at *
 generalize Hv b=u' at *
 refine M9 Nj λfr hl h0 h1=>?_;simp[Nj]at hl h0 h1;simp[Nj,hl,h0,h1,hG,hG',hA,A5]
theorem nP (r:Nar) (B9:r.roles.length<=1000) (acc:G6) (hal:acc.length<=1000) (fr:Fr) (h:AH) (hh:h.boxes=[(G5 r).cells]) (v0:AV) (hv0:A0 fr 8=v0) (hg0:KF false 4 (A4 acc) v0 h) (hl:fr.length=112) (h3:A0 fr 3=.ptr 0 0) (h9:A0 fr 9=.int .i64 0) :
  B7 (lp (A2 (K8 Q) (D6 U1) DU) (fr,h)) λe C3 h'=>Kp DU.wr fr C3/\e=.exit 0/\h'.boxes=[(G5 r).cells]/\KF false 4 (A4 (acc++r.roles.map (Lm (false,true)))) (A0 C3 8) h':=by
 refine B4 rfl fr (λn fr h'=>∃(i:Nat),i+n=r.roles.length/\A0 fr 9=.int .i64 (i:Nat)/\(∃v,A0 fr 8=v/\h'.boxes=[(G5 r).cells]/\KF false 4 (A4 (acc++(r.roles.take i).map (Lm (false,true)))) v h')) ?_ r.roles.length h ⟨0,by omega,h9,_,hv0,hh,by simpa using hg0⟩;rintro J Φ hJ hΦ n D5 H1 K ⟨i,hi,k9,hr⟩;have A6:=K.1.trans hl;have k3:=A8 K 3 h3;clear K;by_cases A7:i<r.roles.length
 .have L4:=C6 i (by omega);obtain⟨v,k8,hB,hg⟩:=hr;obtain⟨bx,fams⟩:=H1;simp only at hB;subst hB;have rb:=E9 r;have hx:=G1 (f:=AV.str) (A0T A7);have Q4:acc++(r.roles.take (i+1)).map (Lm (false,true))=(acc++(r.roles.take i).map (Lm (false,true)))++[Lm (false,true) r.roles[i]]:=by
   rw[A0m A7,A0R,A0O,A0g,A0c]
  have CK:(acc++(r.roles.take i).map (Lm (false,true))).length<=2000:=by simp;omega
  generalize r.roles[i]=a at *
  have hP:=sf a;obtain⟨v',F',ha,Z9,-⟩:=OB (c:=D6 U1) (bytes:=56) (x:=sl (true,true) 4 [B8 (Lm (false,true) a)]) (ys:=[B8 (Lm (false,true) a)]) (h:=⟨[(G5 r).cells],fams⟩) hg (N0 _ _ _ _) (by simp only[H3,maxLen,C9,A0Y,A0y];omega);rw[←P9,←Q4]at Z9;rw[rb]at ha;clear Q4 hg;generalize Lm (false,true) a=t2 at *
  simp[DU,A6,k3,k9,A7,L4,k8,rb,hx,hP,A5,ha];exact G0 hJ ⟨i+1,by omega,by simp[A6],v',by simp[A6],by rw[rb],I2 Z9 rfl⟩
 .obtain⟨v,k8,hB,hg⟩:=hr;obtain⟨bx,fams⟩:=H1;simp only at hB;subst hB;have rb:=E9 r;rw[A0e (by omega)]at hg;simp[DU,A6,k3,k9,A7,rb];exact hΦ _ _ _ ⟨rfl,by rw[rb],by simp[k8];exact I2 hg rfl⟩
theorem nO (r:Nar) (B9:r.roles.length<=1000) (acc:G6) (hal:acc.length<=2000) (role:Nat) (me:J3) (fr:Fr) (h:AH) (hh:h.boxes=[(G5 r).cells]) (v0:AV) (hv0:A0 fr 8=v0) (hg0:KF false 4 (A4 acc) v0 h) (hl:fr.length=112) (h1:A0 fr 1=.int .i64 (role:Nat)) (h3:A0 fr 3=.ptr 0 0) (h7:A0 fr 7=.str me) (h10:A0 fr 10=.int .i64 0) :
  B7 (lp (A2 (K8 Q) (D6 U1) Ao) (fr,h)) λe C3 h'=>Kp Ao.wr fr C3/\e=.exit 2/\h'.boxes=[(G5 r).cells]/\KF false 4 (A4 (acc++Lw (false,true) me r.roles role r.roles.length)) (A0 C3 8) h':=by
 refine B4 rfl fr (λn fr h'=>∃(i:Nat),i+n=r.roles.length/\A0 fr 10=.int .i64 (i:Nat)/\(∃v,A0 fr 8=v/\h'.boxes=[(G5 r).cells]/\KF false 4 (A4 (acc++Lw (false,true) me r.roles role i)) v h')) ?_ r.roles.length h ⟨0,by omega,h10,_,hv0,hh,by simpa[Lw]using hg0⟩;rintro J Φ hJ hΦ n D5 H1 K ⟨i,hi,k10,hr⟩;have A6:=K.1.trans hl;have k1:=A8 K 1 h1;have k3:=A8 K 3 h3;have k7:=A8 K 7 h7;clear K;by_cases A7:i<r.roles.length
 .have L4:=C6 i (by omega);obtain⟨v,k8,hB,hg⟩:=hr;obtain⟨bx,fams⟩:=H1;simp only at hB;subst hB;have rb:=E9 r;have hx:=G1 (f:=AV.str) (A0T A7);have hl3:=Sb (false,true) me r.roles role i;have CK:(acc++Lw (false,true) me r.roles role i).length<=4000:=by simp;omega
  have Q4:acc++Lw (false,true) me r.roles role (i+1)=(acc++Lw (false,true) me r.roles role i)++(if i=role then []else [Sa (false,true) me r.roles[i],Sa (false,true) r.roles[i] me]):=by
   rw[Lw,A0T A7,A0c]
  generalize r.roles[i]=a at *
  by_cases hir:i=role
  .rw[if_pos hir,A0n]at Q4;rw[←Q4]at hg;subst hir;simp[Ao,A6,k1,k3,k10,A7,L4,rb];exact G0 hJ ⟨i+1,by omega,by simp[A6],v,by simp[k8],by rw[rb],I2 hg rfl⟩
  .rw[if_neg hir]at Q4;have hii:¬(i:Int)=(role:Int):=by omega
   have hA:=fp me a;have hA2:=fp a me;obtain⟨v',F',ha,Z9,-⟩:=OB (c:=D6 U1) (bytes:=56) (x:=sl (true,true) 4 [B8 (Sa (false,true) me a),B8 (Sa (false,true) a me)]) (ys:=[B8 (Sa (false,true) me a),B8 (Sa (false,true) a me)]) (h:=⟨[(G5 r).cells],fams⟩) hg (N0 _ _ _ _) (by simp only[H3,maxLen,C9,A0Y,A02,A03];omega);have e1:A4 (acc++Lw (false,true) me r.roles role i)++[B8 (Sa (false,true) me a),B8 (Sa (false,true) a me)]=A4 (acc++Lw (false,true) me r.roles role (i+1)):=by
    rw[Q4,C9,C9,A0R (l₂:=[_,_])];rfl
   rw[e1]at Z9;rw[rb]at ha;clear e1 Q4 hg;generalize Sa (false,true) me a=t2 at *
   generalize Sa (false,true) a me=t1 at *
   simp[Ao,A6,k1,k3,k7,k10,A7,L4,k8,rb,hx,hii,hA,hA2,A5,ha];exact G0 hJ ⟨i+1,by omega,by simp[A6],v',by simp[A6],by rw[rb],I2 Z9 rfl⟩
 .obtain⟨v,k8,hB,hg⟩:=hr;obtain⟨bx,fams⟩:=H1;simp only at hB;subst hB;have rb:=E9 r;have hi2:i=r.roles.length:=by omega
  subst hi2;simp[Ao,A6,k3,k10,rb];exact hΦ _ _ _ ⟨rfl,by rw[rb],by simp[k8];exact I2 hg rfl⟩
theorem eZ (r:Nar) (hfl:r.fresh.length<=1048576) (role:Nat) (me:J3) (hme:Hm (r.roles.map AV.str) role=some (.str me)) (fr:Fr) (h:AH) (hh:h.boxes=[(G5 r).cells]) (h5:A0 fr 5=.vs true 0 []) (hl:fr.length=43) (h1:A0 fr 1=.int .i64 (role:Nat)) (h2:A0 fr 2=.ptr 0 0) (h6:A0 fr 6=.int .i64 0) :
  B7 (lp (A2 (K8 Q) (D6 EB) Be) (fr,h)) λe C3 h'=>Kp Be.wr fr C3/\e=.exit 0/\KF false 4 (A4 (Hz me r.fresh)) (A0 C3 5) h':=by
 refine B4 rfl fr (λn fr h'=>∃(i:Nat),i+n=r.fresh.length/\A0 fr 6=.int .i64 (i:Nat)/\(∃v,A0 fr 5=v/\h'.boxes=[(G5 r).cells]/\KF false 4 (A4 (Hz me (r.fresh.take i))) v h')) ?_ r.fresh.length h ⟨0,by omega,h6,_,h5,hh,WR _ _ _⟩;rintro J Φ hJ hΦ n D5 H1 K ⟨i,hi,k6,hr⟩;have A6:=K.1.trans hl;have k1:=A8 K 1 h1;have k2:=A8 K 2 h2;clear K;by_cases A7:i<r.fresh.length
 .have L4:=C6 i (by omega);obtain⟨v,k5,hB,hg⟩:=hr;obtain⟨bx,fams⟩:=H1;simp only at hB;subst hB;have rb:=E9 r;have hx:=G1 (f:=Lq) (A0T A7);have B9:=RE me (r.fresh.take i);rw[A0h]at B9;have Q4:=Zj (me:=me) A7;generalize r.fresh[i]=f at *
  have hA:=Wh f.name f.sort;by_cases hf:f.role=me
  .rw[if_pos hf]at Q4;obtain⟨v',F',ha,Z9,-⟩:=OB (c:=D6 EB) (bytes:=56) (x:=sl (true,true) 4 [B8 (.mk 2 f.name f.sort (true,false) [])]) (ys:=[B8 (.mk 2 f.name f.sort (true,false) [])]) (h:=⟨[(G5 r).cells],fams⟩) (I2 hg rfl) (N0 _ _ _ _) (by simp only[H3,maxLen,C9,A0Y,A0y];omega);rw[←P9,←Q4]at Z9;rw[rb]at ha;generalize Tm.mk 2 f.name f.sort (true,false) []=t at *
   simp[Be,A6,k1,k2,k6,A7,L4,k5,hx,rb,hme,hf,hA,A5,ha];exact G0 hJ ⟨i+1,by omega,by simp[A6],v',by simp[A6],by rw[rb],I2 Z9 rfl⟩
  .rw[if_neg hf,A0n]at Q4;rw[←Q4]at hg;simp[Be,A6,k1,k2,k6,A7,L4,hx,rb,hme,hf];exact G0 hJ ⟨i+1,by omega,by simp[A6],v,by simp[k5],by rw[rb],I2 hg rfl⟩
 .obtain⟨v,k5,hB,hg⟩:=hr;obtain⟨bx,fams⟩:=H1;simp only at hB;subst hB;have rb:=E9 r;rw[A0e (by omega)]at hg;simp[Be,A6,k2,k6,A7,rb];exact hΦ _ _ _ ⟨rfl,by simp[k5];exact I2 hg rfl⟩
theorem nt (r:Nar) (hfl:r.fresh.length<=1048576) (role:Nat) (me:J3) (hme:r.roles[role]?=some me):∃m,pc Q EB [G5 r,.int .i64 (role:Nat)]=some (sl m 4 (A4 (Hz me r.fresh))):=by
 suffices hq:∃v,pc Q EB [G5 r,.int .i64 (role:Nat)]=some v/\∃m:Bool×Bool,v=sl m 4 (A4 (Hz me r.fresh)) by
  obtain⟨v,h1,m,rfl⟩:=hq;exact⟨m,h1⟩
 have rb:=E9 r;have hme':Hm (r.roles.map AV.str) role=some (.str me):=G1 hme;refine Sk Nh λΨ hΨ fr hl h0 h1=>?_;simp[Nh]at hl h0 h1;simp[Nh,h0,rb];refine B7.mono (eZ r hfl role me hme' _ _ ?_ ?_ ?_ ?_ ?_ ?_) ?_<;>first|(simp[hl,h1,rb];done)|skip
 rintro e D5 ⟨bx,F1⟩ ⟨K,rfl,hg⟩;have A6:D5.length=43:=K.1.trans (by simp[hl]);obtain⟨m',hf⟩:=Pl hg;simp only at hf;simp[A6,hf];exact hΨ _ ⟨m',rfl⟩
theorem nN (l:G6) (m0:I6) (B9:l.length<=1000) (acc:G6) (hal:acc.length<=5000) (has:∀x∈acc,x.size<=1099511627776) (hls:∀x∈l,x.size<=1099511627776) (B0:List (List AV)) (fr:Fr) (h:AH) (hh:h.boxes=B0) (v0:AV) (hv0:A0 fr 8=v0) (hg0:KF false 4 (A4 acc) v0 h) (hl:fr.length=112) (h11:A0 fr 11=sl m0 4 (A4 l)) (h12:A0 fr 12=.int .i64 0) :
  B7 (lp (A2 (K8 Q) (D6 U1) DT) (fr,h)) λe C3 h'=>Kp DT.wr fr C3/\e=.exit 4/\h'.boxes=B0/\KF false 4 (A4 (U7 acc l)) (A0 C3 8) h':=by
 refine B4 rfl fr (λn fr h'=>∃(i:Nat),i+n=l.length/\A0 fr 12=.int .i64 (i:Nat)/\(∃v,A0 fr 8=v/\h'.boxes=B0/\KF false 4 (A4 (U7 acc (l.take i))) v h')) ?_ l.length h ⟨0,by omega,h12,_,hv0,hh,hg0⟩;rintro J Φ hJ hΦ n D5 H1 K ⟨i,hi,k12,hr⟩;have A6:=K.1.trans hl;have k11:=A8 K 11 h11;clear K;by_cases A7:i<l.length
 .have L4:=C6 i (by omega);obtain⟨v,k8,hB,hg⟩:=hr;obtain⟨bx,fams⟩:=H1;simp only at hB;subst hB;have hx:=I0 A7;have CK:=Bj (l.take i) acc;rw[A0h]at CK;have J5:∀x∈U7 acc (l.take i),x.size<=1099511627776:=λx hx=>by
   rcases Bk _ _ hx with h|h
   .exact has x h
   .exact hls x (A0j h)
  have hli:=hls _ (A0l A7);have Q4:l.take (i+1)=l.take i++[l[i]]:=A0m A7;generalize l[i]=t at *
  obtain⟨v',F',hK,Z9⟩:=lU _ v ⟨bx,fams⟩ hg t (by omega) J5 hli;have e1:LT (U7 acc (l.take i)) t=U7 acc (l.take (i+1)):=by
   rw[Q4,PL];rfl
  rw[e1]at Z9;clear e1 Q4 hg J5;simp[DT,A6,k11,k12,A7,L4,k8,hx,hK];exact G0 hJ ⟨i+1,by omega,by simp[A6],v',by simp[A6],rfl,I2 Z9 rfl⟩
 .obtain⟨v,k8,hB,hg⟩:=hr;rw[A0e (by omega)]at hg;simp[DT,A6,k11,k12,A7];exact hΦ _ _ _ ⟨rfl,hB,by simp[k8];exact I2 hg rfl⟩
theorem nM (r:Nar) (l:List Ste) (q:Nat) (hq:q<=r.steps.length) (hlq:l=r.steps.take q) (B9:l.length<=1000) (acc:G6) (hal:acc.length<=7000) (has:∀x∈acc,x.size<=1099511627776) (hls:∀x∈l,x.msg.size<=1099511627776) (me:J3) (fr:Fr) (h:AH) (hh:h.boxes=[(G5 r).cells]) (v0:AV) (hv0:A0 fr 8=v0) (hg0:KF false 4 (A4 acc) v0 h) (hl:fr.length=112) (h2:A0 fr 2=.int .i64 l.length) (h3:A0 fr 3=.ptr 0 0) (h7:A0 fr 7=.str me) (h13:A0 fr 13=.int .i64 0) :
  B7 (lp (A2 (K8 Q) (D6 U1) o7) (fr,h)) λe C3 h'=>Kp o7.wr fr C3/\e=.exit 6/\KF false 4 (A4 (U7 acc (Si me l))) (A0 C3 8) h':=by
 refine B4 rfl fr (λn fr h'=>∃(i:Nat),i+n=l.length/\A0 fr 13=.int .i64 (i:Nat)/\(∃v,A0 fr 8=v/\h'.boxes=[(G5 r).cells]/\KF false 4 (A4 (U7 acc (Si me (l.take i)))) v h')) ?_ l.length h ⟨0,by omega,h13,_,hv0,hh,hg0⟩;rintro J Φ hJ hΦ n D5 H1 K ⟨i,hi,k13,hr⟩;have A6:=K.1.trans hl;have k2:=A8 K 2 h2;have k3:=A8 K 3 h3;have k7:=A8 K 7 h7;clear K;by_cases A7:i<l.length
 .have L4:=C6 i (by omega);obtain⟨v,k8,hB,hg⟩:=hr;obtain⟨bx,fams⟩:=H1;simp only at hB;subst hB;have rb:=E9 r;have hlr:i<r.steps.length:=by rw[hlq,A0h]at A7;omega
  have hli:l[i]=r.steps[i]:=by simp only[hlq,List.getElem_take]
  have hx:=G1 (f:=El) (A0T hlr);have CK:=Bj (Si me (l.take i)) acc;have hml:(Si me (l.take i)).length<=i:=by
   unfold Si;rw[A0Y];have:=List.length_filter_le (OZ me) (l.take i);rw[A0h]at this;omega
  have J5:∀x∈U7 acc (Si me (l.take i)),x.size<=1099511627776:=λx hx=>by
   rcases Bk _ _ hx with h|h
   .exact has x h
   .unfold Si at h;rw[A0Q]at h;obtain⟨s,hs,rfl⟩:=h;exact hls s (A0j (A04.1 hs).1)
  have hli2:=hls _ (A0l A7);have Q4:=fD (me:=me) A7;rw[hli]at Q4 hli2;generalize r.steps[i]=s at *
  have hyes:OZ me s=true->KF false 4 (A4 (U7 acc (Si me (l.take i)))) v ⟨[(G5 r).cells],fams⟩->∃v' F',WI true ⟨[(G5 r).cells],fams⟩ (rc Q AJ [v,B8 s.msg] ⟨[(G5 r).cells],fams⟩)=some (v',⟨[(G5 r).cells],F'⟩)/\KF false 4 (A4 (U7 acc (Si me (l.take (i+1))))) v' ⟨[(G5 r).cells],F'⟩:=λhb hg=>by
   rw[hb,if_pos rfl]at Q4;obtain⟨v',F',hK,Z9⟩:=lU _ v ⟨[(G5 r).cells],fams⟩ hg s.msg (by omega) J5 hli2;have e1:LT (U7 acc (Si me (l.take i))) s.msg=U7 acc (Si me (l.take (i+1))):=by
    rw[Q4,PL];rfl
   rw[e1]at Z9;exact⟨v',F',hK,Z9⟩
  by_cases hq1:s.frm=me
  .obtain⟨v',F',hK,Z9⟩:=hyes (by simp[OZ,hq1]) hg;rw[rb]at hK;clear hyes Q4 J5;simp[o7,A6,k2,k3,k7,k13,A7,L4,rb,k8,hx,hq1,hK];exact G0 hJ ⟨i+1,by omega,by simp[A6],v',by simp[A6],by rw[rb],I2 Z9 rfl⟩
  .by_cases hq2:s.to=me
   .obtain⟨v',F',hK,Z9⟩:=hyes (by simp[OZ,hq2]) hg;rw[rb]at hK;clear hyes Q4 J5;simp[o7,A6,k2,k3,k7,k13,A7,L4,rb,k8,hx,hq1,hq2,hK];exact G0 hJ ⟨i+1,by omega,by simp[A6],v',by simp[A6],by rw[rb],I2 Z9 rfl⟩
   .have hb:OZ me s=false:=by simp[OZ,hq1,hq2]
    rw[hb]at Q4;simp only[A0p,if_false,A0n]at Q4;rw[←Q4]at hg;clear hyes Q4 J5;simp[o7,A6,k2,k3,k7,k13,A7,L4,rb,hx,hq1,hq2];exact G0 hJ ⟨i+1,by omega,by simp[A6],v,by simp[k8],by rw[rb],I2 hg rfl⟩
 .obtain⟨v,k8,hB,hg⟩:=hr;rw[A0e (by omega)]at hg;simp[o7,A6,k2,k13,A7];exact hΦ _ _ _ ⟨rfl,by simp[k8];exact I2 hg rfl⟩
def pw (m:Bool×Bool) (r:Nar) (me:ByteArray) (role q:Nat):List Tm :=
 U7 (U7 (([NO m me]++r.roles.map (Lm m))++Lw m me r.roles role r.roles.length) (Hz me r.fresh)) (Si me (r.steps.take q))
theorem jX (r:Nar) (hs:Smol r r) (role:Nat) (me:J3) (hme:r.roles[role]?=some me) (q:Nat) (hq:q<=r.steps.length) :
  ∃m,pc Q U1 [G5 r,.int .i64 (role:Nat),.int .i64 (q:Nat)]=some (sl m 4 (A4 (pw (false,true) r me role q))):=by
 suffices hQ:∃v,pc Q U1 [G5 r,.int .i64 (role:Nat),.int .i64 (q:Nat)]=some v/\∃m:Bool×Bool,v=sl m 4 (A4 (pw (false,true) r me role q)) by
  obtain⟨v,h1,m,rfl⟩:=hQ;exact⟨m,h1⟩
 have rb:=E9 r;have hme':Hm (r.roles.map AV.str) role=some (.str me):=G1 hme;have hA:=ff me;have s1:=hs.roles;have s2:=hs.fresh;have s3:=hs.steps;obtain⟨mf,hFr⟩:=nt r (by omega) role me hme;have b1:([NO (false,true) me]++r.roles.map (Lm (false,true))).length<=1001:=by simp;omega
 have b5:=Sb (false,true) me r.roles role r.roles.length;have b2:(([NO (false,true) me]++r.roles.map (Lm (false,true)))++Lw (false,true) me r.roles role r.roles.length).length<=3001:=by rw[List.length_append];omega
 have b3:=Bj (Hz me r.fresh) (([NO (false,true) me]++r.roles.map (Lm (false,true)))++Lw (false,true) me r.roles role r.roles.length);have b6:=RE me r.fresh;have z3:∀x∈([NO (false,true) me]++r.roles.map (Lm (false,true)))++Lw (false,true) me r.roles role r.roles.length,x.size<=1099511627776:=λx hx=>by
  rcases A0W.1 hx with h|h
  .rcases A0W.1 h with h|h
   .rw[A0S.1 h,(Mi _ me me).1];omega
   .rw[A0Q]at h;obtain⟨a,-,rfl⟩:=h;rw[(Mi _ a a).2.1];omega
  .rw[Re _ _ _ _ _ _ h];omega
 have z4:∀x∈U7 (([NO (false,true) me]++r.roles.map (Lm (false,true)))++Lw (false,true) me r.roles role r.roles.length) (Hz me r.fresh),x.size<=1099511627776:=λx hx=>by
  rcases Bk _ _ hx with h|h
  .exact z3 x h
  .rw[PR h];omega
 unfold pw;generalize hK1:[NO (false,true) me]++r.roles.map (Lm (false,true))=k1 at *
 generalize hK2:k1++Lw (false,true) me r.roles role r.roles.length=k2 at *
 generalize hK3:U7 k2 (Hz me r.fresh)=k3 at *
 generalize hK4:U7 k3 (Si me (r.steps.take q))=k4 at *
 refine WL MD λΨ hΨ fr hl h0 h1 h2=>?_;simp[MD]at hl h0 h1 h2;simp[MD,hl,h0,h1,rb,hme',hA,A5];refine B7.mono (nP r s1 [NO (false,true) me] (by simp) _ _ ?_ (sl (true,true) 4 (A4 [NO (false,true) me])) ?_ (qH _ _ _ _ _) ?_ ?_ ?_) ?_<;>first|(simp[hl,rb];done)|(simp[hl];rfl)|skip
 rintro e D5 ⟨bx,F1⟩ ⟨K,rfl,hB,hg⟩;have A6:D5.length=112:=K.1.trans (by simp[hl]);have k1':A0 D5 1=.int .i64 (role:Nat):=A8 K 1 (by simp[h1]);have k2':A0 D5 2=.int .i64 (q:Nat):=A8 K 2 (by simp[h2]);have k3':A0 D5 3=.ptr 0 0:=A8 K 3 (by simp[hl]);have k7':A0 D5 7=.str me:=A8 K 7 (by simp[hl]);clear K;simp only at hB;subst hB;rw[hK1]at hg;generalize hv8:A0 D5 8=v8 at *
 simp;refine B7.mono (nO r s1 k1 (by omega) role me _ _ ?_ v8 ?_ (I2 hg rfl) ?_ ?_ ?_ ?_ ?_) ?_<;>first|(simp[A6,rb,k1',k3',k7',hv8];done)|skip
 rintro e R3 ⟨bx2,F2⟩ ⟨K,rfl,hB,hg2⟩;have CK:R3.length=112:=K.1.trans (by simp[A6]);have k1'':A0 R3 1=.int .i64 (role:Nat):=A8 K 1 (by simp[k1']);have k2'':A0 R3 2=.int .i64 (q:Nat):=A8 K 2 (by simp[k2']);have k3'':A0 R3 3=.ptr 0 0:=A8 K 3 (by simp[k3']);have k7'':A0 R3 7=.str me:=A8 K 7 (by simp[k7']);clear K hg;simp only at hB;subst hB;rw[hK2]at hg2;generalize hv8':A0 R3 8=v8' at *
 simp[CK,k1'',k3'',rb,hFr];refine B7.mono (nN (Hz me r.fresh) mf (by omega) k2 (by omega) z3 (λx hx=>by rw[PR hx];omega) [(G5 r).cells] _ _ ?_ v8' ?_ (I2 hg2 rfl) ?_ ?_ ?_) ?_<;>first|(simp[CK,rb,hv8'];done)|skip
 rintro e fr3 ⟨bx3,F3⟩ ⟨K,rfl,hB,hg3⟩;have hl3:fr3.length=112:=K.1.trans (by simp[CK]);have k2a:A0 fr3 2=.int .i64 (q:Nat):=A8 K 2 (by simp[k2'']);have k3a:A0 fr3 3=.ptr 0 0:=A8 K 3 (by simp[k3'']);have k7a:A0 fr3 7=.str me:=A8 K 7 (by simp[k7'']);clear K hg2;simp only at hB;subst hB;rw[hK3]at hg3;generalize hv8a:A0 fr3 8=v8a at *
 have hql:(r.steps.take q).length=q:=by rw[A0h];omega
 simp;refine B7.mono (nM r (r.steps.take q) q hq rfl (by omega) k3 (by omega) z4 (λx hx=>by have:=hs.msgs x (A0j hx);omega) me _ _ ?_ v8a ?_ (I2 hg3 rfl) ?_ ?_ ?_ ?_ ?_) ?_<;>first|(simp[hl3,rb,k2a,k3a,k7a,hv8a,hql];done)|skip
 rintro e fr4 ⟨bx4,F4⟩ ⟨K,rfl,hg4⟩;have hl4:fr4.length=112:=K.1.trans (by simp[hl3]);clear K hg3;rw[hK4]at hg4;obtain⟨mm,hf⟩:=Pl hg4;simp only at hf;simp[hl4,hf];exact hΨ _ ⟨mm,rfl⟩
end Go.Abs.Q
namespace Go.Abs.Q
open Go.Proofs
theorem XG (rs:List ByteArray):∀(l:List (ByteArray×Option ByteArray)) (seen:List ByteArray),a8 rs seen l=0 ->
  (l.map (·.1)).Nodup/\(∀a∈l.map (·.1),a∉seen/\Qd a=false)/\(∀e∈l,zH rs e.2=true)/\∀e∈l,e.2.isSome=true->e.1≠bs [101]/\e.1≠bs [103]
 | [],_,_=>⟨A0z,λa h=>(nomatch h),λe h=>(nomatch h),λe h=>(nomatch h)⟩
 |(x,f)::l,seen,h=>by
  have e0:a8 rs seen ((x,f)::l)=if NF seen x f.isSome≠0 then NF seen x f.isSome else if zH rs f=false then 13 else a8 rs (seen++[x]) l:=rfl
  rw[e0]at h;by_cases h1:NF seen x f.isSome=0
  .rw[if_neg (by simp[h1])]at h;by_cases h2:zH rs f=false
   .rw[if_pos h2]at h;omega
   .rw[if_neg h2]at h;obtain⟨k1,k2,k3,k4⟩:=XG rs l (seen++[x]) h;unfold NF at h1;split at h1
    .omega
    .rename_i g1;split at h1
     .omega
     .rename_i g2;split at h1
      .omega
      .rename_i g3;have hx:x∉seen:=λhm=>g3 (A0a.2 ⟨x,hm,(IX x x).2 rfl⟩);refine⟨?_,λa ha=>?_,λe he=>?_,λe he hs=>?_⟩
       .rw[A0O,A0x];refine⟨λhm=>?_,k1⟩;exact(k2 x hm).1 (List.mem_append_right _ (A0S.2 rfl))
       .rw[A0O]at ha;rcases A0U.1 ha with rfl|ha
        .exact⟨hx,by simpa using g1⟩
        .exact⟨λhm=>(k2 a ha).1 (List.mem_append_left _ hm),(k2 a ha).2⟩
       .rcases A0U.1 he with rfl|he
        .simpa using h2
        .exact k3 e he
       .rcases A0U.1 he with rfl|he
        .exact⟨λe=>g2 ⟨hs,.inl e⟩,λe=>g2 ⟨hs,.inr e⟩⟩
        .exact k4 e he hs
  .rw[if_pos h1]at h;exact absurd h h1
theorem Vq {n:Nar} (h:Hx n=0):(B5 n).Nodup/\∀a∈B5 n,Qd a=false:=by
 obtain⟨k1,k2,-,-⟩:=XG n.roles (XL n) [] h;have e:(XL n).map (·.1)=B5 n:=by
  unfold XL B5;rw[A0R,A0R,A0k,A0k,A0k];have e1:∀l:List ByteArray,l.map ((λx:ByteArray×Option ByteArray=>x.1)∘λa=>(a,none))=l:=λl=>by
   rw[show ((λx:ByteArray×Option ByteArray=>x.1)∘λa=>(a,none))=id from rfl,List.map_id]
  rw[e1,e1];rfl
 rw[e]at k1 k2;exact⟨k1,λa ha=>(k2 a ha).2⟩
theorem Vz {n:Nar} (h:Hx n=0):n.roles.Nodup:=by
 have h1:=(Vq h).1;unfold B5 at h1;rw[A0c]at h1;exact(A01.1 h1).1
noncomputable def Wz (acc l:List Tm):List Tm:=l.foldl mC acc
theorem Pn:∀(l acc:G6),(U7 acc l).map E3=Wz (acc.map E3) (l.map E3)
 | [],acc=>rfl
 |t::l,acc=>by
  show (U7 (LT acc t) l).map E3=Wz (mC (acc.map E3) (E3 t)) (l.map E3);rw[Pn l,uP]
theorem Uv:∀(l acc:G6),l.Nodup->(∀x∈l,x∉acc)->Wz acc l=acc++l
 | [],acc,_,_=>by simp[Wz]
 |t::l,acc,hn,h=>by
  rw[A0x]at hn;have e:mC acc t=acc++[t]:=if_neg (h t A0b);show Wz (mC acc t) l=_;rw[e,Uv l _ hn.2 (λx hx hm=>?_),A0c,List.singleton_append];rcases A0W.1 hm with hm|hm
  .exact h x (A0X _ hx) hm
  .rw[A0S.1 hm]at hx;exact hn.1 hx
def po (a:ByteArray):Tm:=E3 (NO (true,true) a)
def gr (a:ByteArray):Tm:=E3 (Lm (true,true) a)
def pn (a b:ByteArray):Tm:=E3 (Sa (true,true) a b)
theorem tU (m:I6) (a:J3):E3 (NO m a)=po a:=rfl
theorem jy (m:I6) (a b:J3):E3 (Sa m a b)=pn a b:=rfl
theorem vn {a b:J3} (h:gr a=gr b):a=b:=by
 simp only[gr,Lm,NO,Uy,Hv,E3,G9]at h;injection h with _ _ _ _ h
 injection h with h _
 injection h with _ _ _ _ h
 injection h with h _
 injection h with _ h _ _ _
theorem lY {a b c d:J3} (h:pn a b=pn c d):a=c/\b=d:=by
 simp only[pn,Sa,Uy,Hv,E3,G9]at h;injection h with _ _ _ _ h
 injection h with h1 h
 injection h with h2 _
 injection h1 with _ h1 _ _ _
 injection h2 with _ h2 _ _ _
 exact⟨h1,h2⟩
theorem xk:bs [115,107]≠bs [112,107]:=by decide
theorem xl:bs [115,107]≠bs [115,104,107]:=by decide
theorem xm:bs [112,107]≠bs [115,104,107]:=by decide
theorem tV (a b:J3):gr a≠po b:=λh=>by
 simp only[po,gr,Lm,NO,Uy,Hv,E3,G9]at h;injection h with _ h _ _ _
 exact xk h.symm
theorem gQ (a b c:J3):pn a b≠po c:=λh=>by
 simp only[po,pn,Sa,NO,Uy,Hv,E3,G9]at h;injection h with _ h _ _ _
 exact xl h.symm
theorem gP (a b c:J3):pn a b≠gr c:=λh=>by
 simp only[gr,pn,Lm,Sa,NO,Uy,Hv,E3,G9]at h;injection h with _ h _ _ _
 exact xm h.symm
theorem jz (m m':I6) (me:J3) (rs:List ByteArray) (role:Nat):∀i,(Lw m me rs role i).map E3=(Lw m' me rs role i).map E3
 |0=>rfl
 |i+1=>by
  rw[Lw,Lw,A0R,A0R,jz m m' me rs role i];congr 1;split
  .rfl
  .split<;>rfl
theorem Wn {m:I6} {me:J3} {rs:List ByteArray} {role:Nat}:∀{i:Nat} {x:Tm},x∈(Lw m me rs role i).map E3->∃(j:Nat) (r:J3),j<i/\j≠role/\rs[j]?=some r/\(x=pn me r\/x=pn r me)
 |0,x,h=>by simp[Lw]at h
 |i+1,x,h=>by
  rw[Lw,A0R,A0W]at h;rcases h with h|h
  .obtain⟨j,r,h1,h2⟩:=Wn h;exact⟨j,r,by omega,h2⟩
  .split at h
   .simp at h
   .rename_i hir;split at h
    .rename_i r hr;simp only[A0O,A0g,A0U,A0u,or_false,jy]at h;exact⟨i,r,by omega,hir,hr,h⟩
    .simp at h
theorem VI {rs:List ByteArray} (h:rs.Nodup) {i j:Nat} {a:J3} (hi:rs[i]?=some a) (hj:rs[j]?=some a):i=j:=by
 obtain⟨h1,e1⟩:=A0t.1 hi;obtain⟨h2,e2⟩:=A0t.1 hj;rw[List.Nodup,List.pairwise_iff_getElem]at h;rcases Nat.lt_trichotomy i j with A7|he|hgt
 .exact absurd (e1.trans e2.symm) (h i j h1 h2 A7)
 .exact he
 .exact absurd (e2.trans e1.symm) (h j i h2 h1 hgt)
theorem aa {m:I6} {me:J3} {rs:List ByteArray} {role:Nat} (hn:rs.Nodup) (hme:rs[role]?=some me):∀i,((Lw m me rs role i).map E3).Nodup
 |0=>A0z
 |i+1=>by
  have ih:=aa (m:=m) hn hme i;rw[Lw,A0R];split
  .simpa using ih
  .rename_i hir;split
   .rename_i r hr;have hrm:r≠me:=λe=>hir (VI hn hr (e ▸ hme));rw[A01];refine⟨ih,?_,?_⟩
    .simp only[A0O,A0g,A0x,A0U,A0u,or_false,not_false_eq_true,A0z,and_true,jy];intro h;exact hrm (lY h).2
    .intro x hx y hy e;subst e;obtain⟨j,r',j1,j2,j3,j4⟩:=Wn hx;simp only[A0O,A0g,A0U,A0u,or_false,jy]at hy;have P6:r≠r':=λe=>by have:=VI hn hr (e ▸ j3);omega
     have hrm':r'≠me:=λe=>j2 (VI hn j3 (e ▸ hme));rcases hy with hy|hy<;>rcases j4 with j4|j4<;>rw[hy]at j4<;>have h:=lY j4
     .exact P6 h.2
     .exact hrm' h.1.symm
     .exact hrm h.1
     .exact P6 h.1
   .simpa using ih
noncomputable def Sr (f:ByteArray->Int) (n:Nar) (me:ByteArray) (role q:Nat):List Tm :=
 Wz (Wz ([po me]++n.roles.map gr++(Lw (true,true) me n.roles role n.roles.length).map E3) ((Hz me n.fresh).map E3)) (((n.steps.take q).filter (OZ me)).map λs=>CH f s.msg)
theorem jP {f:ByteArray->Int} {me:J3}:∀{l l':List Ste},l.map Ns=l'.map (Dh f)->(Si me l).map E3=(l'.filter (OZ me)).map λs=>CH f s.msg
 | [],[],_=>rfl
 | [],_::_,h=>by simp at h
 |_::_,[],h=>by simp at h
 |s::l,s'::l',h=>by
  rw[A0O,A0O,List.cons.injEq]at h;have ih:=jP (me:=me) h.2;have h1:=h.1;unfold Ns Dh at h1;injection h1 with e1 e2 e3 e4
  have eb:OZ me s=OZ me s':=by unfold OZ;rw[e1,e2]
  unfold Si at ih ⊢;cases hb:OZ me s' with
  |true =>
   rw[A0w (by rw[eb];exact hb),A0w hb,A0O,A0O,A0O,ih,e3]
  |false =>
   rw[A0v (by rw[eb,hb];simp),A0v (by rw[hb];simp),ih]
theorem UI {l:List ByteArray} (m:I6):(l.map (Lm m)).map E3=l.map gr:=by
 rw[A0k];rfl
theorem RJ {m:I6} {r n:Nar} {f:ByteArray->Int} (hd:Hx n=0) (he:Ql r=CN f n) {me:J3} {role:Nat} (hme:n.roles[role]?=some me) (q:Nat):(Ss m r n me role q).map E3=Sr f n me role q:=by
 obtain⟨-,e2,-,-,e5,-⟩:=s9 he;have hn:=Vz hd;have eq:(r.steps.take q).map Ns=(n.steps.take q).map (Dh f):=by rw[A0r,A0r,e5]
 unfold Ss Sr;rw[Pn,jP eq,Pn,Pn,Pn,e2,UI,jz m (true,true),A0O,A0g,tU];congr 2;rw[Uv (n.roles.map gr) [po me] ?_ ?_,Uv _ _ (aa hn hme _) ?_]
 .intro x hx hm;obtain⟨j,r',-,-,-,h4⟩:=Wn hx;rcases A0W.1 hm with hm|hm
  .rw[A0S.1 hm]at h4;rcases h4 with h4|h4
   .exact gQ _ _ _ h4.symm
   .exact gQ _ _ _ h4.symm
  .rw[A0Q]at hm;obtain⟨a,-,rfl⟩:=hm;rcases h4 with h4|h4
   .exact gP _ _ _ h4.symm
   .exact gP _ _ _ h4.symm
 .exact(List.Pairwise.map gr (λa b BE h=>BE (vn h)) hn)
 .intro x hx hm;rw[A0Q]at hx;obtain⟨a,-,rfl⟩:=hx;exact tV _ _ (A0S.1 hm)
theorem iY {m:I6} {r n:Nar} {f:ByteArray->Int} (he:Ql r=CN f n) {me:J3} {role:Nat} (q:Nat):(pw m r me role q).map E3=Sr f n me role q:=by
 obtain⟨-,e2,e3,-,e5,-⟩:=s9 he;have eq:(r.steps.take q).map Ns=(n.steps.take q).map (Dh f):=by rw[A0r,A0r,e5]
 unfold pw Sr;rw[Pn,jP eq,Pn,A0R,A0R,e2,e3,UI,jz m (true,true),A0O,A0g,tU]
theorem Xj {t:Tm} (h:GU t=0):t.size<=40:=by
 unfold GU at h;split at h
 .rename_i h1;exact absurd h h1
 .split at h
  .omega
  .omega
theorem nY {n:Nar} (h:RS n=0):2<=n.roles.length/\n.roles.length<=4/\n.fresh.length<=12/\n.tags.length<=8/\1<=n.steps.length/\n.steps.length<=8/\n.goals.length<=8:=by
 unfold RS at h
 repeat' split at h
 all_goals omega
theorem gV (f:ByteArray->Int):∀(N:Nat) (t:Tm),t.size<=N->(CH f t).size=t.size:=by
 intro N
 induction N with
 |zero=>intro t h;have:=t.size_pos;omega
 |succ N ih =>
  intro t h;obtain⟨k,nm,s,m,l⟩:=t;have e:Tm.size (.mk k nm s m l)=1+Tm.sizes l:=rfl;have key:∀l:List Tm,Tm.sizes l<=N->Tm.sizes (m8 f l)=Tm.sizes l:=by
   intro l
   induction l with
   |nil=>intro _;rfl
   |cons a l ihl =>
    intro hl;simp only[Tm.sizes]at hl;simp only[m8,Tm.sizes];rw[ih a (by omega),ihl (by omega)]
  show Tm.size (.mk k nm _ (false,false) (m8 f l))=_;rw[Tm.size,key l (by omega),e]
theorem Mc {r n:Nar} {f:ByteArray->Int} (hR:PX n=0) (he:Ql r=CN f n):Smol r n/\Smol r r:=by
 obtain⟨h1,h2,h3⟩:=JD hR;have hs:=nY (XR h1).2;obtain⟨-,e2,e3,-,e5,-⟩:=s9 he;have Wb:r.steps.length=n.steps.length:=by have:=congrArg A0o e5;simpa using this
 have hmsg:∀s∈r.steps,s.msg.size<=1048576:=λs hs=>by
  have hm:Ns s∈n.steps.map (Dh f):=by rw[←e5];exact A0V hs
  obtain⟨s',hs',e⟩:=A0Q.1 hm;unfold Ns Dh at e;injection e with _ _ e _
  have h4:=Xj (Sc (h2 s' hs'));have h5:=gV f _ s'.msg (A0Z _);rw[e,HI _ _ (A0Z _)]at h5;omega
 exact⟨⟨by rw[e2];omega,by omega,by omega,hmsg⟩,⟨by rw[e2];omega,by rw[e3];omega,by omega,hmsg⟩⟩
end Go.Abs.Q
namespace Go.Abs.Q
open Go.Proofs
attribute [local simp] E6 E7 fin K1 H4 P2 L5 R0 Q9
theorem tT {l:G6} {N:Nat} (h:∀x∈l,x.size<=N):Tm.sizes l<=l.length*N:=by
 induction l with
 |nil=>simp[Tm.sizes]
 |cons a l ih =>
  have h1:=h a A0b;have h2:=ih λx hx=>h x (A0X _ hx);rw[Tm.sizes,A02,Nat.succ_mul];omega
theorem Xk {r n:Nar} {f:ByteArray->Int} (hR:PX n=0) (he:Ql r=CN f n):∀s∈r.steps,s.msg.size<=40:=λs hs=>by
 obtain⟨h1,h2,h3⟩:=JD hR;obtain⟨-,e2,e3,-,e5,-⟩:=s9 he;have hm:Ns s∈n.steps.map (Dh f):=by rw[←e5];exact A0V hs
 obtain⟨s',hs',e⟩:=A0Q.1 hm;unfold Ns Dh at e;injection e with _ _ e _
 have h4:=Xj (Sc (h2 s' hs'));have h5:=gV f _ s'.msg (A0Z _);rw[e,HI _ _ (A0Z _)]at h5;omega
theorem JT {r n:Nar} {f:ByteArray->Int} (he:Ql r=CN f n):r.roles=n.roles/\r.fresh=n.fresh/\r.steps.length=n.steps.length:=by
 obtain⟨-,e2,e3,-,e5,-⟩:=s9 he;exact⟨e2,e3,by have:=congrArg A0o e5;simpa using this⟩
mutual
theorem Zb:∀t:Tm,E3 (E3 t)=E3 t
 | .mk k nm s m l=>by rw[E3,E3,ki l]
theorem ki:∀l:List Tm,G9 (G9 l)=G9 l
 | []=>rfl
 |t::l=>by rw[G9,G9,Zb t,ki l]
end
end Go.Abs.Q
namespace Go.Abs.Q
open Go.Proofs
def NG (x:Tm):Prop:=(x.kind=2/\0<=x.sort/\x.sort<=5/\x.kids=[]/\U6 x.name=true/\QH x.name (bs [101,35])=false) \/
 (x.kind=3/\x.sort=0/\x.name∈AR/\Lp x.name x.kids.length=true/\Yo x.name x.kids=0)
def Hg (t:Tm):Prop:=∀x∈Cv t,NG x
theorem dw:∀a∈AR,U6 a=true/\Dw a≠0/\∀n,Lp a n=true->n<=2:=by
 intro a ha;have h1:(AR.all λa=>U6 a&&decide (Dw a≠0)&&decide ((NP a).2.2.1<=2))=true:=by decide
 have h2:=List.all_eq_true.1 h1 a ha;simp only[A0P,decide_eq_true_eq]at h2;refine⟨h2.1.1,h2.1.2,λn hn=>?_⟩;unfold Lp at hn;simp only[A0P,decide_eq_true_eq]at hn;omega
theorem Hg.kid {t x:Tm} (h:Hg t) (hx:x∈t.kids):Hg x:=λy hy=>h y (by
 rw[AF,G2];exact A0X _ (A0i.2 ⟨x,hx,hy⟩))
theorem Hg.root {t:Tm} (h:Hg t):NG t:=h t (by rw[AF];exact A0b)
theorem kI {t:Tm} (h:NG t) (hk:∀x∈t.kids,Hg x):Hg t:=λy hy=>by
 rw[AF,G2]at hy;rcases A0U.1 hy with rfl|hy
 .exact h
 .obtain⟨x,hx,hy⟩:=A0i.1 hy;exact hk x hx y hy
theorem ll:∀(N:Nat) (t:Tm),t.size<=N->Hg t->I9 t=0/\Ue t=0:=by
 intro N
 induction N with
 |zero=>intro t h;have:=t.size_pos;omega
 |succ N ih =>
  intro t hs h;have hr:=h.root;have hkid:∀x∈t.kids,I9 x=0/\Ue x=0:=λx hx=>ih x (by have:=Tm.size_le hx;have:=t.kids_size;omega) (h.kid hx);obtain⟨k,nm,s,m,l⟩:=t;simp only[Tm.kids]at hkid;have e1:L9 l=0:=by
   clear hr hs h ih
   induction l with
   |nil=>rfl
   |cons a l ihl =>
    have h1:=hkid a A0b;have h2:=ihl λx hx=>hkid x (A0X _ hx);rw[L9,h1.1,h2];simp
  have e2:NQ l=0:=by
   clear hr hs h ih e1
   induction l with
   |nil=>rfl
   |cons a l ihl =>
    have h1:=hkid a A0b;have h2:=ihl λx hx=>hkid x (A0X _ hx);rw[NQ,h1.2,h2];simp
  rcases hr with ⟨q1,q2,q3,q4,q5,q6⟩|⟨q1,q2,q3,q4,q5⟩
  .simp only[Tm.kind,Tm.sort,Tm.kids,Tm.name]at q1 q2 q3 q4 q5;subst q1 q4;refine⟨?_,by rw[Ue];simp⟩;have:r9 2 s nm 0=0:=by
    unfold r9;rw[if_neg (by omega),if_neg (by simp[q5]),if_neg (by omega)]
   rw[I9,A03,this];simp[L9]
  .simp only[Tm.kind,Tm.sort,Tm.kids,Tm.name]at q1 q2 q3 q4 q5;subst q1 q2;obtain⟨f1,f2,f3⟩:=dw nm q3;have hl:=f3 _ q4;have:r9 3 0 nm l.length=0:=by
    unfold r9;rw[if_neg (by omega),if_neg (by simp[f1]),if_neg (by omega)]
   refine⟨by rw[I9,this,e1];simp,?_⟩;rw[Ue];rw[if_neg (by omega),if_neg f2,if_neg (by simp[q4]),if_neg (by simp[q5])];exact e2
theorem Hg.good {t:Tm} (h:Hg t) (hs:t.size<=40):GoodT t:=by
 obtain⟨h1,h2⟩:=ll _ t (A0Z _) h;refine⟨λx hx hk=>?_,?_,?_,λx hx hk=>?_⟩
 .rcases h x hx with q|q
  .have:=q.1;omega
  .exact q.2.2.1
 .unfold vE;have hv:R6 t=0:=by
   unfold R6;have:=iL t;rw[if_neg (by simp[h1]),if_neg (by omega)]
  rw[if_neg (by simp[hv]),h2]
 .unfold ux;rw[List.isEmpty_iff,List.filter_eq_nil_iff];intro x hx;rcases h x hx with q|q<;>have:=q.1<;>simp<;>omega
 .rcases h x hx with q|q
  .exact q.2.2.2.2.2
  .have:=q.1;omega
theorem zj {t:Tm} (h:NG (E3 t)):NG t:=by
 obtain⟨k,nm,s,m,l⟩:=t;simp only[NG,E3,Tm.kind,Tm.sort,Tm.kids,Tm.name]at h ⊢;rw[kQ,E1,A0Y]at h;rcases h with ⟨q1,q2,q3,q4,q5,q6⟩|h
 .exact .inl ⟨q1,q2,q3,by simpa using q4,q5,q6⟩
 .exact .inr h
theorem Pg {t:Tm} (h:Hg (E3 t)):Hg t:=λx hx=>zj (h _ (by rw[Ux];exact A0V hx))
inductive Wt (ro:ByteArray->Prop) (ok:ByteArray->Int->Prop):Tm->Prop
 |atom (a:ByteArray) (s:Int) (h:ok a s):Wt ro ok (.mk 2 a s (false,false) [])
 |pair (x y:Tm) (hx:Wt ro ok x) (hy:Wt ro ok y):Wt ro ok (.mk 3 (bs [112,97,105,114]) 0 (false,false) [x,y])
 |enc (x y:Tm) (hx:Wt ro ok x) (hy:Wt ro ok y):Wt ro ok (.mk 3 (bs [101,110,99]) 0 (false,false) [x,y])
 |hash (x:Tm) (hx:Wt ro ok x):Wt ro ok (.mk 3 (bs [104,97,115,104]) 0 (false,false) [x])
 |aenc (x:Tm) (r:ByteArray) (hx:Wt ro ok x) (hr:ro r):Wt ro ok (.mk 3 (bs [97,101,110,99]) 0 (false,false) [x,gr r])
 |sign (x:Tm) (r:ByteArray) (hx:Wt ro ok x) (hr:ro r):Wt ro ok (.mk 3 (bs [115,105,103,110]) 0 (false,false) [x,po r])
 |pk (r:ByteArray) (hr:ro r):Wt ro ok (gr r)
 |shk (a b:ByteArray) (ha:ro a) (hb:ro b) (P6:a≠b):Wt ro ok (pn a b)
def Wv (a:ByteArray):Prop:=U6 a=true/\QH a (bs [101,35])=false
theorem Rz {a:J3} {s:Int} {m:I6} (h:Wv a) (h1:0<=s) (h2:s<=5):Hg (.mk 2 a s m []) :=
 kI (.inl ⟨rfl,h1,h2,rfl,h.1,h.2⟩) (λx hx=>nomatch hx)
theorem LR {nm:J3} {m:I6} {l:G6} (h:nm∈AR) (hf:Lp nm l.length=true) (ha:Yo nm l=0) (hl:∀x∈l,Hg x):Hg (.mk 3 nm 0 m l) :=
 kI (.inr ⟨rfl,rfl,h,hf,ha⟩) hl
theorem Uw {nm:J3} {l:G6} (h:nm≠bs [115,107]/\nm≠bs [115,104,107]/\nm≠bs [110,101,119]):Yo nm l=0:=by
 unfold Yo;rw[if_neg (by simp[h.1,h.2.1]),if_neg h.2.2]
theorem uR {P:Tm->Prop} {x:Tm} (h:P x):∀z∈[x],P z:=λz hz=>by rw[A0S.1 hz];exact h
theorem bE {P:Tm->Prop} {x y:Tm} (h:P x) (k:P y):∀z∈[x,y],P z:=λz hz=>by
 rcases A0U.1 hz with rfl|hz
 .exact h
 .rw[A0S.1 hz];exact k
theorem aq {a:J3} (h:Wv a):Hg (E3 (Hv a)):=Rz h (by omega) (by omega)
theorem aw {a:J3} (h:Wv a):Hg (po a) :=
 LR (l:=[E3 (Hv a)]) (by simp[AR]) rfl rfl λx hx=>by rw[A0S.1 hx];exact aq h
theorem ar {a:J3} (h:Wv a):Hg (gr a) :=
 LR (l:=[po a]) (by simp[AR]) rfl (Uw (by decide)) λx hx=>by rw[A0S.1 hx];exact aw h
theorem au {a b:J3} (h:Wv a) (h':Wv b):Hg (pn a b) :=
 LR (l:=[E3 (Hv a),E3 (Hv b)]) (by simp[AR]) rfl rfl λx hx=>by
  rcases A0U.1 hx with rfl|hx
  .exact aq h
  .rw[A0S.1 hx];exact aq h'
theorem Wt.allN {ro:ByteArray->Prop} {ok:ByteArray->Int->Prop} (hr:∀a,ro a->Wv a) (ho:∀a s,ok a s->Wv a/\0<=s/\s<=5) {t:Tm} (h:Wt ro ok t):Hg t:=by
 induction h with
 |atom a s h=>obtain⟨h1,h2,h3⟩:=ho a s h;exact Rz h1 h2 h3
 |pair x y _ _ ix iy=>exact LR (by simp[AR]) rfl (Uw (by decide)) (bE ix iy)
 |enc x y _ _ ix iy=>exact LR (by simp[AR]) rfl (Uw (by decide)) (bE ix iy)
 |hash x _ ix=>exact LR (by simp[AR]) rfl (Uw (by decide)) (uR ix)
 |aenc x r _ h ix=>exact LR (by simp[AR]) rfl (Uw (by decide)) (bE ix (ar (hr r h)))
 |sign x r _ h ix=>exact LR (by simp[AR]) rfl (Uw (by decide)) (bE ix (aw (hr r h)))
 |pk r h=>exact ar (hr r h)
 |shk a b h h' _=>exact au (hr a h) (hr b h')
theorem tC {a:J3} (h:Qd a=false):QH a (bs [101,35])=false:=by
 unfold QH;by_cases h1:(M1 a).take (bs [101,35]).size=M1 (bs [101,35])
 .exfalso
  have e1:M1 (bs [101,35])=[101,35]:=by decide
  have e2:(bs [101,35]).size=2:=by decide
  rw[e1,e2]at h1;unfold Qd at h;have hm:(35:UInt8)∈M1 a:=A0j (i:=2) (by rw[h1];simp);rw[List.contains_iff_mem.2 hm]at h;cases h
 .rw[show decide ((M1 a).take (bs [101,35]).size=M1 (bs [101,35]))=false from decide_eq_false h1,Bool.and_false]
theorem eP {a:J3} (h:P4 a=true):U6 a=true:=by
 unfold P4 at h;rw[A0P]at h;exact h.1
theorem TX {n:Nar} (h:KL n=0):(∀a∈n.roles,U6 a=true)/\(∀f∈n.fresh,U6 f.name=true/\2<=f.sort/\f.sort<=4)/\∀a∈n.tags,U6 a=true:=by
 unfold KL at h;split at h
 .omega
 .split at h
  .rename_i h1;exact absurd h h1
  .split at h
   .omega
   .rename_i h1;split at h
    .rename_i h2;exact absurd h h2
    .rename_i h2;split at h
     .omega
     .rename_i h3;have key:∀l:List ByteArray,¬l.any Ip=true->∀a∈l,U6 a=true:=λl hl a ha=>by
       refine eP ?_;cases hb:P4 a with
       |true=>rfl
       |false=>exact absurd (A0a.2 ⟨a,ha,by simp[Ip,hb]⟩) hl
      refine⟨key _ h1,λf hf=>?_,key _ h3⟩;have h4:D3 Lc n.fresh=0:=by
       apply Classical.byContradiction;exact h2
      have h5:=En h4 f hf;unfold Lc at h5;split at h5
      .omega
      .rename_i h6;split at h5
       .omega
       .exact⟨eP (by
         cases hb:P4 f.name with
         |true=>rfl
         |false=>exact absurd (.inr hb) h6),by omega,by omega⟩
theorem Xo {n:Nar} (h:Right n):∀a∈B5 n,Wv a:=λa ha=>by
 obtain⟨k1,k2,k3⟩:=TX (JD h.nar).1;refine⟨?_,tC ((Vq h.dec).2 a ha)⟩;unfold B5 at ha;rcases A0W.1 ha with ha|ha
 .rcases A0W.1 ha with ha|ha
  .exact k1 a ha
  .obtain⟨f,hf,rfl⟩:=A0Q.1 ha;exact(k2 f hf).1
 .exact k3 a ha
theorem tY {n:Nar} (h:Right n) (a:J3):0<=L3 (B5 n) (G8 n) a/\L3 (B5 n) (G8 n) a<=5:=by
 obtain⟨k1,k2,k3⟩:=TX (JD h.nar).1;unfold L3;split
 .rw[A0q];cases hx:(G8 n)[(idx (V9 a) (B5 n)).toNat]? with
  |none=>simp
  |some x =>
   have hm:=A00 hx;simp only[Option.getD_some];unfold G8 at hm;rcases A0W.1 hm with hm|hm
   .rcases A0W.1 hm with hm|hm
    .obtain⟨_,_,rfl⟩:=A0Q.1 hm;omega
    .obtain⟨f,hf,rfl⟩:=A0Q.1 hm;have:=(k2 f hf).2;omega
   .obtain⟨_,_,rfl⟩:=A0Q.1 hm;omega
 .omega
theorem Vj {α:Type} (p:α->Bool):∀(l l':List α) (i:Nat),l.any p=true->S9 p i (l++l')=S9 p i l
 | [],l',i,h=>by simp at h
 |a::l,l',i,h=>by
  rw[List.cons_append];unfold S9;by_cases hp:p a=true
  .rw[if_pos hp,if_pos hp]
  .rw[if_neg hp,if_neg hp];refine Vj p l l' _ ?_;rw[A05]at h;simpa[hp]using h
theorem pf {n:Nar} {a:J3} (h:a∈n.roles):L3 (B5 n) (G8 n) a=1:=by
 have h1:n.roles.any (V9 a)=true:=A0a.2 ⟨a,h,(IX a a).2 rfl⟩;have h2:(B5 n).any (V9 a)=true:=Vy n a h1;unfold L3;rw[if_pos h2];have e:idx (V9 a) (B5 n)=idx (V9 a) n.roles:=by
  unfold idx B5;rw[A0c];exact Vj _ _ _ _ h1
 have hge:=(Da (V9 a) n.roles 0).2 h1;have A7:=KU (V9 a) n.roles 0;rw[e];have hi:(idx (V9 a) n.roles).toNat<n.roles.length:=by unfold idx;omega
 rw[A0q];have:(G8 n)[(idx (V9 a) n.roles).toNat]?=some 1:=by
  unfold G8;rw[A0c,List.getElem?_append_left (by simpa using hi),List.getElem?_map,A0T hi];rfl
 rw[this];rfl
theorem Yc {rs:List ByteArray} {f:ByteArray->Int} (hf:∀a∈rs,f a=1) {t:Tm} (hn:I9 t=0) (h:Bu rs t=true):∃a∈rs,t.name=a/\CH f t=E3 (Hv a):=by
 obtain⟨k,nm,s,m,l⟩:=t;obtain⟨h1,_⟩:=Q2 hn;rw[Bu,A0P]at h;have hk:k=2:=of_decide_eq_true h.1;have hr:rs.any (V9 nm)=true:=h.2;obtain⟨a,ha,he⟩:=A0a.1 hr;rw[IX]at he;subst he;have hl:l=[]:=A0f ((Gm h1).2.1 (.inr hk));subst hl hk;refine⟨nm,ha,rfl,?_⟩;rw[CH,if_pos rfl,hf nm ha];rfl
theorem gT {rs:List ByteArray} {f:ByteArray->Int} (hf:∀a∈rs,f a=1) {t:Tm} (hn:I9 t=0) (h:CJ rs t=true):∃a∈rs,CH f t=po a:=by
 obtain⟨k,nm,s,m,l⟩:=t;obtain⟨h1,h2⟩:=Q2 hn;rw[CJ,A0P,s8,A0P,A0P]at h;obtain⟨⟨⟨hk0,hnm0⟩,hl0⟩,hff⟩:=h;have hk:k=3:=of_decide_eq_true hk0;have hnm:nm=bs [115,107]:=of_decide_eq_true hnm0;have hl:(l.length:Int)=1:=of_decide_eq_true hl0;clear hk0 hnm0 hl0
 replace hff:TW (Bu rs) l=true:=hff
 subst hk hnm
 replace hl:l.length=1:=by omega
 have hs:s=0:=by
  unfold r9 at h1;split at h1
  .omega
  .omega
 match l,hl,hff,h2 with
 | [a],_,hff,h2 =>
  obtain⟨r,hr,_,e⟩:=Yc hf (J9 h2 a (by simp)) hff;refine⟨r,hr,?_⟩;rw[CH,if_neg (by omega),m8,m8,e,hs];rfl
theorem gU {rs:List ByteArray} {f:ByteArray->Int} (hf:∀a∈rs,f a=1) {t:Tm} (hn:I9 t=0) (h:HU rs t=true):∃a∈rs,CH f t=gr a:=by
 obtain⟨k,nm,s,m,l⟩:=t;obtain⟨h1,h2⟩:=Q2 hn;rw[HU,A0P,s8,A0P,A0P]at h;obtain⟨⟨⟨hk0,hnm0⟩,hl0⟩,hff⟩:=h;have hk:k=3:=of_decide_eq_true hk0;have hnm:nm=bs [112,107]:=of_decide_eq_true hnm0;have hl:(l.length:Int)=1:=of_decide_eq_true hl0;clear hk0 hnm0 hl0
 replace hff:TW (CJ rs) l=true:=hff
 subst hk hnm
 replace hl:l.length=1:=by omega
 have hs:s=0:=by
  unfold r9 at h1;split at h1
  .omega
  .omega
 match l,hl,hff,h2 with
 | [a],_,hff,h2 =>
  obtain⟨r,hr,e⟩:=gT hf (J9 h2 a (by simp)) hff;refine⟨r,hr,?_⟩;rw[CH,if_neg (by omega),m8,m8,e,hs];rfl
theorem tE {k:Int} {nm:J3} {s:Int} {m:I6} {l:G6} (h:NJ (.mk k nm s m l)=0):k≠1/\s=0/\∀x∈l,NJ x=0:=by
 rw[NJ]at h;split at h
 .omega
 .rename_i h1;split at h
  .omega
  .refine⟨λe=>h1 (.inl e),by
    apply Classical.byContradiction;exact λe=>h1 (.inr e),?_⟩
   clear h1
   induction l with
   |nil=>exact λx hx=>nomatch hx
   |cons a l ih =>
    rw[NK]at h;by_cases ha:NJ a=0
    .rw[if_neg (by simp[ha])]at h;intro x hx;rcases A0U.1 hx with rfl|hx
     .exact ha
     .exact ih h x hx
    .rw[if_pos ha]at h;exact absurd h ha
def atN (n:Nar) (a:ByteArray) (s:Int):Prop:=a∈B5 n/\s=L3 (B5 n) (G8 n) a
theorem zn {n:Nar}:∀(N:Nat) (t:Tm),t.size<=N->I9 t=0->NJ t=0->x8 (B5 n) n.roles t=0->Wt (·∈n.roles) (atN n) (CH (L3 (B5 n) (G8 n)) t):=by
 have hf:∀a∈n.roles,L3 (B5 n) (G8 n) a=1:=λa ha=>pf ha;intro N
 induction N with
 |zero=>intro t h;have:=t.size_pos;omega
 |succ N ih =>
  intro t hn P6 hraw hs;obtain⟨k,nm,s,m,l⟩:=t;have J5:Tm.size (.mk k nm s m l)=1+Tm.sizes l:=rfl;obtain⟨h1,h2⟩:=Q2 P6;obtain⟨w1,w2,w3⟩:=tE hraw;subst w2;have one:∀t∈l,x8 (B5 n) n.roles t=0->Wt (·∈n.roles) (atN n) (CH (L3 (B5 n) (G8 n)) t):=λt ht h0=>ih t (by have:=Tm.size_le ht;omega) (J9 h2 t ht) (w3 t ht) h0;have nk:=λt (ht:t∈l)=>J9 h2 t ht;by_cases hk:k=3
  .subst hk;rw[CH,if_neg (by omega)];rw[SZ]at hs;simp only[Tm.kind,ne_eq,not_true,if_false]at hs;split at hs
   .omega
   .rename_i hkd;have t6:=En hs;rw[lA]at t6 hkd;simp only[Tm.kids]at t6;by_cases c1:nm=bs [112,97,105,114]/\(l.length:Int)=2\/nm=bs [101,110,99]/\(l.length:Int)=2
    .rw[if_pos c1]at t6;have hl:l.length=2:=by omega
     match l,hl,t6,one with
     | [a,b],_,t6,one =>
      have ha:=one a (by simp) (t6 a (by simp));have hb:=one b (by simp) (t6 b (by simp));rw[m8,m8,m8];rcases c1 with ⟨rfl,_⟩|⟨rfl,_⟩
      .exact .pair _ _ ha hb
      .exact .enc _ _ ha hb
    .rw[if_neg c1]at t6 hkd;by_cases c2:nm=bs [104,97,115,104]/\(l.length:Int)=1
     .rw[if_pos c2]at t6;have hl:l.length=1:=by omega
      match l,hl,t6,one with
      | [a],_,t6,one =>
       obtain⟨rfl,_⟩:=c2;exact .hash _ (one a (by simp) (t6 a (by simp)))
     .rw[if_neg c2]at t6 hkd;by_cases c3:(nm=bs [97,101,110,99]/\(l.length:Int)=2)/\QL (HU n.roles) l=true\/(nm=bs [115,105,103,110]/\(l.length:Int)=2)/\QL (CJ n.roles) l=true
      .rw[if_pos c3]at t6;have hl:l.length=2:=by omega
       match l,hl,t6,one,c3,nk with
       | [a,b],_,t6,one,c3,nk =>
        have ha:=one a (by simp) (t6 a (by simp));rw[m8,m8,m8];rcases c3 with ⟨⟨rfl,_⟩,hb⟩|⟨⟨rfl,_⟩,hb⟩
        .obtain⟨r,hr,e⟩:=gU hf (nk b (by simp)) hb;rw[e];exact .aenc _ r ha hr
        .obtain⟨r,hr,e⟩:=gT hf (nk b (by simp)) hb;rw[e];exact .sign _ r ha hr
      .rw[if_neg c3]at t6 hkd;by_cases c4:HU n.roles (.mk 3 nm 0 m l)=true\/VS n.roles (.mk 3 nm 0 m l)=true
       .rcases c4 with c4|c4
        .obtain⟨r,hr,e⟩:=gU hf P6 c4;rw[CH,if_neg (by omega)]at e;rw[e];exact .pk r hr
        .rw[VS,A0P,A0P,A0P,iF]at c4;obtain⟨⟨⟨⟨rfl,hl⟩,ha⟩,hb⟩,hd⟩:=c4
         replace ha:TW (Bu n.roles) l=true:=ha
         replace hb:QL (Bu n.roles) l=true:=hb
         replace hd:uf l=true:=hd
         have hl:l.length=2:=by omega
         match l,hl,ha,hb,nk,hd with
         | [a,b],_,ha,hb,nk,hd =>
          obtain⟨r,hr,e1,e⟩:=Yc hf (nk a (by simp)) ha;obtain⟨r',hr',e1',e'⟩:=Yc hf (nk b (by simp)) hb;rw[m8,m8,m8,e,e'];refine .shk r r' hr hr' λhe=>?_;have:a.name≠b.name:=of_decide_eq_true hd;exact this (by rw[e1,e1',he])
       .rw[if_neg c4]at hkd;omega
  .have hb:=(Gm h1);have hk2:k=2:=by rcases hb.2.2.1 with h|h|h<;>omega
   subst hk2;have hl:l=[]:=A0f (hb.2.1 (.inr rfl));subst hl;rw[SZ]at hs;simp only[Tm.kind,ne_eq,hk,not_false_eq_true,if_true,Tm.name]at hs;by_cases h:(B5 n).any (V9 nm)=true
   .obtain⟨a,ha,he⟩:=A0a.1 h;rw[IX]at he;subst he;rw[CH,if_pos rfl];exact .atom nm _ ⟨ha,rfl⟩
   .replace hs:(if (B5 n).any (V9 nm)=true then (0:Int)else 13)=0:=hs
    rw[if_neg h]at hs;omega
theorem vN {t:Tm} (h:GU t=0):NJ t=0:=by
 have h1:Lj t=0:=by
  apply Classical.byContradiction;intro hc;unfold GU at h;rw[if_pos hc]at h;exact hc h
 unfold Lj at h1;have hv:R6 t=0:=by
  apply Classical.byContradiction;intro hc;rw[if_pos hc]at h1;exact hc h1
 rw[if_neg (by simp[hv])]at h1;exact h1
theorem Right.role_ok {n:Nar} (h:Right n):∀a,a∈n.roles->Wv a:=λa ha=>Xo h a (by unfold B5;simp[ha])
theorem Right.at_ok {n:Nar} (h:Right n):∀a s,atN n a s->Wv a/\0<=s/\s<=5:=λa s ha=>by
 obtain⟨h1,rfl⟩:=ha;exact⟨Xo h a h1,tY h a⟩
theorem Right.msg {n:Nar} (h:Right n) {s:Ste} (hs:s∈n.steps):Wt (·∈n.roles) (atN n) (CH (L3 (B5 n) (G8 n)) s.msg)/\s.msg.size<=40:=by
 have h1:=Sc ((JD h.nar).2.1 s hs);exact⟨zn _ _ (A0Z _) (KX h1) (vN h1) (gN (h.steps s hs)),Xj h1⟩
end Go.Abs.Q
namespace Go.Abs.Q
open Go.Proofs
attribute [local simp] E6 E7 fin K1 H4 P2 L5 R0 Q9
open Classical in
noncomputable def dq (k:List Tm) (t:Tm):Nat:=if h:∃U,L0 U (alls (k++[t]))then h.choose.length else 0
theorem mA {U U' l l':G6} (h:L0 U l) (h':L0 U' l') (e:∀e,e∈l.map E3↔e∈l'.map E3):U.length=U'.length:=by
 have:=Ww h h' e;rw[E1,E1]at this;simpa using congrArg A0o this
theorem WV {k:G6} {t:Tm} {U:G6} (h:L0 U (alls (k++[t]))):dq k t=U.length:=by
 unfold dq;rw[dif_pos ⟨U,h⟩];exact mA (l:=alls (k++[t])) (l':=alls (k++[t])) (Exists.choose_spec (⟨U,h⟩:∃U,L0 U (alls (k++[t])))) h λ_=>Iff.rfl
theorem LU {l l':G6} (h:l.map E3=l'.map E3):(alls l).map E3=(alls l').map E3:=by
 rw[←WT,←WT,E1,E1,h]
theorem kh {k k':G6} {t t':Tm} (h:k.map E3=k'.map E3) (ht:E3 t=E3 t'):(k++[t]).map E3=(k'++[t']).map E3:=by
 rw[A0R,A0R,h,A0O,A0O,ht,A0g]
theorem Mf {U l l':G6} (h:L0 U l) (e:l.map E3=l'.map E3):L0 U l':=⟨h.1,λx=>by rw[←e];exact h.2 x⟩
theorem uZ {k k':G6} {t t':Tm} (h:k.map E3=k'.map E3) (ht:E3 t=E3 t'):dq k t=dq k' t':=by
 have e:=LU (kh h ht);have hiff:(∃U,L0 U (alls (k++[t])))↔∃U,L0 U (alls (k'++[t'])):=⟨λ⟨U,hU⟩=>⟨U,Mf hU e⟩,λ⟨U,hU⟩=>⟨U,Mf hU e.symm⟩⟩;by_cases hx:∃U,L0 U (alls (k++[t]))
 .obtain⟨U,hU⟩:=hx;rw[WV hU,WV (Mf hU e)]
 .unfold dq;rw[dif_neg hx,dif_neg λh=>hx (hiff.2 h)]
theorem kJ {k k':G6} {t t':Tm} (h:k.map E3=k'.map E3) (ht:E3 t=E3 t'):Tp k t↔Tp k' t':=by
 have e:=LU (kh h ht);unfold Tp;rw[ht];exact⟨PJ (λx hx=>by rw[←h];exact hx) (λx hx=>by rw[←e];exact hx),PJ (λx hx=>by rw[h];exact hx) (λx hx=>by rw[e];exact hx)⟩
open Classical in
noncomputable def T1 (k:List Tm) (t:Tm):Int×Bool:=if 60<k.length\/200<dq k t then (3,false)else (0,decide (Tp k t))
theorem SH {k k':G6} {t t':Tm} (h:k.map E3=k'.map E3) (ht:E3 t=E3 t'):T1 k t=T1 k' t':=by
 have hl:k.length=k'.length:=by simpa using congrArg A0o h
 have e2:(@decide (Tp k t) (Classical.propDecidable _))=@decide (Tp k' t') (Classical.propDecidable _):=by
  by_cases hd:Tp k t
  .rw[@decide_eq_true _ (Classical.propDecidable _) hd,@decide_eq_true _ (Classical.propDecidable _) ((kJ h ht).1 hd)]
  .rw[@decide_eq_false _ (Classical.propDecidable _) hd,@decide_eq_false _ (Classical.propDecidable _) λk=>hd ((kJ h ht).2 k)]
 unfold T1;rw[hl,uZ h ht,e2]
theorem cG (m:I6) (k:G6) (t:Tm) (hk:∀x∈k,GoodT x) (ht:GoodT t) (CI:k.length<=1048576) :
  pc Q R5 [sl m 4 (A4 k),B8 t]=some (.tup [.bool (T1 k t).2,.int .i64 (T1 k t).1]):=by
 obtain⟨U,h1,h2⟩:=cH m k t hk ht CI;rw[h1];unfold xQ T1;by_cases hc:k.length<=60
 .rw[WV (h2 hc)];split<;>rfl
 .rw[if_pos (.inl (by omega)),if_pos (.inl (by omega))]
open Classical in
theorem mU {k:G6} {t:Tm} (h:(T1 k t).2=true):(T1 k t).1=0/\Tp k t:=by
 unfold T1 at h ⊢;split at h
 .cases h
 .rename_i hc;rw[if_neg hc];exact⟨rfl,of_decide_eq_true h⟩
theorem UG {m:I6} {r n:Nar} (hR:Right n) (he:Ql r=CN (L3 (B5 n) (G8 n)) n) {me:J3} (hme:me∈n.roles) {role q:Nat} {x:Tm} (h:x∈Ss m r n me role q):Hg x/\x.size<=40:=by
 obtain⟨e2,e3,e5⟩:=JT he;have ro:=hR.role_ok;rcases vF h with rfl|⟨a,ha,rfl⟩|h|h|⟨s,h1,_,rfl⟩
 .exact⟨Pg (aw (ro me hme)),by rw[(Mi m me me).1];omega⟩
 .exact⟨Pg (ar (ro a (by rw[←e2];exact ha))),by rw[(Mi m a me).2.1];omega⟩
 .refine⟨?_,by rw[Re _ _ _ _ _ _ h];omega⟩;obtain⟨j,r',-,-,hj,h4⟩:=Wn (A0V (f:=E3) h);have hr':r'∈n.roles:=by rw[←e2];exact A00 hj
  refine Pg ?_;rcases h4 with h4|h4<;>rw[h4]
  .exact au (ro me hme) (ro r' hr')
  .exact au (ro r' hr') (ro me hme)
 .refine⟨?_,by rw[PR h];omega⟩;unfold Hz at h;rw[A0Q]at h;obtain⟨f,hf,rfl⟩:=h;have hf':=(A04.1 hf).1;obtain⟨-,k2,-⟩:=TX (JD hR.nar).1;have:=k2 f hf';exact Rz (Xo hR f.name (by unfold B5;simp only[A0W,A0Q];exact .inl (.inr ⟨f,hf',rfl⟩))) (by omega) (by omega)
 .refine⟨?_,Xk hR.nar he s h1⟩;have hm:Ns s∈n.steps.map (Dh (L3 (B5 n) (G8 n))):=by rw[←(s9 he).2.2.2.2.1];exact A0V h1
  obtain⟨s',hs',e⟩:=A0Q.1 hm;unfold Ns Dh at e;injection e with _ _ e _
  refine Pg ?_;rw[←e];exact(hR.msg hs').1.allN hR.role_ok hR.at_ok
theorem Xi {r n:Nar} (hR:Right n) (he:Ql r=CN (L3 (B5 n) (G8 n)) n) {s:Ste} (hs:s∈r.steps):Hg s.msg/\s.msg.size<=40:=by
 refine⟨?_,Xk hR.nar he s hs⟩;have hm:Ns s∈n.steps.map (Dh (L3 (B5 n) (G8 n))):=by rw[←(s9 he).2.2.2.2.1];exact A0V hs
 obtain⟨s',hs',e⟩:=A0Q.1 hm;unfold Ns Dh at e;injection e with _ _ e _
 refine Pg ?_;rw[←e];exact(hR.msg hs').1.allN hR.role_ok hR.at_ok
theorem qS:∀(N:Nat) (t:Tm),t.size<=N->∀x∈Cv t,x.size<=t.size:=by
 intro N
 induction N with
 |zero=>intro t h;have:=t.size_pos;omega
 |succ N ih =>
  intro t h x hx;have J5:=t.kids_size;rw[AF,G2]at hx;rcases A0U.1 hx with rfl|hx
  .exact A0Z _
  .obtain⟨y,hy,hx⟩:=A0i.1 hx;have:=Tm.size_le hy;have:=ih y (by omega) x hx;omega
theorem ZV:∀(N:Nat) (t:Tm),t.size<=N->∀x∈Cv t,∀y∈Cv x,y∈Cv t:=by
 intro N
 induction N with
 |zero=>intro t h;have:=t.size_pos;omega
 |succ N ih =>
  intro t h x hx y hy;have J5:=t.kids_size;rw[AF,G2]at hx;rcases A0U.1 hx with rfl|hx
  .exact hy
  .obtain⟨z,hz,hx⟩:=A0i.1 hx;rw[AF,G2];refine A0X _ (A0i.2 ⟨z,hz,?_⟩);have:=Tm.size_le hz;exact ih z (by omega) x hx y hy
theorem tf {R:G6} {t:Tm} (h:L0 R (alls [t])) (hN:Hg t) (hs:t.size<=40):∀x∈R,Hg x/\x.size<=40:=λx hx=>by
 obtain⟨y,hy,e⟩:=Us h hx;rw[alls,alls,A0n]at hy;have h1:Hg y:=λz hz=>hN z (ZV _ t (A0Z _) y hy z hz);have h2:=qS _ t (A0Z _) y hy;refine⟨Pg ?_,?_⟩
 .rw[←e];intro z hz;rw[Ux]at hz;obtain⟨w,hw,rfl⟩:=A0Q.1 hz;have:=h1 w hw;obtain⟨k,nm,s,m,l⟩:=w;simp only[NG,E3,Tm.kind,Tm.sort,Tm.kids,Tm.name]at this ⊢;rw[kQ,E1,A0Y];rcases this with ⟨q1,q2,q3,q4,q5,q6⟩|h
  .exact .inl ⟨q1,q2,q3,by simp[q4],q5,q6⟩
  .exact .inr h
 .have h3:x.size=y.size:=by rw[←HI _ x (A0Z _),←e,HI _ y (A0Z _)]
  omega
theorem fw (r n:Nar) (hl:r.roles.length<=1000) (a:J3):pc Q GR [HV r n,.str a]=some (.int .i64 (idx (V9 a) r.roles)):=by
 have hI:=Vr r.rm r.roles a (by omega);simp only[DL]at hI;have sb:=DJ r n;refine M9 KD λfr hl h0 h1=>?_;simp[KD]at hl h0 h1;simp[KD,hl,h0,h1,sb,hI]
def Oj (rs:List ByteArray) (a:ByteArray):Nat:=(idx (V9 a) rs).toNat
theorem Ra {rs:List ByteArray} {a:J3} (h:a∈rs):rs[Oj rs a]?=some a/\idx (V9 a) rs=((Oj rs a:Nat):Int):=by
 have h1:rs.any (V9 a)=true:=A0a.2 ⟨a,h,(IX a a).2 rfl⟩;have hge:=(Da (V9 a) rs 0).2 h1;have A7:=KU (V9 a) rs 0;have key:∀(l:List ByteArray) (i:Nat),l.any (V9 a)=true->∃j:Nat,S9 (V9 a) i l=((i+j:Nat):Int)/\l[j]?=some a:=by
  intro l
  induction l with
  |nil=>intro i h;simp at h
  |cons b l ih =>
   intro i h;unfold S9;by_cases hb:V9 a b=true
   .rw[if_pos hb];exact⟨0,by simp,by rw[(IX a b).1 hb];rfl⟩
   .rw[if_neg hb];rw[A05]at h;obtain⟨j,j1,j2⟩:=ih (i+1) (by simpa[hb]using h);exact⟨j+1,by rw[j1];congr 1;omega,by simpa using j2⟩
 obtain⟨j,j1,j2⟩:=key rs 0 h1;rw[Nat.zero_add]at j1;have e:Oj rs a=j:=by unfold Oj idx;rw[j1];rfl
 exact⟨by rw[e];exact j2,by rw[e];exact j1⟩
theorem NN {ns rs:List ByteArray} {s:Ste} (h:Gq ns rs s=0):s.frm∈rs/\s.to∈rs/\s.frm≠s.to:=by
 have h1:NR rs s.frm s.to=0:=by
  unfold Gq at h;apply Classical.byContradiction;intro hc;rw[if_pos hc]at h;exact hc h
 unfold NR at h1;split at h1
 .rename_i h2;split at h1
  .omega
  .rename_i h3;obtain⟨q1,q2⟩:=h2;obtain⟨a,ha,ea⟩:=A0a.1 q1;obtain⟨b,hb,eb⟩:=A0a.1 q2;rw[IX]at ea eb;exact⟨ea ▸ ha,eb ▸ hb,h3⟩
 .omega
end Go.Abs.Q
namespace Go.Abs.Q
open Go.Proofs
attribute [local simp] E6 E7 fin K1 H4 P2 L5 R0 Q9
def gu:Tm:=.mk 0 (bs []) 0 (true,false) []
noncomputable def Nw (k:List Tm) (i:Int):List Tm->Option (Int×Tm×Int)
 | []=>none
 |t::l=>if (T1 k t).1≠0 then some (0,gu,(T1 k t).1)else if (T1 k t).2=true then Nw k i l else some (i,t,13)
def bS (x:Int×Tm×Int):Int×Tm×Int:=(x.1,E3 x.2.1,x.2.2)
theorem Wp {k k':G6} (h:k.map E3=k'.map E3) (i:Int):∀{l l':G6},l.map E3=l'.map E3->(Nw k i l).map bS=(Nw k' i l').map bS
 | [],[],_=>rfl
 | [],_::_,e=>by simp at e
 |_::_,[],e=>by simp at e
 |t::l,t'::l',e=>by
  rw[A0O,A0O,List.cons.injEq]at e;have hd:=SH h e.1;rw[Nw,Nw,hd];split
  .rfl
  .split
   .exact Wp h i e.2
   .simp only[Option.map_some,bS,e.1]
theorem rU (R kk:G6) (mr mk:I6) (B9:R.length<=1000) (hR:∀x∈R,GoodT x/\x.size<=1000) (hk:∀x∈kk,GoodT x) (CI:kk.length<=10000) (q:Int) (C0 Z SC:G4) (hZ:Z.length=4) (hZm:Es Z=false) (fr:Fr) (h:AH) (B0:List (List AV)) (hB0:h.boxes=C0::Z::SC::B0) (hl:fr.length=83) (h3:A0 fr 3=.ptr 1 0) (h7:A0 fr 7=.int .i64 q) (h9:A0 fr 9=sl mk 4 (A4 kk)) (h56:A0 fr 56=sl mr 4 (A4 R)) (h57:A0 fr 57=.int .i64 R.length) (h58:A0 fr 58=.int .i64 0) :
  B7 (lp (A2 (K8 Q) (D6 j7) W2) (fr,h)) λe C3 h'=>Kp W2.wr fr C3/\((e=.exit 2/\Nw kk q R=none/\∃B,h'.boxes=C0::Z::SC::B)\/(e=.ret/\∃(a c:Int) (t t':Tm),Nw kk q R=some (a,t',c)/\E3 t=E3 t'/\A0 C3 2=.int .i64 a/\A0 C3 4=.int .i64 c/\∃B,h'.boxes=C0::(B8 t).cells::SC::B)):=by
 refine B4 rfl fr (λn fr h'=>∃(i:Nat),i+n=R.length/\A0 fr 58=.int .i64 (i:Nat)/\(∃B,h'.boxes=C0::Z::SC::B)/\Nw kk q (R.drop i)=Nw kk q R) ?_ R.length h ⟨0,by omega,h58,⟨_,hB0⟩,rfl⟩;rintro J Φ hJ hΦ n D5 H1 K ⟨i,hi,k58,hr⟩;have A6:=K.1.trans hl;have k3:=A8 K 3 h3;have k7:=A8 K 7 h7;have k9:=A8 K 9 h9;have k56:=A8 K 56 h56;have k57:=A8 K 57 h57;clear K;by_cases A7:i<R.length
 .have L4:=C6 i (by omega);obtain⟨⟨B,hB⟩,hr⟩:=hr;obtain⟨bx,fams⟩:=H1;simp only at hB;subst hB;have hx:=I0 A7;have hZd:Z.drop 4=[]:=A0d (by omega);rw[A0s A7,Nw]at hr;obtain⟨hg,J5⟩:=hR _ (A0l A7);generalize R[i]=t at *
  have hD:=cG mk kk t hk hg (by omega);generalize hd:T1 kk t=d at *
  obtain⟨de,db⟩:=d;simp only at hD hr;by_cases hde:de=0
  .subst hde;rw[if_neg (by simp)]at hr;cases db with
   |true =>
    simp only[if_true]at hr;simp[W2,A6,k9,k56,k57,k58,A7,L4,hx,hD];exact G0 hJ ⟨i+1,by omega,by simp[A6],⟨_,rfl⟩,hr⟩
   |false =>
    simp only[A0p,if_false]at hr;obtain⟨m',l',hC,hCe⟩:=aL _ (true,true) [t] (A0Z _) (by simp only[Tm.sizes];omega);rw[show A4 [t]=[B8 t] from rfl]at hC;have CK:l'.length=1:=by
     have:=congrArg A0o hCe;rw[E1,E1,A0Y,A0Y]at this;simpa using this
    obtain⟨t2,rfl⟩:∃t2,l'=[t2]:=by
     match l',CK with
     | [t2],_=>exact⟨t2,rfl⟩
    have he2:E3 t2=E3 t:=by
     rw[E1,E1]at hCe;simpa using hCe
    rw[show A4 [t2]=[B8 t2] from rfl]at hC;simp[W2,A6,k3,k7,k9,k56,k57,k58,A7,hx,hD,A5,hC,hZ,hZm,M5];exact hΦ _ _ _ (.inr ⟨rfl,q,13,t2,t,hr.symm,he2,by simp[A6],by simp[A6],B++[(B8 t).cells],by simp[hZd]⟩)
  .rw[if_pos hde]at hr;simp[W2,A6,k3,k9,k56,k57,k58,A7,hx,hD,hde,D2,E4,hZ,hZm,M5];refine hΦ _ _ _ (.inr ⟨rfl,0,de,gu,gu,hr.symm,rfl,by simp[A6],by simp[A6],B++[(B8 t).cells],?_⟩);simp[gu,Tm.kind,Tm.name,Tm.sort,Tm.cm,Tm.kids,A4,hZd];exact In 4
 .obtain⟨⟨B,hB⟩,hr⟩:=hr;rw[A0d (by omega),Nw]at hr;simp[W2,A6,k57,k58,A7];exact hΦ _ _ _ (.inl ⟨rfl,hr.symm,B,hB⟩)
open Classical in
noncomputable def Ud (t:Tm):List Tm:=if h:∃R,L0 R (alls [t])then h.choose else []
theorem Wo {t t':Tm} {R:G6} (h:L0 R (alls [t])) (e:E3 t=E3 t'):R.map E3=(Ud t').map E3:=by
 have hx:∃R,L0 R (alls [t']):=⟨R,Mf h (LU (by simp[e]))⟩;unfold Ud;rw[dif_pos hx];have:=Ww (Mf h (LU (l:=[t]) (l':=[t']) (by simp[e]))) hx.choose_spec λ_=>Iff.rfl
 rwa [E1,E1]at this
noncomputable def Ys (kf:ByteArray->Nat->List Tm):Nat->List Ste->Int×Tm×Int
 |_,[]=>(0,gu,0)
 |i,s::l=>if (T1 (kf s.frm i) s.msg).1≠0 then (0,gu,(T1 (kf s.frm i) s.msg).1)else if (T1 (kf s.frm i) s.msg).2=true then Ys kf (i+1) l else
  match Nw (kf s.frm i) i (Ud s.msg)with
  |some x=>x
  |none=>Ys kf (i+1) l
theorem qn {kf kf':ByteArray->Nat->List Tm}:∀{l l':List Ste} (i:Nat),(∀s∈l,∀j,j<i+l.length->(kf s.frm j).map E3=(kf' s.frm j).map E3)->l.map Ns=l'.map Ns->bS (Ys kf i l)=bS (Ys kf' i l')
 | [],[],i,_,_=>rfl
 | [],_::_,i,_,e=>by simp at e
 |_::_,[],i,_,e=>by simp at e
 |s::l,s'::l',i,hk,e=>by
  rw[A0O,A0O,List.cons.injEq]at e;obtain⟨e1,e2⟩:=e;unfold Ns at e1;injection e1 with a1 a2 a3 a4
  have hki:=hk s A0b i (by simp);have ih:=qn (kf:=kf) (kf':=kf') (l:=l) (l':=l') (i+1) (λx hx j hj=>hk x (A0X _ hx) j (by simp;omega)) e2;have hd:=SH hki a3;have hsub:(Ud s.msg).map E3=(Ud s'.msg).map E3:=by
   by_cases hx:∃R,L0 R (alls [s.msg])
   .obtain⟨R,hR⟩:=hx;rw[←Wo hR rfl,Wo hR a3]
   .have hx':¬ ∃R,L0 R (alls [s'.msg]):=λ⟨R,hR⟩=>hx ⟨R,Mf hR (LU (by simp[a3]))⟩;unfold Ud;rw[dif_neg hx,dif_neg hx']
  have hs:=Wp hki (i:Int) hsub;rw[Ys,Ys,←a1,hd];split
  .rfl
  .split
   .exact ih
   .generalize Nw (kf s.frm i) i (Ud s.msg)=o1 at hs;generalize Nw (kf' s.frm i) i (Ud s'.msg)=o2 at hs;cases o1 with
    |none =>
     cases o2 with
     |none=>exact ih
     |some y=>simp at hs
    |some x =>
     cases o2 with
     |none=>simp at hs
     |some y=>simpa using hs
theorem rV (r na:Nar) (F:Fine na) (S:Lens na) (hz:(l8 na).2=0) (hR:Right na) (he:Ql r=CN (L3 (B5 na) (G8 na)) na) (C0 Z:G4) (hZ:Z.length=4) (hZm:Es Z=false) (hstl:r.steps.length<=1000) (fr:Fr) (h:AH) (B0:List (List AV)) (hB0:h.boxes=C0::Z::(HV r na).cells::B0) (hl:fr.length=83) (h3:A0 fr 3=.ptr 1 0) (h5:A0 fr 5=.ptr 2 0) (h27:A0 fr 27=sl r.sm 7 (r.steps.map El)) (h28:A0 fr 28=.int .i64 r.steps.length) (h29:A0 fr 29=.int .i64 0) :
  B7 (lp (A2 (K8 Q) (D6 j7) W3) (fr,h)) λe C3 h'=>Kp W3.wr fr C3/\((e=.exit 0/\Ys (λme i=>Ss (true,true) r na me (Oj r.roles me) i) 0 r.steps=(0,gu,0)/\∃B,h'.boxes=C0::Z::(HV r na).cells::B)\/(e=.ret/\∃(x:Int×Tm×Int) (t:Tm),bS (Ys (λme i=>Ss (true,true) r na me (Oj r.roles me) i) 0 r.steps)=bS x/\E3 t=E3 x.2.1/\A0 C3 2=.int .i64 x.1/\A0 C3 4=.int .i64 x.2.2/\∃B,h'.boxes=C0::(B8 t).cells::(HV r na).cells::B)):=by
 refine B4 rfl fr (λn fr h'=>∃(i:Nat),i+n=r.steps.length/\A0 fr 29=.int .i64 (i:Nat)/\(∃B,h'.boxes=C0::Z::(HV r na).cells::B)/\Ys (λme i=>Ss (true,true) r na me (Oj r.roles me) i) i (r.steps.drop i)=Ys (λme i=>Ss (true,true) r na me (Oj r.roles me) i) 0 r.steps) ?_ r.steps.length h ⟨0,by omega,h29,⟨_,hB0⟩,rfl⟩;rintro J Φ hJ hΦ n D5 H1 K ⟨i,hi,k29,hr⟩;have A6:=K.1.trans hl;have k3:=A8 K 3 h3;have k5:=A8 K 5 h5;have k27:=A8 K 27 h27;have k28:=A8 K 28 h28;clear K;by_cases A7:i<r.steps.length
 .have L4:=C6 i (by omega);obtain⟨⟨B,hB⟩,hr⟩:=hr;obtain⟨bx,fams⟩:=H1;simp only at hB;subst hB;have sb:=DJ r na;have hx:=G1 (f:=El) (A0T A7);have Ii:=A0l A7;rw[A0s A7,Ys]at hr;obtain⟨hmA,hmS⟩:=Xi hR he Ii;obtain⟨hsm,-⟩:=Mc hR.nar he;obtain⟨e2,e3,e5⟩:=JT he;have hrl:=hsm.roles;have hfr:r.steps[i].frm∈r.roles:=by
   have hm:Ns r.steps[i]∈na.steps.map (Dh (L3 (B5 na) (G8 na))):=by rw[←(s9 he).2.2.2.2.1];exact A0V Ii
   obtain⟨s',hs',e⟩:=A0Q.1 hm;unfold Ns Dh at e;injection e with e _ _ _
   rw[←e,e2];exact(NN (hR.steps s' hs')).1
  generalize r.steps[i]=s at *
  obtain⟨x1,x2⟩:=Ra hfr;have hrole:=fw r na hrl s.frm;rw[x2]at hrole;obtain⟨mk,hK⟩:=YB r na F S hz hsm e2 (Oj r.roles s.frm) s.frm x1 i (by omega);have FT:∀x∈Ss (true,true) r na s.frm (Oj r.roles s.frm) i,GoodT x:=λx hx=>by
   obtain⟨h1,h2⟩:=UG hR he (by rw[←e2];exact hfr) hx;exact h1.good h2
  have CI:=We (m:=(true,true)) (me:=s.frm) (role:=Oj r.roles s.frm) (q:=i) hsm;generalize Tn:Ss (true,true) r na s.frm (Oj r.roles s.frm) i=kk at *
  have hD:=cG mk kk s.msg FT (hmA.good hmS) (by omega);obtain⟨R,mr,hSub,hSet,hRl⟩:=Vs (true,true) [s.msg] (by simp only[Tm.sizes];omega);rw[show A4 [s.msg]=[B8 s.msg] from rfl]at hSub;simp only[Tm.sizes]at hRl;have hRg:=tf hSet hmA hmS;have hse:=Wp (k:=kk) (k':=kk) rfl (i:Int) (Wo hSet rfl);generalize hd:T1 kk s.msg=d at *
  obtain⟨de,db⟩:=d;simp only at hD hr;by_cases hde:de=0
  .subst hde;rw[if_neg (by simp)]at hr;cases db with
   |true =>
    simp only[if_true]at hr;simp[W3,A6,k5,k27,k28,k29,A7,L4,sb,hx,hrole,hK,hD];exact G0 hJ ⟨i+1,by omega,by simp[A6],⟨B++[(El s).cells],by rw[sb];simp⟩,hr⟩
   |false =>
    simp only[A0p,if_false]at hr;simp[W3,A6,k5,k27,k28,k29,A7,sb,hx,hrole,hK,hD,A5,hSub];refine B7.mono (rU R kk mr mk (by omega) (λx hx=>by obtain⟨h1,h2⟩:=hRg x hx;exact⟨h1.good h2,by omega⟩) FT CI (i:Int) C0 Z (HV r na).cells hZ hZm _ _ (B++[(El s).cells]) ?_ ?_ ?_ ?_ ?_ ?_ ?_ ?_) ?_<;>first|(simp[A6,k3,sb];done)|skip
    rintro e R3 ⟨bx2,F2⟩ ⟨K,⟨rfl,hn,B2,hB2⟩|⟨rfl,a,c,t,t',hso,het,l2,l4,B2,hB2⟩⟩
    .simp only at hB2;subst hB2;have CK:R3.length=83:=K.1.trans (by simp[A6]);have k29':A0 R3 29=.int .i64 (i:Nat):=A8 K 29 (by simp[k29]);have k3':A0 R3 3=.ptr 1 0:=A8 K 3 (by simp[k3]);have k5':A0 R3 5=.ptr 2 0:=A8 K 5 (by simp[k5]);have k27':=A8 K 27 (by simp[k27]:_=sl r.sm 7 (r.steps.map El));have k28':=A8 K 28 (by simp[k28]:_=AV.int .i64 r.steps.length);clear K;rw[hn]at hse;have hnone:Nw kk (i:Int) (Ud s.msg)=none:=by
      cases hq:Nw kk (i:Int) (Ud s.msg)with
      |none=>rfl
      |some x=>rw[hq]at hse;simp at hse
     rw[hnone]at hr;simp only at hr;simp[CK,k29',L4];exact G0 hJ ⟨i+1,by omega,by simp[CK],⟨B2,rfl⟩,hr⟩
    .simp only at hB2;subst hB2;rw[hso]at hse;obtain⟨y,hy,hye⟩:∃y,Nw kk (i:Int) (Ud s.msg)=some y/\bS (a,t',c)=bS y:=by
      cases hq:Nw kk (i:Int) (Ud s.msg)with
      |none=>rw[hq]at hse;simp at hse
      |some y=>rw[hq]at hse;exact⟨y,rfl,by simpa using hse⟩
     rw[hy]at hr;simp only at hr;simp;exact hΦ _ _ _ (.inr ⟨rfl,(a,t',c),t,by rw[←hr,hye],het,l2,l4,B2,by simp⟩)
  .rw[if_pos hde]at hr;have hZd:Z.drop 4=[]:=A0d (by omega);simp[W3,A6,k3,k5,k27,k28,k29,A7,sb,hx,hrole,hK,hD,hde,D2,E4,hZ,hZm,M5];refine hΦ _ _ _ (.inr ⟨rfl,(0,gu,de),gu,by rw[←hr],rfl,by simp[A6],by simp[A6],B++[(El s).cells],?_⟩);simp[gu,Tm.kind,Tm.name,Tm.sort,Tm.cm,Tm.kids,A4,hZd,sb];exact In 4
 .obtain⟨⟨B,hB⟩,hr⟩:=hr;rw[A0d (by omega),Ys]at hr;simp[W3,A6,k28,k29,A7];exact hΦ _ _ _ (.inl ⟨rfl,hr.symm,B,hB⟩)
noncomputable def UC (n:Nar):Int×Tm×Int :=
 if (l8 n).2≠0 then (0,E3 gu,(l8 n).2)else bS (Ys (λme i=>Sr (L3 (B5 n) (G8 n)) n me (Oj n.roles me) i) 0 (n.steps.map (Dh (L3 (B5 n) (G8 n)))))
theorem VD {f:ByteArray->Int} {n:Nar} {me:J3} {role q:Nat} (hd:Hx n=0) {r:Nar} (he:Ql r=CN f n) (hme:n.roles[role]?=some me):(Sr f n me role q).map E3=Sr f n me role q:=by
 rw[←RJ (m:=(true,true)) hd he hme q,A0k];congr 1;funext x;exact Zb x
theorem wE {l l':List Ste} {f:ByteArray->Int} (h:l.map Ns=l'.map (Dh f)):l.map Ns=(l'.map (Dh f)).map Ns:=by
 have:=congrArg (List.map Ns) h;rw[←this,A0k];congr 1;funext s;simp only[Function.comp,Ns,Zb s.msg]
theorem ur {r n:Nar} (hR:Right n) (he:Ql r=CN (L3 (B5 n) (G8 n)) n) (kf:ByteArray->Nat->List Tm) (hk:∀me∈n.roles,∀q,(kf me q).map E3=Sr (L3 (B5 n) (G8 n)) n me (Oj n.roles me) q):bS (Ys kf 0 r.steps)=bS (Ys (λme i=>Sr (L3 (B5 n) (G8 n)) n me (Oj n.roles me) i) 0 (n.steps.map (Dh (L3 (B5 n) (G8 n))))):=by
 refine qn 0 (λs hs j _=>?_) (wE (s9 he).2.2.2.2.1);have hm:Ns s∈n.steps.map (Dh (L3 (B5 n) (G8 n))):=by rw[←(s9 he).2.2.2.2.1];exact A0V hs
 obtain⟨s',hs',e⟩:=A0Q.1 hm;unfold Ns Dh at e;injection e with e _ _ _
 have hfr:s.frm∈n.roles:=by rw[←e];exact(NN (hR.steps s' hs')).1
 rw[hk s.frm hfr j,VD hR.dec he (Ra hfr).1]
theorem lN (n:Nar) (F:Fine n) (S:Lens n):∃t,pc Q j7 [G5 n]=some (.tup [.int .i64 (UC n).1,B8 t,.int .i64 (UC n).2.2])/\E3 t=(UC n).2.1:=by
 suffices hq:∃v,pc Q j7 [G5 n]=some v/\∃t,v=.tup [.int .i64 (UC n).1,B8 t,.int .i64 (UC n).2.2]/\E3 t=(UC n).2.1 by
  obtain⟨v,h1,t,rfl,h2⟩:=hq;exact⟨t,h1,h2⟩
 obtain⟨r,hO,hE⟩:=cY n F S;have nb:=E9 n;have sb:=DJ r n;have hz4:B8 gu=.agg [.int .i64 0,.str (bs []),.int .i64 0,.vs true 0 []]:=by rw[In 4];rfl
 by_cases h1:(l8 n).2=0
 .have he:=hE h1;obtain⟨-,hR⟩:=Kg h1;obtain⟨hsm,-⟩:=Mc hR.nar he;obtain⟨e2,-,-⟩:=JT he;rw[h1]at hO;have hX:UC n=bS (Ys (λme i=>Ss (true,true) r n me (Oj r.roles me) i) 0 r.steps):=by
   unfold UC;rw[if_neg (by simp[h1])];refine(ur hR he _ λme hme q=>?_).symm;rw[e2];exact RJ hR.dec he (Ra hme).1 q
  rw[hX];refine GV Ar λΨ hΨ fr hl h0=>?_;simp[Ar]at hl h0;simp[Ar,hl,h0,nb,sb,hO];refine B7.mono (rV r n F S h1 hR he (G5 n).cells [.int .i64 0,.str (bs []),.int .i64 0,.vs true 0 []] rfl rfl hsm.steps _ _ [] ?_ ?_ ?_ ?_ ?_ ?_ ?_) ?_<;>first|(simp[hl,nb,sb];done)|skip
  rintro e D5 ⟨bx,F1⟩ ⟨K,⟨rfl,hn,B2,hB2⟩|⟨rfl,x,t,hx,het,l2,l4,B2,hB2⟩⟩
  .simp only at hB2;subst hB2;have A6:D5.length=83:=K.1.trans (by simp[hl]);have k3':A0 D5 3=.ptr 1 0:=A8 K 3 (by simp[hl]);rw[hn]at hΨ;simp[A6,k3',D2,E4,M5];exact hΨ _ ⟨gu,by rw[hz4];rfl,rfl⟩
  .simp only at hB2;subst hB2;have A6:D5.length=83:=K.1.trans (by simp[hl]);have k3':A0 D5 3=.ptr 1 0:=A8 K 3 (by simp[hl]);rw[hx]at hΨ;simp[l2,l4,k3'];exact hΨ _ ⟨t,rfl,het⟩
 .have hX:UC n=(0,E3 gu,(l8 n).2):=by unfold UC;rw[if_pos h1]
  rw[hX];generalize (l8 n).2=e at *
  have P6:=h1;refine GV Ar λΨ hΨ fr hl h0=>?_;simp[Ar]at hl h0;simp[Ar,hl,h0,nb,sb,hO,P6,D2,E4,M5];exact hΨ _ ⟨gu,by rw[hz4];rfl,rfl⟩
end Go.Abs.Q
