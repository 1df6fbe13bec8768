/- A part of the proof. -/
import Derived.Test.YtohjdamplbhdpaaGreatDoorSE19
set_option linter.all false
open List renaming map_cons->A0Z,mem_map->A0b,map_append->A0c,mem_singleton->A0d,getElem?_eq_getElem->A0e,mem_cons->A0f,mem_map_of_mem->A0g,mem_append->A0h,mem_cons_of_mem->A0i,length_map->A0j,any_eq_true->A0l,mem_cons_self->A0m,append_assoc->A0n,drop_eq_nil_of_le->A0o,take_of_length_le->A0p,eq_nil_of_length_eq_zero->A0q,map_nil->A0r,length_take->A0s,mem_flatMap->A0t,mem_of_mem_take->A0u,map_map->A0v,getElem_mem->A0w,take_succ_eq_append_getElem->A0x,append_nil->A0y,length->A0z,getD_eq_getElem?_getD->A01,map_take->A02,drop_eq_getElem_cons->A03,getElem?_eq_some_iff->A04,not_mem_nil->A05,filter_cons_of_neg->A06,filter_cons_of_pos->A07,nodup_cons->A08,length_singleton->A09,nodup_nil->A1A,mem_of_getElem?->A1B,nodup_append->A1C,length_cons->A1D,length_nil->A1E,mem_filter->A1F,any_cons->A1G
open Bool renaming and_eq_true->A0a,false_eq_true->A00
open Nat renaming le_refl->A0k
namespace Go.Abs.Q
open Go.Proofs
attribute [local simp] E6 E8 fin K1 H2 P7 M6 R4 R3
theorem ue {c:Ctx} {h:AH} {sz bytes:Nat} {b:Bool} {m:I6} {ys:G6} (P4:ys≠[]) (hb:ys.length*bytes<=H3/\ys.length<=maxLen) :
  K6 c h sz bytes (sl (true,b) sz []) (sl m sz ys)=some (.sl h.fams.length ys.length 0 ys.length,⟨h.boxes,h.fams++[⟨ys,sz,c.mutApp⟩]⟩):=by
 have hl:ys.length≠0:=λe=>P4 (A0q e);have hx:=N0 h m sz ys;have e:K6 c h sz bytes (sl (true,b) sz []) (sl m sz ys)=K6 c h sz bytes (.vs true (if (([]:List AV).isEmpty&&!b)=true then 0 else sz) []) (sl m sz ys):=rfl
 rw[e];simp only[K6,hx];rw[if_neg hl,if_pos ⟨.inr rfl,by simpa using hb⟩];simp
theorem Ua (nm:J1) (m:I6) (l:G7) (P4:l≠[]) (B8:l.length<=1048576):pc Q W6 [.str nm,sl m 4 (A4 l)]=some (B9 (VL nm (false,true) l)):=by
 rw[←qi];have hl':(A4 l).length=l.length:=by rw[C9,A0j]
 have hne':A4 l≠[]:=λe=>P4 (by rw[C9,List.map_eq_nil_iff]at e;exact e);generalize A4 l=xs at *
 have hr:xs.length*56<=H3/\xs.length<=maxLen:=by simp only[H3,maxLen];omega
 have ha:∀(B:List (List AV)),K6 (D6 W6) ⟨B,[]⟩ 4 56 (sl (true,true) 4 []) (sl m 4 xs)=some (.sl 0 xs.length 0 xs.length,⟨B,[⟨xs,4,false⟩]⟩):=λB=>ue hne' hr;refine N3 DT λfr hl h0 h1=>?_;simp[DT]at hl h0 h1;simp[DT,hl,h0,h1,A5,C8,D8,ha]
theorem fw (a:J1):pc Q Is [.str a]=some (B9 (NW (false,true) a)):=by
 have hG:=VY a;have hA:=Ua (bs [115,107]) (true,true) [IK a] (by simp) (by simp);rw[show A4 [IK a]=[B9 (IK a)] from rfl]at hA;change pc Q W6 _=some (B9 (NW (false,true) a))at hA;refine H6 MO λfr hl h0=>?_;simp[MO]at hl h0;simp[MO,hl,h0,hG,hA,A5]
theorem sx (a:J1):pc Q NL [.str a]=some (B9 (Lv (false,true) a)):=by
 have hG:=fw a;have hA:=Ua (bs [112,107]) (true,true) [NW (false,true) a] (by simp) (by simp);rw[show A4 [NW (false,true) a]=[B9 (NW (false,true) a)] from rfl]at hA;change pc Q W6 _=some (B9 (Lv (false,true) a))at hA;generalize NW (false,true) a=u at *
 refine H6 Ns λfr hl h0=>?_;simp[Ns]at hl h0;simp[Ns,hl,h0,hG,hA,A5]
theorem gD (a b:J1):pc Q Jq [.str a,.str b]=some (B9 (So (false,true) a b)):=by
 have hG:=VY a;have hG':=VY b;have hA:=Ua (bs [115,104,107]) (true,true) [IK a,IK b] (by simp) (by simp);rw[show A4 [IK a,IK b]=[B9 (IK a),B9 (IK b)] from rfl]at hA;change pc Q W6 _=some (B9 (So (false,true) a b))at hA;generalize IK a=u at *
 generalize IK b=u' at *
 refine N3 Nt λfr hl h0 h1=>?_;simp[Nt]at hl h0 h1;simp[Nt,hl,h0,h1,hG,hG',hA,A5]
theorem nj (r:Nar) (B8:r.roles.length<=1000) (acc:G7) (hal:acc.length<=1000) (fr:Fr) (h:AH) (hh:h.boxes=[(G4 r).cells]) (v0:AV) (hv0:A0 fr 8=v0) (hg0:KM false 4 (A4 acc) v0 h) (hl:fr.length=112) (h3:A0 fr 3=.ptr 0 0) (h9:A0 fr 9=.int .i64 0) :
  B6 (lp (A2 (K8 Q) (D6 R1) Db) (fr,h)) λe C3 h'=>Kp Db.wr fr C3/\e=.exit 0/\h'.boxes=[(G4 r).cells]/\KM false 4 (A4 (acc++r.roles.map (Lv (false,true)))) (A0 C3 8) h':=by
 refine A9 rfl fr (λn fr h'=>∃(i:Nat),i+n=r.roles.length/\A0 fr 9=.int .i64 (i:Nat)/\(∃v,A0 fr 8=v/\h'.boxes=[(G4 r).cells]/\KM false 4 (A4 (acc++(r.roles.take i).map (Lv (false,true)))) v h')) ?_ r.roles.length h ⟨0,by omega,h9,_,hv0,hh,by simpa using hg0⟩;rintro J Φ hJ hΦ n D4 H1 K ⟨i,hi,k9,hr⟩;have A6:=K.1.trans hl;have k3:=A8 K 3 h3;clear K;by_cases A7:i<r.roles.length
 .have L3:=C6 i (by omega);obtain⟨v,k8,hB,hg⟩:=hr;obtain⟨bx,fams⟩:=H1;simp only at hB;subst hB;have rb:=E5 r;have hx:=G1 (f:=AV.str) (A0e A7);have Q7:acc++(r.roles.take (i+1)).map (Lv (false,true))=(acc++(r.roles.take i).map (Lv (false,true)))++[Lv (false,true) r.roles[i]]:=by
   rw[A0x A7,A0c,A0Z,A0r,A0n]
  have Bb:(acc++(r.roles.take i).map (Lv (false,true))).length<=2000:=by simp;omega
  generalize r.roles[i]=a at *
  have hP:=sx a;obtain⟨v',F',ha,d7,-⟩:=OJ (c:=D6 R1) (bytes:=56) (x:=sl (true,true) 4 [B9 (Lv (false,true) a)]) (ys:=[B9 (Lv (false,true) a)]) (h:=⟨[(G4 r).cells],fams⟩) hg (N0 _ _ _ _) (by simp only[H3,maxLen,C9,A0j,A09];omega);rw[←Q0,←Q7]at d7;rw[rb]at ha;clear Q7 hg;generalize Lv (false,true) a=t2 at *
  simp[Db,A6,k3,k9,A7,L3,k8,rb,hx,hP,A5,ha];exact G0 hJ ⟨i+1,by omega,by simp[A6],v',by simp[A6],by rw[rb],I2 d7 rfl⟩
 .obtain⟨v,k8,hB,hg⟩:=hr;obtain⟨bx,fams⟩:=H1;simp only at hB;subst hB;have rb:=E5 r;rw[A0p (by omega)]at hg;simp[Db,A6,k3,k9,A7,rb];exact hΦ _ _ _ ⟨rfl,by rw[rb],by simp[k8];exact I2 hg rfl⟩
theorem ni (r:Nar) (B8:r.roles.length<=1000) (acc:G7) (hal:acc.length<=2000) (role:Nat) (me:J1) (fr:Fr) (h:AH) (hh:h.boxes=[(G4 r).cells]) (v0:AV) (hv0:A0 fr 8=v0) (hg0:KM false 4 (A4 acc) v0 h) (hl:fr.length=112) (h1:A0 fr 1=.int .i64 (role:Nat)) (h3:A0 fr 3=.ptr 0 0) (h7:A0 fr 7=.str me) (h10:A0 fr 10=.int .i64 0) :
  B6 (lp (A2 (K8 Q) (D6 R1) As) (fr,h)) λe C3 h'=>Kp As.wr fr C3/\e=.exit 2/\h'.boxes=[(G4 r).cells]/\KM false 4 (A4 (acc++MF (false,true) me r.roles role r.roles.length)) (A0 C3 8) h':=by
 refine A9 rfl fr (λn fr h'=>∃(i:Nat),i+n=r.roles.length/\A0 fr 10=.int .i64 (i:Nat)/\(∃v,A0 fr 8=v/\h'.boxes=[(G4 r).cells]/\KM false 4 (A4 (acc++MF (false,true) me r.roles role i)) v h')) ?_ r.roles.length h ⟨0,by omega,h10,_,hv0,hh,by simpa[MF]using hg0⟩;rintro J Φ hJ hΦ n D4 H1 K ⟨i,hi,k10,hr⟩;have A6:=K.1.trans hl;have k1:=A8 K 1 h1;have k3:=A8 K 3 h3;have k7:=A8 K 7 h7;clear K;by_cases A7:i<r.roles.length
 .have L3:=C6 i (by omega);obtain⟨v,k8,hB,hg⟩:=hr;obtain⟨bx,fams⟩:=H1;simp only at hB;subst hB;have rb:=E5 r;have hx:=G1 (f:=AV.str) (A0e A7);have hl3:=Sp (false,true) me r.roles role i;have Bb:(acc++MF (false,true) me r.roles role i).length<=4000:=by simp;omega
  have Q7:acc++MF (false,true) me r.roles role (i+1)=(acc++MF (false,true) me r.roles role i)++(if i=role then []else [So (false,true) me r.roles[i],So (false,true) r.roles[i] me]):=by
   rw[MF,A0e A7,A0n]
  generalize r.roles[i]=a at *
  by_cases hir:i=role
  .rw[if_pos hir,A0y]at Q7;rw[←Q7]at hg;subst hir;simp[As,A6,k1,k3,k10,A7,L3,rb];exact G0 hJ ⟨i+1,by omega,by simp[A6],v,by simp[k8],by rw[rb],I2 hg rfl⟩
  .rw[if_neg hir]at Q7;have hii:¬(i:Int)=(role:Int):=by omega
   have hA:=gD me a;have hA2:=gD a me;obtain⟨v',F',ha,d7,-⟩:=OJ (c:=D6 R1) (bytes:=56) (x:=sl (true,true) 4 [B9 (So (false,true) me a),B9 (So (false,true) a me)]) (ys:=[B9 (So (false,true) me a),B9 (So (false,true) a me)]) (h:=⟨[(G4 r).cells],fams⟩) hg (N0 _ _ _ _) (by simp only[H3,maxLen,C9,A0j,A1D,A1E];omega);have e1:A4 (acc++MF (false,true) me r.roles role i)++[B9 (So (false,true) me a),B9 (So (false,true) a me)]=A4 (acc++MF (false,true) me r.roles role (i+1)):=by
    rw[Q7,C9,C9,A0c (l₂:=[_,_])];rfl
   rw[e1]at d7;rw[rb]at ha;clear e1 Q7 hg;generalize So (false,true) me a=t2 at *
   generalize So (false,true) a me=t1 at *
   simp[As,A6,k1,k3,k7,k10,A7,L3,k8,rb,hx,hii,hA,hA2,A5,ha];exact G0 hJ ⟨i+1,by omega,by simp[A6],v',by simp[A6],by rw[rb],I2 d7 rfl⟩
 .obtain⟨v,k8,hB,hg⟩:=hr;obtain⟨bx,fams⟩:=H1;simp only at hB;subst hB;have rb:=E5 r;have hi2:i=r.roles.length:=by omega
  subst hi2;simp[As,A6,k3,k10,rb];exact hΦ _ _ _ ⟨rfl,by rw[rb],by simp[k8];exact I2 hg rfl⟩
theorem fA (r:Nar) (hfl:r.fresh.length<=1048576) (role:Nat) (me:J1) (hme:IZ (r.roles.map AV.str) role=some (.str me)) (fr:Fr) (h:AH) (hh:h.boxes=[(G4 r).cells]) (h5:A0 fr 5=.vs true 0 []) (hl:fr.length=43) (h1:A0 fr 1=.int .i64 (role:Nat)) (h2:A0 fr 2=.ptr 0 0) (h6:A0 fr 6=.int .i64 0) :
  B6 (lp (A2 (K8 Q) (D6 EJ) Bi) (fr,h)) λe C3 h'=>Kp Bi.wr fr C3/\e=.exit 0/\KM false 4 (A4 (IP me r.fresh)) (A0 C3 5) h':=by
 refine A9 rfl fr (λn fr h'=>∃(i:Nat),i+n=r.fresh.length/\A0 fr 6=.int .i64 (i:Nat)/\(∃v,A0 fr 5=v/\h'.boxes=[(G4 r).cells]/\KM false 4 (A4 (IP me (r.fresh.take i))) v h')) ?_ r.fresh.length h ⟨0,by omega,h6,_,h5,hh,Wd _ _ _⟩;rintro J Φ hJ hΦ n D4 H1 K ⟨i,hi,k6,hr⟩;have A6:=K.1.trans hl;have k1:=A8 K 1 h1;have k2:=A8 K 2 h2;clear K;by_cases A7:i<r.fresh.length
 .have L3:=C6 i (by omega);obtain⟨v,k5,hB,hg⟩:=hr;obtain⟨bx,fams⟩:=H1;simp only at hB;subst hB;have rb:=E5 r;have hx:=G1 (f:=Lz) (A0e A7);have B8:=RQ me (r.fresh.take i);rw[A0s]at B8;have Q7:=Zq (me:=me) A7;generalize r.fresh[i]=f at *
  have hA:=Wu f.name f.sort;by_cases hf:f.role=me
  .rw[if_pos hf]at Q7;obtain⟨v',F',ha,d7,-⟩:=OJ (c:=D6 EJ) (bytes:=56) (x:=sl (true,true) 4 [B9 (.mk 2 f.name f.sort (true,false) [])]) (ys:=[B9 (.mk 2 f.name f.sort (true,false) [])]) (h:=⟨[(G4 r).cells],fams⟩) (I2 hg rfl) (N0 _ _ _ _) (by simp only[H3,maxLen,C9,A0j,A09];omega);rw[←Q0,←Q7]at d7;rw[rb]at ha;generalize Tm.mk 2 f.name f.sort (true,false) []=t at *
   simp[Bi,A6,k1,k2,k6,A7,L3,k5,hx,rb,hme,hf,hA,A5,ha];exact G0 hJ ⟨i+1,by omega,by simp[A6],v',by simp[A6],by rw[rb],I2 d7 rfl⟩
  .rw[if_neg hf,A0y]at Q7;rw[←Q7]at hg;simp[Bi,A6,k1,k2,k6,A7,L3,hx,rb,hme,hf];exact G0 hJ ⟨i+1,by omega,by simp[A6],v,by simp[k5],by rw[rb],I2 hg rfl⟩
 .obtain⟨v,k5,hB,hg⟩:=hr;obtain⟨bx,fams⟩:=H1;simp only at hB;subst hB;have rb:=E5 r;rw[A0p (by omega)]at hg;simp[Bi,A6,k2,k6,A7,rb];exact hΦ _ _ _ ⟨rfl,by simp[k5];exact I2 hg rfl⟩
theorem ol (r:Nar) (hfl:r.fresh.length<=1048576) (role:Nat) (me:J1) (hme:r.roles[role]?=some me):∃m,pc Q EJ [G4 r,.int .i64 (role:Nat)]=some (sl m 4 (A4 (IP me r.fresh))):=by
 suffices hq:∃v,pc Q EJ [G4 r,.int .i64 (role:Nat)]=some v/\∃m:Bool×Bool,v=sl m 4 (A4 (IP me r.fresh)) by
  obtain⟨v,h1,m,rfl⟩:=hq;exact⟨m,h1⟩
 have rb:=E5 r;have hme':IZ (r.roles.map AV.str) role=some (.str me):=G1 hme;refine Sz Nr λΨ hΨ fr hl h0 h1=>?_;simp[Nr]at hl h0 h1;simp[Nr,h0,rb];refine B6.mono (fA r hfl role me hme' _ _ ?_ ?_ ?_ ?_ ?_ ?_) ?_<;>first|(simp[hl,h1,rb];done)|skip
 rintro e D4 ⟨bx,F1⟩ ⟨K,rfl,hg⟩;have A6:D4.length=43:=K.1.trans (by simp[hl]);obtain⟨m',hf⟩:=Pr hg;simp only at hf;simp[A6,hf];exact hΨ _ ⟨m',rfl⟩
theorem nh (l:G7) (m0:I6) (B8:l.length<=1000) (acc:G7) (hal:acc.length<=5000) (has:∀x∈acc,x.size<=1099511627776) (hls:∀x∈l,x.size<=1099511627776) (B0:List (List AV)) (fr:Fr) (h:AH) (hh:h.boxes=B0) (v0:AV) (hv0:A0 fr 8=v0) (hg0:KM false 4 (A4 acc) v0 h) (hl:fr.length=112) (h11:A0 fr 11=sl m0 4 (A4 l)) (h12:A0 fr 12=.int .i64 0) :
  B6 (lp (A2 (K8 Q) (D6 R1) Da) (fr,h)) λe C3 h'=>Kp Da.wr fr C3/\e=.exit 4/\h'.boxes=B0/\KM false 4 (A4 (U9 acc l)) (A0 C3 8) h':=by
 refine A9 rfl fr (λn fr h'=>∃(i:Nat),i+n=l.length/\A0 fr 12=.int .i64 (i:Nat)/\(∃v,A0 fr 8=v/\h'.boxes=B0/\KM false 4 (A4 (U9 acc (l.take i))) v h')) ?_ l.length h ⟨0,by omega,h12,_,hv0,hh,hg0⟩;rintro J Φ hJ hΦ n D4 H1 K ⟨i,hi,k12,hr⟩;have A6:=K.1.trans hl;have k11:=A8 K 11 h11;clear K;by_cases A7:i<l.length
 .have L3:=C6 i (by omega);obtain⟨v,k8,hB,hg⟩:=hr;obtain⟨bx,fams⟩:=H1;simp only at hB;subst hB;have hx:=I0 A7;have Bb:=Bo (l.take i) acc;rw[A0s]at Bb;have J4:∀x∈U9 acc (l.take i),x.size<=1099511627776:=λx hx=>by
   rcases Bp _ _ hx with h|h
   .exact has x h
   .exact hls x (A0u h)
  have hli:=hls _ (A0w A7);have Q7:l.take (i+1)=l.take i++[l[i]]:=A0x A7;generalize l[i]=t at *
  obtain⟨v',F',hK,d7⟩:=ll _ v ⟨bx,fams⟩ hg t (by omega) J4 hli;have e1:Lc (U9 acc (l.take i)) t=U9 acc (l.take (i+1)):=by
   rw[Q7,PR];rfl
  rw[e1]at d7;clear e1 Q7 hg J4;simp[Da,A6,k11,k12,A7,L3,k8,hx,hK];exact G0 hJ ⟨i+1,by omega,by simp[A6],v',by simp[A6],rfl,I2 d7 rfl⟩
 .obtain⟨v,k8,hB,hg⟩:=hr;rw[A0p (by omega)]at hg;simp[Da,A6,k11,k12,A7];exact hΦ _ _ _ ⟨rfl,hB,by simp[k8];exact I2 hg rfl⟩
theorem nf (r:Nar) (l:List Ste) (q:Nat) (hq:q<=r.steps.length) (hlq:l=r.steps.take q) (B8:l.length<=1000) (acc:G7) (hal:acc.length<=7000) (has:∀x∈acc,x.size<=1099511627776) (hls:∀x∈l,x.msg.size<=1099511627776) (me:J1) (fr:Fr) (h:AH) (hh:h.boxes=[(G4 r).cells]) (v0:AV) (hv0:A0 fr 8=v0) (hg0:KM false 4 (A4 acc) v0 h) (hl:fr.length=112) (h2:A0 fr 2=.int .i64 l.length) (h3:A0 fr 3=.ptr 0 0) (h7:A0 fr 7=.str me) (h13:A0 fr 13=.int .i64 0) :
  B6 (lp (A2 (K8 Q) (D6 R1) p8) (fr,h)) λe C3 h'=>Kp p8.wr fr C3/\e=.exit 6/\KM false 4 (A4 (U9 acc (Sw me l))) (A0 C3 8) h':=by
 refine A9 rfl fr (λn fr h'=>∃(i:Nat),i+n=l.length/\A0 fr 13=.int .i64 (i:Nat)/\(∃v,A0 fr 8=v/\h'.boxes=[(G4 r).cells]/\KM false 4 (A4 (U9 acc (Sw me (l.take i)))) v h')) ?_ l.length h ⟨0,by omega,h13,_,hv0,hh,hg0⟩;rintro J Φ hJ hΦ n D4 H1 K ⟨i,hi,k13,hr⟩;have A6:=K.1.trans hl;have k2:=A8 K 2 h2;have k3:=A8 K 3 h3;have k7:=A8 K 7 h7;clear K;by_cases A7:i<l.length
 .have L3:=C6 i (by omega);obtain⟨v,k8,hB,hg⟩:=hr;obtain⟨bx,fams⟩:=H1;simp only at hB;subst hB;have rb:=E5 r;have hlr:i<r.steps.length:=by rw[hlq,A0s]at A7;omega
  have hli:l[i]=r.steps[i]:=by simp only[hlq,List.getElem_take]
  have hx:=G1 (f:=EP) (A0e hlr);have Bb:=Bo (Sw me (l.take i)) acc;have hml:(Sw me (l.take i)).length<=i:=by
   unfold Sw;rw[A0j];have:=List.length_filter_le (Of me) (l.take i);rw[A0s]at this;omega
  have J4:∀x∈U9 acc (Sw me (l.take i)),x.size<=1099511627776:=λx hx=>by
   rcases Bp _ _ hx with h|h
   .exact has x h
   .unfold Sw at h;rw[A0b]at h;obtain⟨s,hs,rfl⟩:=h;exact hls s (A0u (A1F.1 hs).1)
  have hli2:=hls _ (A0w A7);have Q7:=fQ (me:=me) A7;rw[hli]at Q7 hli2;generalize r.steps[i]=s at *
  have hyes:Of me s=true->KM false 4 (A4 (U9 acc (Sw me (l.take i)))) v ⟨[(G4 r).cells],fams⟩->∃v' F',WW true ⟨[(G4 r).cells],fams⟩ (rc Q AO [v,B9 s.msg] ⟨[(G4 r).cells],fams⟩)=some (v',⟨[(G4 r).cells],F'⟩)/\KM false 4 (A4 (U9 acc (Sw me (l.take (i+1))))) v' ⟨[(G4 r).cells],F'⟩:=λhb hg=>by
   rw[hb,if_pos rfl]at Q7;obtain⟨v',F',hK,d7⟩:=ll _ v ⟨[(G4 r).cells],fams⟩ hg s.msg (by omega) J4 hli2;have e1:Lc (U9 acc (Sw me (l.take i))) s.msg=U9 acc (Sw me (l.take (i+1))):=by
    rw[Q7,PR];rfl
   rw[e1]at d7;exact⟨v',F',hK,d7⟩
  by_cases hq1:s.frm=me
  .obtain⟨v',F',hK,d7⟩:=hyes (by simp[Of,hq1]) hg;rw[rb]at hK;clear hyes Q7 J4;simp[p8,A6,k2,k3,k7,k13,A7,L3,rb,k8,hx,hq1,hK];exact G0 hJ ⟨i+1,by omega,by simp[A6],v',by simp[A6],by rw[rb],I2 d7 rfl⟩
  .by_cases hq2:s.to=me
   .obtain⟨v',F',hK,d7⟩:=hyes (by simp[Of,hq2]) hg;rw[rb]at hK;clear hyes Q7 J4;simp[p8,A6,k2,k3,k7,k13,A7,L3,rb,k8,hx,hq1,hq2,hK];exact G0 hJ ⟨i+1,by omega,by simp[A6],v',by simp[A6],by rw[rb],I2 d7 rfl⟩
   .have hb:Of me s=false:=by simp[Of,hq1,hq2]
    rw[hb]at Q7;simp only[A00,if_false,A0y]at Q7;rw[←Q7]at hg;clear hyes Q7 J4;simp[p8,A6,k2,k3,k7,k13,A7,L3,rb,hx,hq1,hq2];exact G0 hJ ⟨i+1,by omega,by simp[A6],v,by simp[k8],by rw[rb],I2 hg rfl⟩
 .obtain⟨v,k8,hB,hg⟩:=hr;rw[A0p (by omega)]at hg;simp[p8,A6,k2,k13,A7];exact hΦ _ _ _ ⟨rfl,by simp[k8];exact I2 hg rfl⟩
def bn (m:Bool×Bool) (r:Nar) (me:ByteArray) (role q:Nat):List Tm :=
 U9 (U9 (([NW m me]++r.roles.map (Lv m))++MF m me r.roles role r.roles.length) (IP me r.fresh)) (Sw me (r.steps.take q))
theorem YA (r:Nar) (hs:Smol r r) (role:Nat) (me:J1) (hme:r.roles[role]?=some me) (q:Nat) (hq:q<=r.steps.length) :
  ∃m,pc Q R1 [G4 r,.int .i64 (role:Nat),.int .i64 (q:Nat)]=some (sl m 4 (A4 (bn (false,true) r me role q))):=by
 suffices hQ:∃v,pc Q R1 [G4 r,.int .i64 (role:Nat),.int .i64 (q:Nat)]=some v/\∃m:Bool×Bool,v=sl m 4 (A4 (bn (false,true) r me role q)) by
  obtain⟨v,h1,m,rfl⟩:=hQ;exact⟨m,h1⟩
 have rb:=E5 r;have hme':IZ (r.roles.map AV.str) role=some (.str me):=G1 hme;have hA:=fw me;have s1:=hs.roles;have s2:=hs.fresh;have s3:=hs.steps;obtain⟨mf,hFr⟩:=ol r (by omega) role me hme;have b1:([NW (false,true) me]++r.roles.map (Lv (false,true))).length<=1001:=by simp;omega
 have b5:=Sp (false,true) me r.roles role r.roles.length;have b2:(([NW (false,true) me]++r.roles.map (Lv (false,true)))++MF (false,true) me r.roles role r.roles.length).length<=3001:=by rw[List.length_append];omega
 have b3:=Bo (IP me r.fresh) (([NW (false,true) me]++r.roles.map (Lv (false,true)))++MF (false,true) me r.roles role r.roles.length);have b6:=RQ me r.fresh;have z3:∀x∈([NW (false,true) me]++r.roles.map (Lv (false,true)))++MF (false,true) me r.roles role r.roles.length,x.size<=1099511627776:=λx hx=>by
  rcases A0h.1 hx with h|h
  .rcases A0h.1 h with h|h
   .rw[A0d.1 h,(Mr _ me me).1];omega
   .rw[A0b]at h;obtain⟨a,-,rfl⟩:=h;rw[(Mr _ a a).2.1];omega
  .rw[Rp _ _ _ _ _ _ h];omega
 have z4:∀x∈U9 (([NW (false,true) me]++r.roles.map (Lv (false,true)))++MF (false,true) me r.roles role r.roles.length) (IP me r.fresh),x.size<=1099511627776:=λx hx=>by
  rcases Bp _ _ hx with h|h
  .exact z3 x h
  .rw[PY h];omega
 unfold bn;generalize hK1:[NW (false,true) me]++r.roles.map (Lv (false,true))=k1 at *
 generalize hK2:k1++MF (false,true) me r.roles role r.roles.length=k2 at *
 generalize hK3:U9 k2 (IP me r.fresh)=k3 at *
 generalize hK4:U9 k3 (Sw me (r.steps.take q))=k4 at *
 refine gI MN λΨ hΨ fr hl h0 h1 h2=>?_;simp[MN]at hl h0 h1 h2;simp[MN,hl,h0,h1,rb,hme',hA,A5];refine B6.mono (nj r s1 [NW (false,true) me] (by simp) _ _ ?_ (sl (true,true) 4 (A4 [NW (false,true) me])) ?_ (qW _ _ _ _ _) ?_ ?_ ?_) ?_<;>first|(simp[hl,rb];done)|(simp[hl];rfl)|skip
 rintro e D4 ⟨bx,F1⟩ ⟨K,rfl,hB,hg⟩;have A6:D4.length=112:=K.1.trans (by simp[hl]);have k1':A0 D4 1=.int .i64 (role:Nat):=A8 K 1 (by simp[h1]);have k2':A0 D4 2=.int .i64 (q:Nat):=A8 K 2 (by simp[h2]);have k3':A0 D4 3=.ptr 0 0:=A8 K 3 (by simp[hl]);have k7':A0 D4 7=.str me:=A8 K 7 (by simp[hl]);clear K;simp only at hB;subst hB;rw[hK1]at hg;generalize hv8:A0 D4 8=v8 at *
 simp;refine B6.mono (ni r s1 k1 (by omega) role me _ _ ?_ v8 ?_ (I2 hg rfl) ?_ ?_ ?_ ?_ ?_) ?_<;>first|(simp[A6,rb,k1',k3',k7',hv8];done)|skip
 rintro e Q6 ⟨bx2,F2⟩ ⟨K,rfl,hB,hg2⟩;have Bb:Q6.length=112:=K.1.trans (by simp[A6]);have k1'':A0 Q6 1=.int .i64 (role:Nat):=A8 K 1 (by simp[k1']);have k2'':A0 Q6 2=.int .i64 (q:Nat):=A8 K 2 (by simp[k2']);have k3'':A0 Q6 3=.ptr 0 0:=A8 K 3 (by simp[k3']);have k7'':A0 Q6 7=.str me:=A8 K 7 (by simp[k7']);clear K hg;simp only at hB;subst hB;rw[hK2]at hg2;generalize hv8':A0 Q6 8=v8' at *
 simp[Bb,k1'',k3'',rb,hFr];refine B6.mono (nh (IP me r.fresh) mf (by omega) k2 (by omega) z3 (λx hx=>by rw[PY hx];omega) [(G4 r).cells] _ _ ?_ v8' ?_ (I2 hg2 rfl) ?_ ?_ ?_) ?_<;>first|(simp[Bb,rb,hv8'];done)|skip
 rintro e fr3 ⟨bx3,F3⟩ ⟨K,rfl,hB,hg3⟩;have hl3:fr3.length=112:=K.1.trans (by simp[Bb]);have k2a:A0 fr3 2=.int .i64 (q:Nat):=A8 K 2 (by simp[k2'']);have k3a:A0 fr3 3=.ptr 0 0:=A8 K 3 (by simp[k3'']);have k7a:A0 fr3 7=.str me:=A8 K 7 (by simp[k7'']);clear K hg2;simp only at hB;subst hB;rw[hK3]at hg3;generalize hv8a:A0 fr3 8=v8a at *
 have hql:(r.steps.take q).length=q:=by rw[A0s];omega
 simp;refine B6.mono (nf r (r.steps.take q) q hq rfl (by omega) k3 (by omega) z4 (λx hx=>by have:=hs.msgs x (A0u hx);omega) me _ _ ?_ v8a ?_ (I2 hg3 rfl) ?_ ?_ ?_ ?_ ?_) ?_<;>first|(simp[hl3,rb,k2a,k3a,k7a,hv8a,hql];done)|skip
 rintro e fr4 ⟨bx4,F4⟩ ⟨K,rfl,hg4⟩;have hl4:fr4.length=112:=K.1.trans (by simp[hl3]);clear K hg3;rw[hK4]at hg4;obtain⟨mm,hf⟩:=Pr hg4;simp only at hf;simp[hl4,hf];exact hΨ _ ⟨mm,rfl⟩
end Go.Abs.Q
namespace Go.Abs.Q
open Go.Proofs
theorem XO (rs:List ByteArray):∀(l:List (ByteArray×Option ByteArray)) (seen:List ByteArray),d8 rs seen l=0 ->
  (l.map (·.1)).Nodup/\(∀a∈l.map (·.1),a∉seen/\Qn a=false)/\(∀e∈l,zU rs e.2=true)/\∀e∈l,e.2.isSome=true->e.1≠bs [101]/\e.1≠bs [103]
 | [],_,_=>⟨A1A,λa h=>(nomatch h),λe h=>(nomatch h),λe h=>(nomatch h)⟩
 |(x,f)::l,seen,h=>by
  have e0:d8 rs seen ((x,f)::l)=if NP seen x f.isSome≠0 then NP seen x f.isSome else if zU rs f=false then 13 else d8 rs (seen++[x]) l:=rfl
  rw[e0]at h;by_cases h1:NP seen x f.isSome=0
  .rw[if_neg (by simp[h1])]at h;by_cases h2:zU rs f=false
   .rw[if_pos h2]at h;omega
   .rw[if_neg h2]at h;obtain⟨k1,k2,k3,k4⟩:=XO rs l (seen++[x]) h;unfold NP at h1;split at h1
    .omega
    .rename_i g1;split at h1
     .omega
     .rename_i g2;split at h1
      .omega
      .rename_i g3;have hx:x∉seen:=λhm=>g3 (A0l.2 ⟨x,hm,(GW x x).2 rfl⟩);refine⟨?_,λa ha=>?_,λe he=>?_,λe he hs=>?_⟩
       .rw[A0Z,A08];refine⟨λhm=>?_,k1⟩;exact(k2 x hm).1 (List.mem_append_right _ (A0d.2 rfl))
       .rw[A0Z]at ha;rcases A0f.1 ha with rfl|ha
        .exact⟨hx,by simpa using g1⟩
        .exact⟨λhm=>(k2 a ha).1 (List.mem_append_left _ hm),(k2 a ha).2⟩
       .rcases A0f.1 he with rfl|he
        .simpa using h2
        .exact k3 e he
       .rcases A0f.1 he with rfl|he
        .exact⟨λe=>g2 ⟨hs,.inl e⟩,λe=>g2 ⟨hs,.inr e⟩⟩
        .exact k4 e he hs
  .rw[if_pos h1]at h;exact absurd h h1
theorem WD {n:Nar} (h:IM n=0):(B5 n).Nodup/\∀a∈B5 n,Qn a=false:=by
 obtain⟨k1,k2,-,-⟩:=XO n.roles (XT n) [] h;have e:(XT n).map (·.1)=B5 n:=by
  unfold XT B5;rw[A0c,A0c,A0v,A0v,A0v];have e1:∀l:List ByteArray,l.map ((λx:ByteArray×Option ByteArray=>x.1)∘λa=>(a,none))=l:=λl=>by
   rw[show ((λx:ByteArray×Option ByteArray=>x.1)∘λa=>(a,none))=id from rfl,List.map_id]
  rw[e1,e1];rfl
 rw[e]at k1 k2;exact⟨k1,λa ha=>(k2 a ha).2⟩
theorem gX {n:Nar} (h:IM n=0):n.roles.Nodup:=by
 have h1:=(WD h).1;unfold B5 at h1;rw[A0n]at h1;exact(A1C.1 h1).1
noncomputable def XH (acc l:List Tm):List Tm:=l.foldl mO acc
theorem Pt:∀(l acc:G7),(U9 acc l).map E3=XH (acc.map E3) (l.map E3)
 | [],acc=>rfl
 |t::l,acc=>by
  show (U9 (Lc acc t) l).map E3=XH (mO (acc.map E3) (E3 t)) (l.map E3);rw[Pt l,ua]
theorem VI:∀(l acc:G7),l.Nodup->(∀x∈l,x∉acc)->XH acc l=acc++l
 | [],acc,_,_=>by simp[XH]
 |t::l,acc,hn,h=>by
  rw[A08]at hn;have e:mO acc t=acc++[t]:=if_neg (h t A0m);show XH (mO acc t) l=_;rw[e,VI l _ hn.2 (λx hx hm=>?_),A0n,List.singleton_append];rcases A0h.1 hm with hm|hm
  .exact h x (A0i _ hx) hm
  .rw[A0d.1 hm]at hx;exact hn.1 hx
def qJ (a:ByteArray):Tm:=E3 (NW (true,true) a)
def iE (a:ByteArray):Tm:=E3 (Lv (true,true) a)
def qI (a b:ByteArray):Tm:=E3 (So (true,true) a b)
theorem th (m:I6) (a:J1):E3 (NW m a)=qJ a:=rfl
theorem kI (m:I6) (a b:J1):E3 (So m a b)=qI a b:=rfl
theorem vz {a b:J1} (h:iE a=iE b):a=b:=by
 simp only[iE,Lv,NW,VL,IK,E3,H5]at h;injection h with _ _ _ _ h
 injection h with h _
 injection h with _ _ _ _ h
 injection h with h _
 injection h with _ h _ _ _
theorem lu {a b c d:J1} (h:qI a b=qI c d):a=c/\b=d:=by
 simp only[qI,So,VL,IK,E3,H5]at h;injection h with _ _ _ _ h
 injection h with h1 h
 injection h with h2 _
 injection h1 with _ h1 _ _ _
 injection h2 with _ h2 _ _ _
 exact⟨h1,h2⟩
theorem xy:bs [115,107]≠bs [112,107]:=by decide
theorem xz:bs [115,107]≠bs [115,104,107]:=by decide
theorem yA:bs [112,107]≠bs [115,104,107]:=by decide
theorem ti (a b:J1):iE a≠qJ b:=λh=>by
 simp only[qJ,iE,Lv,NW,VL,IK,E3,H5]at h;injection h with _ h _ _ _
 exact xy h.symm
theorem gc (a b c:J1):qI a b≠qJ c:=λh=>by
 simp only[qJ,qI,So,NW,VL,IK,E3,H5]at h;injection h with _ h _ _ _
 exact xz h.symm
theorem gb (a b c:J1):qI a b≠iE c:=λh=>by
 simp only[iE,qI,Lv,So,NW,VL,IK,E3,H5]at h;injection h with _ h _ _ _
 exact yA h.symm
theorem kJ (m m':I6) (me:J1) (rs:List ByteArray) (role:Nat):∀i,(MF m me rs role i).map E3=(MF m' me rs role i).map E3
 |0=>rfl
 |i+1=>by
  rw[MF,MF,A0c,A0c,kJ m m' me rs role i];congr 1;split
  .rfl
  .split<;>rfl
theorem XA {m:I6} {me:J1} {rs:List ByteArray} {role:Nat}:∀{i:Nat} {x:Tm},x∈(MF m me rs role i).map E3->∃(j:Nat) (r:J1),j<i/\j≠role/\rs[j]?=some r/\(x=qI me r\/x=qI r me)
 |0,x,h=>by simp[MF]at h
 |i+1,x,h=>by
  rw[MF,A0c,A0h]at h;rcases h with h|h
  .obtain⟨j,r,h1,h2⟩:=XA h;exact⟨j,r,by omega,h2⟩
  .split at h
   .simp at h
   .rename_i hir;split at h
    .rename_i r hr;simp only[A0Z,A0r,A0f,A05,or_false,kI]at h;exact⟨i,r,by omega,hir,hr,h⟩
    .simp at h
theorem VW {rs:List ByteArray} (h:rs.Nodup) {i j:Nat} {a:J1} (hi:rs[i]?=some a) (hj:rs[j]?=some a):i=j:=by
 obtain⟨h1,e1⟩:=A04.1 hi;obtain⟨h2,e2⟩:=A04.1 hj;rw[List.Nodup,List.pairwise_iff_getElem]at h;rcases Nat.lt_trichotomy i j with A7|he|hgt
 .exact absurd (e1.trans e2.symm) (h i j h1 h2 A7)
 .exact he
 .exact absurd (e2.trans e1.symm) (h j i h2 h1 hgt)
theorem ak {m:I6} {me:J1} {rs:List ByteArray} {role:Nat} (hn:rs.Nodup) (hme:rs[role]?=some me):∀i,((MF m me rs role i).map E3).Nodup
 |0=>A1A
 |i+1=>by
  have ih:=ak (m:=m) hn hme i;rw[MF,A0c];split
  .simpa using ih
  .rename_i hir;split
   .rename_i r hr;have hrm:r≠me:=λe=>hir (VW hn hr (e ▸ hme));rw[A1C];refine⟨ih,?_,?_⟩
    .simp only[A0Z,A0r,A08,A0f,A05,or_false,not_false_eq_true,A1A,and_true,kI];intro h;exact hrm (lu h).2
    .intro x hx y hy e;subst e;obtain⟨j,r',j1,j2,j3,j4⟩:=XA hx;simp only[A0Z,A0r,A0f,A05,or_false,kI]at hy;have P4:r≠r':=λe=>by have:=VW hn hr (e ▸ j3);omega
     have hrm':r'≠me:=λe=>j2 (VW hn j3 (e ▸ hme));rcases hy with hy|hy<;>rcases j4 with j4|j4<;>rw[hy]at j4<;>have h:=lu j4
     .exact P4 h.2
     .exact hrm' h.1.symm
     .exact hrm h.1
     .exact P4 h.1
   .simpa using ih
noncomputable def Sv (f:ByteArray->Int) (n:Nar) (me:ByteArray) (role q:Nat):List Tm :=
 XH (XH ([qJ me]++n.roles.map iE++(MF (true,true) me n.roles role n.roles.length).map E3) ((IP me n.fresh).map E3)) (((n.steps.take q).filter (Of me)).map λs=>CO f s.msg)
theorem jZ {f:ByteArray->Int} {me:J1}:∀{l l':List Ste},l.map Mz=l'.map (CB f)->(Sw me l).map E3=(l'.filter (Of me)).map λs=>CO f s.msg
 | [],[],_=>rfl
 | [],_::_,h=>by simp at h
 |_::_,[],h=>by simp at h
 |s::l,s'::l',h=>by
  rw[A0Z,A0Z,List.cons.injEq]at h;have ih:=jZ (me:=me) h.2;have h1:=h.1;unfold Mz CB at h1;injection h1 with e1 e2 e3 e4
  have eb:Of me s=Of me s':=by unfold Of;rw[e1,e2]
  unfold Sw at ih ⊢;cases hb:Of me s' with
  |true =>
   rw[A07 (by rw[eb];exact hb),A07 hb,A0Z,A0Z,A0Z,ih,e3]
  |false =>
   rw[A06 (by rw[eb,hb];simp),A06 (by rw[hb];simp),ih]
theorem UT {l:List ByteArray} (m:I6):(l.map (Lv m)).map E3=l.map iE:=by
 rw[A0v];rfl
theorem RV {m:I6} {r n:Nar} {f:ByteArray->Int} (hd:IM n=0) (he:Py r=CA f n) {me:J1} {role:Nat} (hme:n.roles[role]?=some me) (q:Nat):(TH m r n me role q).map E3=Sv f n me role q:=by
 obtain⟨-,e2,-,-,e5,-⟩:=t7 he;have hn:=gX hd;have eq:(r.steps.take q).map Mz=(n.steps.take q).map (CB f):=by rw[A02,A02,e5]
 unfold TH Sv;rw[Pt,jZ eq,Pt,Pt,Pt,e2,UT,kJ m (true,true),A0Z,A0r,th];congr 2;rw[VI (n.roles.map iE) [qJ me] ?_ ?_,VI _ _ (ak hn hme _) ?_]
 .intro x hx hm;obtain⟨j,r',-,-,-,h4⟩:=XA hx;rcases A0h.1 hm with hm|hm
  .rw[A0d.1 hm]at h4;rcases h4 with h4|h4
   .exact gc _ _ _ h4.symm
   .exact gc _ _ _ h4.symm
  .rw[A0b]at hm;obtain⟨a,-,rfl⟩:=hm;rcases h4 with h4|h4
   .exact gb _ _ _ h4.symm
   .exact gb _ _ _ h4.symm
 .exact(List.Pairwise.map iE (λa b BI h=>BI (vz h)) hn)
 .intro x hx hm;rw[A0b]at hx;obtain⟨a,-,rfl⟩:=hx;exact ti _ _ (A0d.1 hm)
theorem bo {m:I6} {r n:Nar} {f:ByteArray->Int} (he:Py r=CA f n) {me:J1} {role:Nat} (q:Nat):(bn m r me role q).map E3=Sv f n me role q:=by
 obtain⟨-,e2,e3,-,e5,-⟩:=t7 he;have eq:(r.steps.take q).map Mz=(n.steps.take q).map (CB f):=by rw[A02,A02,e5]
 unfold bn Sv;rw[Pt,jZ eq,Pt,A0c,A0c,e2,e3,UT,kJ m (true,true),A0Z,A0r,th]
theorem UV {t:Tm} (h:Gh t=0):t.size<=40:=by
 unfold Gh at h;split at h
 .rename_i h1;exact absurd h h1
 .split at h
  .omega
  .omega
theorem aK {n:Nar} (h:Rd n=0):2<=n.roles.length/\n.roles.length<=4/\n.fresh.length<=12/\n.tags.length<=8/\1<=n.steps.length/\n.steps.length<=8/\n.goals.length<=8:=by
 unfold Rd at h
 repeat' split at h
 all_goals omega
theorem Yj (f:ByteArray->Int):∀(N:Nat) (t:Tm),t.size<=N->(CO f t).size=t.size:=by
 intro N
 induction N with
 |zero=>intro t h;have:=t.size_pos;omega
 |succ N ih =>
  intro t h;obtain⟨k,nm,s,m,l⟩:=t;have e:Tm.size (.mk k nm s m l)=1+Tm.sizes l:=rfl;have key:∀l:List Tm,Tm.sizes l<=N->Tm.sizes (o7 f l)=Tm.sizes l:=by
   intro l
   induction l with
   |nil=>intro _;rfl
   |cons a l ihl =>
    intro hl;simp only[Tm.sizes]at hl;simp only[o7,Tm.sizes];rw[ih a (by omega),ihl (by omega)]
  show Tm.size (.mk k nm _ (false,false) (o7 f l))=_;rw[Tm.size,key l (by omega),e]
theorem Iu {r n:Nar} {f:ByteArray->Int} (hR:Pe n=0) (he:Py r=CA f n):Smol r n/\Smol r r:=by
 obtain⟨h1,h2,h3⟩:=GF hR;have hs:=aK (Ti h1).2;obtain⟨-,e2,e3,-,e5,-⟩:=t7 he;have Wn:r.steps.length=n.steps.length:=by have:=congrArg A0z e5;simpa using this
 have hmsg:∀s∈r.steps,s.msg.size<=1048576:=λs hs=>by
  have hm:Mz s∈n.steps.map (CB f):=by rw[←e5];exact A0g hs
  obtain⟨s',hs',e⟩:=A0b.1 hm;unfold Mz CB at e;injection e with _ _ e _
  have h4:=UV (QY (h2 s' hs'));have h5:=Yj f _ s'.msg (A0k _);rw[e,CK _ _ (A0k _)]at h5;omega
 exact⟨⟨by rw[e2];omega,by omega,by omega,hmsg⟩,⟨by rw[e2];omega,by rw[e3];omega,by omega,hmsg⟩⟩
end Go.Abs.Q
namespace Go.Abs.Q
open Go.Proofs
attribute [local simp] E6 E8 fin K1 H2 P7 M6 R4 R3
theorem tg {l:G7} {N:Nat} (h:∀x∈l,x.size<=N):Tm.sizes l<=l.length*N:=by
 induction l with
 |nil=>simp[Tm.sizes]
 |cons a l ih =>
  have h1:=h a A0m;have h2:=ih λx hx=>h x (A0i _ hx);rw[Tm.sizes,A1D,Nat.succ_mul];omega
theorem Xp {r n:Nar} {f:ByteArray->Int} (hR:Pe n=0) (he:Py r=CA f n):∀s∈r.steps,s.msg.size<=40:=λs hs=>by
 obtain⟨h1,h2,h3⟩:=GF hR;obtain⟨-,e2,e3,-,e5,-⟩:=t7 he;have hm:Mz s∈n.steps.map (CB f):=by rw[←e5];exact A0g hs
 obtain⟨s',hs',e⟩:=A0b.1 hm;unfold Mz CB at e;injection e with _ _ e _
 have h4:=UV (QY (h2 s' hs'));have h5:=Yj f _ s'.msg (A0k _);rw[e,CK _ _ (A0k _)]at h5;omega
theorem GY {r n:Nar} {f:ByteArray->Int} (he:Py r=CA f n):r.roles=n.roles/\r.fresh=n.fresh/\r.steps.length=n.steps.length:=by
 obtain⟨-,e2,e3,-,e5,-⟩:=t7 he;exact⟨e2,e3,by have:=congrArg A0z e5;simpa using this⟩
mutual
theorem Zi:∀t:Tm,E3 (E3 t)=E3 t
 | .mk k nm s m l=>by rw[E3,E3,lC l]
theorem lC:∀l:List Tm,H5 (H5 l)=H5 l
 | []=>rfl
 |t::l=>by rw[H5,H5,Zi t,lC l]
end
end Go.Abs.Q
namespace Go.Abs.Q
open Go.Proofs
def NG (x:Tm):Prop:=(x.kind=2/\0<=x.sort/\x.sort<=5/\x.kids=[]/\U8 x.name=true/\QP x.name (bs [101,35])=false) \/
 (x.kind=3/\x.sort=0/\x.name∈AX/\Ly x.name x.kids.length=true/\Yv x.name x.kids=0)
def Hv (t:Tm):Prop:=∀x∈DC t,NG x
theorem eJ:∀a∈AX,U8 a=true/\EE a≠0/\∀n,Ly a n=true->n<=2:=by
 intro a ha;have h1:(AX.all λa=>U8 a&&decide (EE a≠0)&&decide ((NZ a).2.2.1<=2))=true:=by decide
 have h2:=List.all_eq_true.1 h1 a ha;simp only[A0a,decide_eq_true_eq]at h2;refine⟨h2.1.1,h2.1.2,λn hn=>?_⟩;unfold Ly at hn;simp only[A0a,decide_eq_true_eq]at hn;omega
theorem Hv.kid {t x:Tm} (h:Hv t) (hx:x∈t.kids):Hv x:=λy hy=>h y (by
 rw[AL,G3];exact A0i _ (A0t.2 ⟨x,hx,hy⟩))
theorem Hv.root {t:Tm} (h:Hv t):NG t:=h t (by rw[AL];exact A0m)
theorem kS {t:Tm} (h:NG t) (hk:∀x∈t.kids,Hv x):Hv t:=λy hy=>by
 rw[AL,G3]at hy;rcases A0f.1 hy with rfl|hy
 .exact h
 .obtain⟨x,hx,hy⟩:=A0t.1 hy;exact hk x hx y hy
theorem mD:∀(N:Nat) (t:Tm),t.size<=N->Hv t->I9 t=0/\Us t=0:=by
 intro N
 induction N with
 |zero=>intro t h;have:=t.size_pos;omega
 |succ N ih =>
  intro t hs h;have hr:=h.root;have hkid:∀x∈t.kids,I9 x=0/\Us x=0:=λx hx=>ih x (by have:=Tm.size_le hx;have:=t.kids_size;omega) (h.kid hx);obtain⟨k,nm,s,m,l⟩:=t;simp only[Tm.kids]at hkid;have e1:M1 l=0:=by
   clear hr hs h ih
   induction l with
   |nil=>rfl
   |cons a l ihl =>
    have h1:=hkid a A0m;have h2:=ihl λx hx=>hkid x (A0i _ hx);rw[M1,h1.1,h2];simp
  have e2:Na l=0:=by
   clear hr hs h ih e1
   induction l with
   |nil=>rfl
   |cons a l ihl =>
    have h1:=hkid a A0m;have h2:=ihl λx hx=>hkid x (A0i _ hx);rw[Na,h1.2,h2];simp
  rcases hr with ⟨q1,q2,q3,q4,q5,q6⟩|⟨q1,q2,q3,q4,q5⟩
  .simp only[Tm.kind,Tm.sort,Tm.kids,Tm.name]at q1 q2 q3 q4 q5;subst q1 q4;refine⟨?_,by rw[Us];simp⟩;have:s7 2 s nm 0=0:=by
    unfold s7;rw[if_neg (by omega),if_neg (by simp[q5]),if_neg (by omega)]
   rw[I9,A1E,this];simp[M1]
  .simp only[Tm.kind,Tm.sort,Tm.kids,Tm.name]at q1 q2 q3 q4 q5;subst q1 q2;obtain⟨f1,f2,f3⟩:=eJ nm q3;have hl:=f3 _ q4;have:s7 3 0 nm l.length=0:=by
    unfold s7;rw[if_neg (by omega),if_neg (by simp[f1]),if_neg (by omega)]
   refine⟨by rw[I9,this,e1];simp,?_⟩;rw[Us];rw[if_neg (by omega),if_neg f2,if_neg (by simp[q4]),if_neg (by simp[q5])];exact e2
theorem Hv.good {t:Tm} (h:Hv t) (hs:t.size<=40):GoodT t:=by
 obtain⟨h1,h2⟩:=mD _ t (A0k _) h;refine⟨λx hx hk=>?_,?_,?_,λx hx hk=>?_⟩
 .rcases h x hx with q|q
  .have:=q.1;omega
  .exact q.2.2.1
 .unfold vE;have hv:R9 t=0:=by
   unfold R9;have:=iX t;rw[if_neg (by simp[h1]),if_neg (by omega)]
  rw[if_neg (by simp[hv]),h2]
 .unfold vJ;rw[List.isEmpty_iff,List.filter_eq_nil_iff];intro x hx;rcases h x hx with q|q<;>have:=q.1<;>simp<;>omega
 .rcases h x hx with q|q
  .exact q.2.2.2.2.2
  .have:=q.1;omega
theorem zw {t:Tm} (h:NG (E3 t)):NG t:=by
 obtain⟨k,nm,s,m,l⟩:=t;simp only[NG,E3,Tm.kind,Tm.sort,Tm.kids,Tm.name]at h ⊢;rw[kc,E4,A0j]at h;rcases h with ⟨q1,q2,q3,q4,q5,q6⟩|h
 .exact .inl ⟨q1,q2,q3,by simpa using q4,q5,q6⟩
 .exact .inr h
theorem Pn {t:Tm} (h:Hv (E3 t)):Hv t:=λx hx=>zw (h _ (by rw[VK];exact A0g hx))
inductive Wt (ro:ByteArray->Prop) (ok:ByteArray->Int->Prop):Tm->Prop
 |atom (a:ByteArray) (s:Int) (h:ok a s):Wt ro ok (.mk 2 a s (false,false) [])
 |pair (x y:Tm) (hx:Wt ro ok x) (hy:Wt ro ok y):Wt ro ok (.mk 3 (bs [112,97,105,114]) 0 (false,false) [x,y])
 |enc (x y:Tm) (hx:Wt ro ok x) (hy:Wt ro ok y):Wt ro ok (.mk 3 (bs [101,110,99]) 0 (false,false) [x,y])
 |hash (x:Tm) (hx:Wt ro ok x):Wt ro ok (.mk 3 (bs [104,97,115,104]) 0 (false,false) [x])
 |aenc (x:Tm) (r:ByteArray) (hx:Wt ro ok x) (hr:ro r):Wt ro ok (.mk 3 (bs [97,101,110,99]) 0 (false,false) [x,iE r])
 |sign (x:Tm) (r:ByteArray) (hx:Wt ro ok x) (hr:ro r):Wt ro ok (.mk 3 (bs [115,105,103,110]) 0 (false,false) [x,qJ r])
 |pk (r:ByteArray) (hr:ro r):Wt ro ok (iE r)
 |shk (a b:ByteArray) (ha:ro a) (hb:ro b) (P4:a≠b):Wt ro ok (qI a b)
def XE (a:ByteArray):Prop:=U8 a=true/\QP a (bs [101,35])=false
theorem SN {a:J1} {s:Int} {m:I6} (h:XE a) (h1:0<=s) (h2:s<=5):Hv (.mk 2 a s m []) :=
 kS (.inl ⟨rfl,h1,h2,rfl,h.1,h.2⟩) (λx hx=>nomatch hx)
theorem La {nm:J1} {m:I6} {l:G7} (h:nm∈AX) (hf:Ly nm l.length=true) (ha:Yv nm l=0) (hl:∀x∈l,Hv x):Hv (.mk 3 nm 0 m l) :=
 kS (.inr ⟨rfl,rfl,h,hf,ha⟩) hl
theorem VJ {nm:J1} {l:G7} (h:nm≠bs [115,107]/\nm≠bs [115,104,107]/\nm≠bs [110,101,119]):Yv nm l=0:=by
 unfold Yv;rw[if_neg (by simp[h.1,h.2.1]),if_neg h.2.2]
theorem uc {P:Tm->Prop} {x:Tm} (h:P x):∀z∈[x],P z:=λz hz=>by rw[A0d.1 hz];exact h
theorem bP {P:Tm->Prop} {x y:Tm} (h:P x) (k:P y):∀z∈[x,y],P z:=λz hz=>by
 rcases A0f.1 hz with rfl|hz
 .exact h
 .rw[A0d.1 hz];exact k
theorem bA {a:J1} (h:XE a):Hv (E3 (IK a)):=SN h (by omega) (by omega)
theorem bD {a:J1} (h:XE a):Hv (qJ a) :=
 La (l:=[E3 (IK a)]) (by simp[AX]) rfl rfl λx hx=>by rw[A0d.1 hx];exact bA h
theorem bB {a:J1} (h:XE a):Hv (iE a) :=
 La (l:=[qJ a]) (by simp[AX]) rfl (VJ (by decide)) λx hx=>by rw[A0d.1 hx];exact bD h
theorem bC {a b:J1} (h:XE a) (h':XE b):Hv (qI a b) :=
 La (l:=[E3 (IK a),E3 (IK b)]) (by simp[AX]) rfl rfl λx hx=>by
  rcases A0f.1 hx with rfl|hx
  .exact bA h
  .rw[A0d.1 hx];exact bA h'
theorem Wt.allN {ro:ByteArray->Prop} {ok:ByteArray->Int->Prop} (hr:∀a,ro a->XE a) (ho:∀a s,ok a s->XE a/\0<=s/\s<=5) {t:Tm} (h:Wt ro ok t):Hv t:=by
 induction h with
 |atom a s h=>obtain⟨h1,h2,h3⟩:=ho a s h;exact SN h1 h2 h3
 |pair x y _ _ ix iy=>exact La (by simp[AX]) rfl (VJ (by decide)) (bP ix iy)
 |enc x y _ _ ix iy=>exact La (by simp[AX]) rfl (VJ (by decide)) (bP ix iy)
 |hash x _ ix=>exact La (by simp[AX]) rfl (VJ (by decide)) (uc ix)
 |aenc x r _ h ix=>exact La (by simp[AX]) rfl (VJ (by decide)) (bP ix (bB (hr r h)))
 |sign x r _ h ix=>exact La (by simp[AX]) rfl (VJ (by decide)) (bP ix (bD (hr r h)))
 |pk r h=>exact bB (hr r h)
 |shk a b h h' _=>exact bC (hr a h) (hr b h')
theorem tN {a:J1} (h:Qn a=false):QP a (bs [101,35])=false:=by
 unfold QP;by_cases h1:(M3 a).take (bs [101,35]).size=M3 (bs [101,35])
 .exfalso
  have e1:M3 (bs [101,35])=[101,35]:=by decide
  have e2:(bs [101,35]).size=2:=by decide
  rw[e1,e2]at h1;unfold Qn at h;have hm:(35:UInt8)∈M3 a:=A0u (i:=2) (by rw[h1];simp);rw[List.contains_iff_mem.2 hm]at h;cases h
 .rw[show decide ((M3 a).take (bs [101,35]).size=M3 (bs [101,35]))=false from decide_eq_false h1,Bool.and_false]
theorem ef {a:J1} (h:P5 a=true):U8 a=true:=by
 unfold P5 at h;rw[A0a]at h;exact h.1
theorem Th {n:Nar} (h:KV n=0):(∀a∈n.roles,U8 a=true)/\(∀f∈n.fresh,U8 f.name=true/\2<=f.sort/\f.sort<=4)/\∀a∈n.tags,U8 a=true:=by
 unfold KV at h;split at h
 .omega
 .split at h
  .rename_i h1;exact absurd h h1
  .split at h
   .omega
   .rename_i h1;split at h
    .rename_i h2;exact absurd h h2
    .rename_i h2;split at h
     .omega
     .rename_i h3;have key:∀l:List ByteArray,¬l.any JC=true->∀a∈l,U8 a=true:=λl hl a ha=>by
       refine ef ?_;cases hb:P5 a with
       |true=>rfl
       |false=>exact absurd (A0l.2 ⟨a,ha,by simp[JC,hb]⟩) hl
      refine⟨key _ h1,λf hf=>?_,key _ h3⟩;have h4:D3 Lm n.fresh=0:=by
       apply Classical.byContradiction;exact h2
      have h5:=Ew h4 f hf;unfold Lm at h5;split at h5
      .omega
      .rename_i h6;split at h5
       .omega
       .exact⟨ef (by
         cases hb:P5 f.name with
         |true=>rfl
         |false=>exact absurd (.inr hb) h6),by omega,by omega⟩
theorem Xt {n:Nar} (h:Right n):∀a∈B5 n,XE a:=λa ha=>by
 obtain⟨k1,k2,k3⟩:=Th (GF h.nar).1;refine⟨?_,tN ((WD h.dec).2 a ha)⟩;unfold B5 at ha;rcases A0h.1 ha with ha|ha
 .rcases A0h.1 ha with ha|ha
  .exact k1 a ha
  .obtain⟨f,hf,rfl⟩:=A0b.1 ha;exact(k2 f hf).1
 .exact k3 a ha
theorem tr {n:Nar} (h:Right n) (a:J1):0<=J9 (B5 n) (G2 n) a/\J9 (B5 n) (G2 n) a<=5:=by
 obtain⟨k1,k2,k3⟩:=Th (GF h.nar).1;unfold J9;split
 .rw[A01];cases hx:(G2 n)[(idx (U7 a) (B5 n)).toNat]? with
  |none=>simp
  |some x =>
   have hm:=A1B hx;simp only[Option.getD_some];unfold G2 at hm;rcases A0h.1 hm with hm|hm
   .rcases A0h.1 hm with hm|hm
    .obtain⟨_,_,rfl⟩:=A0b.1 hm;omega
    .obtain⟨f,hf,rfl⟩:=A0b.1 hm;have:=(k2 f hf).2;omega
   .obtain⟨_,_,rfl⟩:=A0b.1 hm;omega
 .omega
theorem Vw {α:Type} (p:α->Bool):∀(l l':List α) (i:Nat),l.any p=true->Q2 p i (l++l')=Q2 p i l
 | [],l',i,h=>by simp at h
 |a::l,l',i,h=>by
  rw[List.cons_append];unfold Q2;by_cases hp:p a=true
  .rw[if_pos hp,if_pos hp]
  .rw[if_neg hp,if_neg hp];refine Vw p l l' _ ?_;rw[A1G]at h;simpa[hp]using h
theorem qB {n:Nar} {a:J1} (h:a∈n.roles):J9 (B5 n) (G2 n) a=1:=by
 have h1:n.roles.any (U7 a)=true:=A0l.2 ⟨a,h,(GW a a).2 rfl⟩;have h2:(B5 n).any (U7 a)=true:=WM n a h1;unfold J9;rw[if_pos h2];have e:idx (U7 a) (B5 n)=idx (U7 a) n.roles:=by
  unfold idx B5;rw[A0n];exact Vw _ _ _ _ h1
 have hge:=(Dh (U7 a) n.roles 0).2 h1;have A7:=Ke (U7 a) n.roles 0;rw[e];have hi:(idx (U7 a) n.roles).toNat<n.roles.length:=by unfold idx;omega
 rw[A01];have:(G2 n)[(idx (U7 a) n.roles).toNat]?=some 1:=by
  unfold G2;rw[A0n,List.getElem?_append_left (by simpa using hi),List.getElem?_map,A0e hi];rfl
 rw[this];rfl
theorem Yi {rs:List ByteArray} {f:ByteArray->Int} (hf:∀a∈rs,f a=1) {t:Tm} (hn:I9 t=0) (h:Bz rs t=true):∃a∈rs,t.name=a/\CO f t=E3 (IK a):=by
 obtain⟨k,nm,s,m,l⟩:=t;obtain⟨h1,_⟩:=Q4 hn;rw[Bz,A0a]at h;have hk:k=2:=of_decide_eq_true h.1;have hr:rs.any (U7 nm)=true:=h.2;obtain⟨a,ha,he⟩:=A0l.1 hr;rw[GW]at he;subst he;have hl:l=[]:=A0q ((HB h1).2.1 (.inr hk));subst hl hk;refine⟨nm,ha,rfl,?_⟩;rw[CO,if_pos rfl,hf nm ha];rfl
theorem gh {rs:List ByteArray} {f:ByteArray->Int} (hf:∀a∈rs,f a=1) {t:Tm} (hn:I9 t=0) (h:CP rs t=true):∃a∈rs,CO f t=qJ a:=by
 obtain⟨k,nm,s,m,l⟩:=t;obtain⟨h1,h2⟩:=Q4 hn;rw[CP,A0a,t6,A0a,A0a]at h;obtain⟨⟨⟨hk0,hnm0⟩,hl0⟩,hff⟩:=h;have hk:k=3:=of_decide_eq_true hk0;have hnm:nm=bs [115,107]:=of_decide_eq_true hnm0;have hl:(l.length:Int)=1:=of_decide_eq_true hl0;clear hk0 hnm0 hl0
 replace hff:Tg (Bz rs) l=true:=hff
 subst hk hnm
 replace hl:l.length=1:=by omega
 have hs:s=0:=by
  unfold s7 at h1;split at h1
  .omega
  .omega
 match l,hl,hff,h2 with
 | [a],_,hff,h2 =>
  obtain⟨r,hr,_,e⟩:=Yi hf (K0 h2 a (by simp)) hff;refine⟨r,hr,?_⟩;rw[CO,if_neg (by omega),o7,o7,e,hs];rfl
theorem gi {rs:List ByteArray} {f:ByteArray->Int} (hf:∀a∈rs,f a=1) {t:Tm} (hn:I9 t=0) (h:Hj rs t=true):∃a∈rs,CO f t=iE a:=by
 obtain⟨k,nm,s,m,l⟩:=t;obtain⟨h1,h2⟩:=Q4 hn;rw[Hj,A0a,t6,A0a,A0a]at h;obtain⟨⟨⟨hk0,hnm0⟩,hl0⟩,hff⟩:=h;have hk:k=3:=of_decide_eq_true hk0;have hnm:nm=bs [112,107]:=of_decide_eq_true hnm0;have hl:(l.length:Int)=1:=of_decide_eq_true hl0;clear hk0 hnm0 hl0
 replace hff:Tg (CP rs) l=true:=hff
 subst hk hnm
 replace hl:l.length=1:=by omega
 have hs:s=0:=by
  unfold s7 at h1;split at h1
  .omega
  .omega
 match l,hl,hff,h2 with
 | [a],_,hff,h2 =>
  obtain⟨r,hr,e⟩:=gh hf (K0 h2 a (by simp)) hff;refine⟨r,hr,?_⟩;rw[CO,if_neg (by omega),o7,o7,e,hs];rfl
theorem tP {k:Int} {nm:J1} {s:Int} {m:I6} {l:G7} (h:NS (.mk k nm s m l)=0):k≠1/\s=0/\∀x∈l,NS x=0:=by
 rw[NS]at h;split at h
 .omega
 .rename_i h1;split at h
  .omega
  .refine⟨λe=>h1 (.inl e),by
    apply Classical.byContradiction;exact λe=>h1 (.inr e),?_⟩
   clear h1
   induction l with
   |nil=>exact λx hx=>nomatch hx
   |cons a l ih =>
    rw[NT]at h;by_cases ha:NS a=0
    .rw[if_neg (by simp[ha])]at h;intro x hx;rcases A0f.1 hx with rfl|hx
     .exact ha
     .exact ih h x hx
    .rw[if_pos ha]at h;exact absurd h ha
def atN (n:Nar) (a:ByteArray) (s:Int):Prop:=a∈B5 n/\s=J9 (B5 n) (G2 n) a
theorem A0B {n:Nar}:∀(N:Nat) (t:Tm),t.size<=N->I9 t=0->NS t=0->y8 (B5 n) n.roles t=0->Wt (·∈n.roles) (atN n) (CO (J9 (B5 n) (G2 n)) t):=by
 have hf:∀a∈n.roles,J9 (B5 n) (G2 n) a=1:=λa ha=>qB ha;intro N
 induction N with
 |zero=>intro t h;have:=t.size_pos;omega
 |succ N ih =>
  intro t hn P4 hraw hs;obtain⟨k,nm,s,m,l⟩:=t;have J4:Tm.size (.mk k nm s m l)=1+Tm.sizes l:=rfl;obtain⟨h1,h2⟩:=Q4 P4;obtain⟨w1,w2,w3⟩:=tP hraw;subst w2;have one:∀t∈l,y8 (B5 n) n.roles t=0->Wt (·∈n.roles) (atN n) (CO (J9 (B5 n) (G2 n)) t):=λt ht h0=>ih t (by have:=Tm.size_le ht;omega) (K0 h2 t ht) (w3 t ht) h0;have nk:=λt (ht:t∈l)=>K0 h2 t ht;by_cases hk:k=3
  .subst hk;rw[CO,if_neg (by omega)];rw[Sn]at hs;simp only[Tm.kind,ne_eq,not_true,if_false]at hs;split at hs
   .omega
   .rename_i hkd;have t8:=Ew hs;rw[lM]at t8 hkd;simp only[Tm.kids]at t8;by_cases c1:nm=bs [112,97,105,114]/\(l.length:Int)=2\/nm=bs [101,110,99]/\(l.length:Int)=2
    .rw[if_pos c1]at t8;have hl:l.length=2:=by omega
     match l,hl,t8,one with
     | [a,b],_,t8,one =>
      have ha:=one a (by simp) (t8 a (by simp));have hb:=one b (by simp) (t8 b (by simp));rw[o7,o7,o7];rcases c1 with ⟨rfl,_⟩|⟨rfl,_⟩
      .exact .pair _ _ ha hb
      .exact .enc _ _ ha hb
    .rw[if_neg c1]at t8 hkd;by_cases c2:nm=bs [104,97,115,104]/\(l.length:Int)=1
     .rw[if_pos c2]at t8;have hl:l.length=1:=by omega
      match l,hl,t8,one with
      | [a],_,t8,one =>
       obtain⟨rfl,_⟩:=c2;exact .hash _ (one a (by simp) (t8 a (by simp)))
     .rw[if_neg c2]at t8 hkd;by_cases c3:(nm=bs [97,101,110,99]/\(l.length:Int)=2)/\QV (Hj n.roles) l=true\/(nm=bs [115,105,103,110]/\(l.length:Int)=2)/\QV (CP n.roles) l=true
      .rw[if_pos c3]at t8;have hl:l.length=2:=by omega
       match l,hl,t8,one,c3,nk with
       | [a,b],_,t8,one,c3,nk =>
        have ha:=one a (by simp) (t8 a (by simp));rw[o7,o7,o7];rcases c3 with ⟨⟨rfl,_⟩,hb⟩|⟨⟨rfl,_⟩,hb⟩
        .obtain⟨r,hr,e⟩:=gi hf (nk b (by simp)) hb;rw[e];exact .aenc _ r ha hr
        .obtain⟨r,hr,e⟩:=gh hf (nk b (by simp)) hb;rw[e];exact .sign _ r ha hr
      .rw[if_neg c3]at t8 hkd;by_cases c4:Hj n.roles (.mk 3 nm 0 m l)=true\/Vf n.roles (.mk 3 nm 0 m l)=true
       .rcases c4 with c4|c4
        .obtain⟨r,hr,e⟩:=gi hf P4 c4;rw[CO,if_neg (by omega)]at e;rw[e];exact .pk r hr
        .rw[Vf,A0a,A0a,A0a,iQ]at c4;obtain⟨⟨⟨⟨rfl,hl⟩,ha⟩,hb⟩,hd⟩:=c4
         replace ha:Tg (Bz n.roles) l=true:=ha
         replace hb:QV (Bz n.roles) l=true:=hb
         replace hd:uu l=true:=hd
         have hl:l.length=2:=by omega
         match l,hl,ha,hb,nk,hd with
         | [a,b],_,ha,hb,nk,hd =>
          obtain⟨r,hr,e1,e⟩:=Yi hf (nk a (by simp)) ha;obtain⟨r',hr',e1',e'⟩:=Yi hf (nk b (by simp)) hb;rw[o7,o7,o7,e,e'];refine .shk r r' hr hr' λhe=>?_;have:a.name≠b.name:=of_decide_eq_true hd;exact this (by rw[e1,e1',he])
       .rw[if_neg c4]at hkd;omega
  .have hb:=(HB h1);have hk2:k=2:=by rcases hb.2.2.1 with h|h|h<;>omega
   subst hk2;have hl:l=[]:=A0q (hb.2.1 (.inr rfl));subst hl;rw[Sn]at hs;simp only[Tm.kind,ne_eq,hk,not_false_eq_true,if_true,Tm.name]at hs;by_cases h:(B5 n).any (U7 nm)=true
   .obtain⟨a,ha,he⟩:=A0l.1 h;rw[GW]at he;subst he;rw[CO,if_pos rfl];exact .atom nm _ ⟨ha,rfl⟩
   .replace hs:(if (B5 n).any (U7 nm)=true then (0:Int)else 13)=0:=hs
    rw[if_neg h]at hs;omega
theorem vY {t:Tm} (h:Gh t=0):NS t=0:=by
 have h1:Ls t=0:=by
  apply Classical.byContradiction;intro hc;unfold Gh at h;rw[if_pos hc]at h;exact hc h
 unfold Ls at h1;have hv:R9 t=0:=by
  apply Classical.byContradiction;intro hc;rw[if_pos hc]at h1;exact hc h1
 rw[if_neg (by simp[hv])]at h1;exact h1
theorem Right.role_ok {n:Nar} (h:Right n):∀a,a∈n.roles->XE a:=λa ha=>Xt h a (by unfold B5;simp[ha])
theorem Right.at_ok {n:Nar} (h:Right n):∀a s,atN n a s->XE a/\0<=s/\s<=5:=λa s ha=>by
 obtain⟨h1,rfl⟩:=ha;exact⟨Xt h a h1,tr h a⟩
theorem Right.msg {n:Nar} (h:Right n) {s:Ste} (hs:s∈n.steps):Wt (·∈n.roles) (atN n) (CO (J9 (B5 n) (G2 n)) s.msg)/\s.msg.size<=40:=by
 have h1:=QY ((GF h.nar).2.1 s hs);exact⟨A0B _ _ (A0k _) (Kh h1) (vY h1) (gZ (h.steps s hs)),UV h1⟩
end Go.Abs.Q
namespace Go.Abs.Q
open Go.Proofs
attribute [local simp] E6 E8 fin K1 H2 P7 M6 R4 R3
open Classical in
noncomputable def eF (k:List Tm) (t:Tm):Nat:=if h:∃U,L9 U (alls (k++[t]))then h.choose.length else 0
theorem mM {U U' l l':G7} (h:L9 U l) (h':L9 U' l') (e:∀e,e∈l.map E3↔e∈l'.map E3):U.length=U'.length:=by
 have:=dp h h' e;rw[E4,E4]at this;simpa using congrArg A0z this
theorem Wh {k:G7} {t:Tm} {U:G7} (h:L9 U (alls (k++[t]))):eF k t=U.length:=by
 unfold eF;rw[dif_pos ⟨U,h⟩];exact mM (l:=alls (k++[t])) (l':=alls (k++[t])) (Exists.choose_spec (⟨U,h⟩:∃U,L9 U (alls (k++[t])))) h λ_=>Iff.rfl
theorem Ld {l l':G7} (h:l.map E3=l'.map E3):(alls l).map E3=(alls l').map E3:=by
 rw[←Wf,←Wf,E4,E4,h]
theorem lB {k k':G7} {t t':Tm} (h:k.map E3=k'.map E3) (ht:E3 t=E3 t'):(k++[t]).map E3=(k'++[t']).map E3:=by
 rw[A0c,A0c,h,A0Z,A0Z,ht,A0r]
theorem Mo {U l l':G7} (h:L9 U l) (e:l.map E3=l'.map E3):L9 U l':=⟨h.1,λx=>by rw[←e];exact h.2 x⟩
theorem ul {k k':G7} {t t':Tm} (h:k.map E3=k'.map E3) (ht:E3 t=E3 t'):eF k t=eF k' t':=by
 have e:=Ld (lB h ht);have hiff:(∃U,L9 U (alls (k++[t])))↔∃U,L9 U (alls (k'++[t'])):=⟨λ⟨U,hU⟩=>⟨U,Mo hU e⟩,λ⟨U,hU⟩=>⟨U,Mo hU e.symm⟩⟩;by_cases hx:∃U,L9 U (alls (k++[t]))
 .obtain⟨U,hU⟩:=hx;rw[Wh hU,Wh (Mo hU e)]
 .unfold eF;rw[dif_neg hx,dif_neg λh=>hx (hiff.2 h)]
theorem kT {k k':G7} {t t':Tm} (h:k.map E3=k'.map E3) (ht:E3 t=E3 t'):UC k t↔UC k' t':=by
 have e:=Ld (lB h ht);unfold UC;rw[ht];exact⟨PO (λx hx=>by rw[←h];exact hx) (λx hx=>by rw[←e];exact hx),PO (λx hx=>by rw[h];exact hx) (λx hx=>by rw[e];exact hx)⟩
open Classical in
noncomputable def S7 (k:List Tm) (t:Tm):Int×Bool:=if 60<k.length\/200<eF k t then (3,false)else (0,decide (UC k t))
theorem SW {k k':G7} {t t':Tm} (h:k.map E3=k'.map E3) (ht:E3 t=E3 t'):S7 k t=S7 k' t':=by
 have hl:k.length=k'.length:=by simpa using congrArg A0z h
 have e2:(@decide (UC k t) (Classical.propDecidable _))=@decide (UC k' t') (Classical.propDecidable _):=by
  by_cases hd:UC k t
  .rw[@decide_eq_true _ (Classical.propDecidable _) hd,@decide_eq_true _ (Classical.propDecidable _) ((kT h ht).1 hd)]
  .rw[@decide_eq_false _ (Classical.propDecidable _) hd,@decide_eq_false _ (Classical.propDecidable _) λk=>hd ((kT h ht).2 k)]
 unfold S7;rw[hl,ul h ht,e2]
theorem cP (m:I6) (k:G7) (t:Tm) (hk:∀x∈k,GoodT x) (ht:GoodT t) (Bs:k.length<=1048576) :
  pc Q R8 [sl m 4 (A4 k),B9 t]=some (.tup [.bool (S7 k t).2,.int .i64 (S7 k t).1]):=by
 obtain⟨U,h1,h2⟩:=cQ m k t hk ht Bs;rw[h1];unfold xd S7;by_cases hc:k.length<=60
 .rw[Wh (h2 hc)];split<;>rfl
 .rw[if_pos (.inl (by omega)),if_pos (.inl (by omega))]
open Classical in
theorem mn {k:G7} {t:Tm} (h:(S7 k t).2=true):(S7 k t).1=0/\UC k t:=by
 unfold S7 at h ⊢;split at h
 .cases h
 .rename_i hc;rw[if_neg hc];exact⟨rfl,of_decide_eq_true h⟩
theorem UR {m:I6} {r n:Nar} (hR:Right n) (he:Py r=CA (J9 (B5 n) (G2 n)) n) {me:J1} (hme:me∈n.roles) {role q:Nat} {x:Tm} (h:x∈TH m r n me role q):Hv x/\x.size<=40:=by
 obtain⟨e2,e3,e5⟩:=GY he;have ro:=hR.role_ok;rcases vR h with rfl|⟨a,ha,rfl⟩|h|h|⟨s,h1,_,rfl⟩
 .exact⟨Pn (bD (ro me hme)),by rw[(Mr m me me).1];omega⟩
 .exact⟨Pn (bB (ro a (by rw[←e2];exact ha))),by rw[(Mr m a me).2.1];omega⟩
 .refine⟨?_,by rw[Rp _ _ _ _ _ _ h];omega⟩;obtain⟨j,r',-,-,hj,h4⟩:=XA (A0g (f:=E3) h);have hr':r'∈n.roles:=by rw[←e2];exact A1B hj
  refine Pn ?_;rcases h4 with h4|h4<;>rw[h4]
  .exact bC (ro me hme) (ro r' hr')
  .exact bC (ro r' hr') (ro me hme)
 .refine⟨?_,by rw[PY h];omega⟩;unfold IP at h;rw[A0b]at h;obtain⟨f,hf,rfl⟩:=h;have hf':=(A1F.1 hf).1;obtain⟨-,k2,-⟩:=Th (GF hR.nar).1;have:=k2 f hf';exact SN (Xt hR f.name (by unfold B5;simp only[A0h,A0b];exact .inl (.inr ⟨f,hf',rfl⟩))) (by omega) (by omega)
 .refine⟨?_,Xp hR.nar he s h1⟩;have hm:Mz s∈n.steps.map (CB (J9 (B5 n) (G2 n))):=by rw[←(t7 he).2.2.2.2.1];exact A0g h1
  obtain⟨s',hs',e⟩:=A0b.1 hm;unfold Mz CB at e;injection e with _ _ e _
  refine Pn ?_;rw[←e];exact(hR.msg hs').1.allN hR.role_ok hR.at_ok
theorem UU {r n:Nar} (hR:Right n) (he:Py r=CA (J9 (B5 n) (G2 n)) n) {s:Ste} (hs:s∈r.steps):Hv s.msg/\s.msg.size<=40:=by
 refine⟨?_,Xp hR.nar he s hs⟩;have hm:Mz s∈n.steps.map (CB (J9 (B5 n) (G2 n))):=by rw[←(t7 he).2.2.2.2.1];exact A0g hs
 obtain⟨s',hs',e⟩:=A0b.1 hm;unfold Mz CB at e;injection e with _ _ e _
 refine Pn ?_;rw[←e];exact(hR.msg hs').1.allN hR.role_ok hR.at_ok
theorem dv:∀(N:Nat) (t:Tm),t.size<=N->∀x∈DC t,x.size<=t.size:=by
 intro N
 induction N with
 |zero=>intro t h;have:=t.size_pos;omega
 |succ N ih =>
  intro t h x hx;have J4:=t.kids_size;rw[AL,G3]at hx;rcases A0f.1 hx with rfl|hx
  .exact A0k _
  .obtain⟨y,hy,hx⟩:=A0t.1 hx;have:=Tm.size_le hy;have:=ih y (by omega) x hx;omega
theorem Zc:∀(N:Nat) (t:Tm),t.size<=N->∀x∈DC t,∀y∈DC x,y∈DC t:=by
 intro N
 induction N with
 |zero=>intro t h;have:=t.size_pos;omega
 |succ N ih =>
  intro t h x hx y hy;have J4:=t.kids_size;rw[AL,G3]at hx;rcases A0f.1 hx with rfl|hx
  .exact hy
  .obtain⟨z,hz,hx⟩:=A0t.1 hx;rw[AL,G3];refine A0i _ (A0t.2 ⟨z,hz,?_⟩);have:=Tm.size_le hz;exact ih z (by omega) x hx y hy
theorem gt {R:G7} {t:Tm} (h:L9 R (alls [t])) (hN:Hv t) (hs:t.size<=40):∀x∈R,Hv x/\x.size<=40:=λx hx=>by
 obtain⟨y,hy,e⟩:=SS h hx;rw[alls,alls,A0y]at hy;have h1:Hv y:=λz hz=>hN z (Zc _ t (A0k _) y hy z hz);have h2:=dv _ t (A0k _) y hy;refine⟨Pn ?_,?_⟩
 .rw[←e];intro z hz;rw[VK]at hz;obtain⟨w,hw,rfl⟩:=A0b.1 hz;have:=h1 w hw;obtain⟨k,nm,s,m,l⟩:=w;simp only[NG,E3,Tm.kind,Tm.sort,Tm.kids,Tm.name]at this ⊢;rw[kc,E4,A0j];rcases this with ⟨q1,q2,q3,q4,q5,q6⟩|h
  .exact .inl ⟨q1,q2,q3,by simp[q4],q5,q6⟩
  .exact .inr h
 .have h3:x.size=y.size:=by rw[←CK _ x (A0k _),←e,CK _ y (A0k _)]
  omega
theorem gH (r n:Nar) (hl:r.roles.length<=1000) (a:J1):pc Q Ge [Hk r n,.str a]=some (.int .i64 (idx (U7 a) r.roles)):=by
 have hI:=WE r.rm r.roles a (by omega);simp only[DS]at hI;have sb:=DQ r n;refine N3 KK λfr hl h0 h1=>?_;simp[KK]at hl h0 h1;simp[KK,hl,h0,h1,sb,hI]
def Kr (rs:List ByteArray) (a:ByteArray):Nat:=(idx (U7 a) rs).toNat
theorem QR {rs:List ByteArray} {a:J1} (h:a∈rs):rs[Kr rs a]?=some a/\idx (U7 a) rs=((Kr rs a:Nat):Int):=by
 have h1:rs.any (U7 a)=true:=A0l.2 ⟨a,h,(GW a a).2 rfl⟩;have hge:=(Dh (U7 a) rs 0).2 h1;have A7:=Ke (U7 a) rs 0;have key:∀(l:List ByteArray) (i:Nat),l.any (U7 a)=true->∃j:Nat,Q2 (U7 a) i l=((i+j:Nat):Int)/\l[j]?=some a:=by
  intro l
  induction l with
  |nil=>intro i h;simp at h
  |cons b l ih =>
   intro i h;unfold Q2;by_cases hb:U7 a b=true
   .rw[if_pos hb];exact⟨0,by simp,by rw[(GW a b).1 hb];rfl⟩
   .rw[if_neg hb];rw[A1G]at h;obtain⟨j,j1,j2⟩:=ih (i+1) (by simpa[hb]using h);exact⟨j+1,by rw[j1];congr 1;omega,by simpa using j2⟩
 obtain⟨j,j1,j2⟩:=key rs 0 h1;rw[Nat.zero_add]at j1;have e:Kr rs a=j:=by unfold Kr idx;rw[j1];rfl
 exact⟨by rw[e];exact j2,by rw[e];exact j1⟩
theorem Ks {ns rs:List ByteArray} {s:Ste} (h:HD ns rs s=0):s.frm∈rs/\s.to∈rs/\s.frm≠s.to:=by
 have h1:Nb rs s.frm s.to=0:=by
  unfold HD at h;apply Classical.byContradiction;intro hc;rw[if_pos hc]at h;exact hc h
 unfold Nb at h1;split at h1
 .rename_i h2;split at h1
  .omega
  .rename_i h3;obtain⟨q1,q2⟩:=h2;obtain⟨a,ha,ea⟩:=A0l.1 q1;obtain⟨b,hb,eb⟩:=A0l.1 q2;rw[GW]at ea eb;exact⟨ea ▸ ha,eb ▸ hb,h3⟩
 .omega
end Go.Abs.Q
namespace Go.Abs.Q
open Go.Proofs
attribute [local simp] E6 E8 fin K1 H2 P7 M6 R4 R3
def Tz:Tm:=.mk 0 (bs []) 0 (true,false) []
noncomputable def Gj (k:List Tm) (i:Int):List Tm->Option (Int×Tm×Int)
 | []=>none
 |t::l=>if (S7 k t).1≠0 then some (0,Tz,(S7 k t).1)else if (S7 k t).2=true then Gj k i l else some (i,t,13)
def WU (x:Int×Tm×Int):Int×Tm×Int:=(x.1,E3 x.2.1,x.2.2)
theorem Ur {k k':G7} (h:k.map E3=k'.map E3) (i:Int):∀{l l':G7},l.map E3=l'.map E3->(Gj k i l).map WU=(Gj k' i l').map WU
 | [],[],_=>rfl
 | [],_::_,e=>by simp at e
 |_::_,[],e=>by simp at e
 |t::l,t'::l',e=>by
  rw[A0Z,A0Z,List.cons.injEq]at e;have hd:=SW h e.1;rw[Gj,Gj,hd];split
  .rfl
  .split
   .exact Ur h i e.2
   .simp only[Option.map_some,WU,e.1]
theorem rn (R kk:G7) (mr mk:I6) (B8:R.length<=1000) (hR:∀x∈R,GoodT x/\x.size<=1000) (hk:∀x∈kk,GoodT x) (Bs:kk.length<=10000) (q:Int) (C0 Z SC:G6) (hZ:Z.length=4) (hZm:ED Z=false) (fr:Fr) (h:AH) (B0:List (List AV)) (hB0:h.boxes=C0::Z::SC::B0) (hl:fr.length=83) (h3:A0 fr 3=.ptr 1 0) (h7:A0 fr 7=.int .i64 q) (h9:A0 fr 9=sl mk 4 (A4 kk)) (h56:A0 fr 56=sl mr 4 (A4 R)) (h57:A0 fr 57=.int .i64 R.length) (h58:A0 fr 58=.int .i64 0) :
  B6 (lp (A2 (K8 Q) (D6 W7) W3) (fr,h)) λe C3 h'=>Kp W3.wr fr C3/\((e=.exit 2/\Gj kk q R=none/\∃B,h'.boxes=C0::Z::SC::B)\/(e=.ret/\∃(a c:Int) (t t':Tm),Gj kk q R=some (a,t',c)/\E3 t=E3 t'/\A0 C3 2=.int .i64 a/\A0 C3 4=.int .i64 c/\∃B,h'.boxes=C0::(B9 t).cells::SC::B)):=by
 refine A9 rfl fr (λn fr h'=>∃(i:Nat),i+n=R.length/\A0 fr 58=.int .i64 (i:Nat)/\(∃B,h'.boxes=C0::Z::SC::B)/\Gj kk q (R.drop i)=Gj kk q R) ?_ R.length h ⟨0,by omega,h58,⟨_,hB0⟩,rfl⟩;rintro J Φ hJ hΦ n D4 H1 K ⟨i,hi,k58,hr⟩;have A6:=K.1.trans hl;have k3:=A8 K 3 h3;have k7:=A8 K 7 h7;have k9:=A8 K 9 h9;have k56:=A8 K 56 h56;have k57:=A8 K 57 h57;clear K;by_cases A7:i<R.length
 .have L3:=C6 i (by omega);obtain⟨⟨B,hB⟩,hr⟩:=hr;obtain⟨bx,fams⟩:=H1;simp only at hB;subst hB;have hx:=I0 A7;have hZd:Z.drop 4=[]:=A0o (by omega);rw[A03 A7,Gj]at hr;obtain⟨hg,J4⟩:=hR _ (A0w A7);generalize R[i]=t at *
  have hD:=cP mk kk t hk hg (by omega);generalize hd:S7 kk t=d at *
  obtain⟨de,db⟩:=d;simp only at hD hr;by_cases hde:de=0
  .subst hde;rw[if_neg (by simp)]at hr;cases db with
   |true =>
    simp only[if_true]at hr;simp[W3,A6,k9,k56,k57,k58,A7,L3,hx,hD];exact G0 hJ ⟨i+1,by omega,by simp[A6],⟨_,rfl⟩,hr⟩
   |false =>
    simp only[A00,if_false]at hr;obtain⟨m',l',hC,hCe⟩:=aS _ (true,true) [t] (A0k _) (by simp only[Tm.sizes];omega);rw[show A4 [t]=[B9 t] from rfl]at hC;have Bb:l'.length=1:=by
     have:=congrArg A0z hCe;rw[E4,E4,A0j,A0j]at this;simpa using this
    obtain⟨t2,rfl⟩:∃t2,l'=[t2]:=by
     match l',Bb with
     | [t2],_=>exact⟨t2,rfl⟩
    have he2:E3 t2=E3 t:=by
     rw[E4,E4]at hCe;simpa using hCe
    rw[show A4 [t2]=[B9 t2] from rfl]at hC;simp[W3,A6,k3,k7,k9,k56,k57,k58,A7,hx,hD,A5,hC,hZ,hZm,K5];exact hΦ _ _ _ (.inr ⟨rfl,q,13,t2,t,hr.symm,he2,by simp[A6],by simp[A6],B++[(B9 t).cells],by simp[hZd]⟩)
  .rw[if_pos hde]at hr;simp[W3,A6,k3,k9,k56,k57,k58,A7,hx,hD,hde,C8,D8,hZ,hZm,K5];refine hΦ _ _ _ (.inr ⟨rfl,0,de,Tz,Tz,hr.symm,rfl,by simp[A6],by simp[A6],B++[(B9 t).cells],?_⟩);simp[Tz,Tm.kind,Tm.name,Tm.sort,Tm.cm,Tm.kids,A4,hZd];exact GT 4
 .obtain⟨⟨B,hB⟩,hr⟩:=hr;rw[A0o (by omega),Gj]at hr;simp[W3,A6,k57,k58,A7];exact hΦ _ _ _ (.inl ⟨rfl,hr.symm,B,hB⟩)
open Classical in
noncomputable def NY (t:Tm):List Tm:=if h:∃R,L9 R (alls [t])then h.choose else []
theorem Uq {t t':Tm} {R:G7} (h:L9 R (alls [t])) (e:E3 t=E3 t'):R.map E3=(NY t').map E3:=by
 have hx:∃R,L9 R (alls [t']):=⟨R,Mo h (Ld (by simp[e]))⟩;unfold NY;rw[dif_pos hx];have:=dp (Mo h (Ld (l:=[t]) (l':=[t']) (by simp[e]))) hx.choose_spec λ_=>Iff.rfl
 rwa [E4,E4]at this
noncomputable def SX (kf:ByteArray->Nat->List Tm):Nat->List Ste->Int×Tm×Int
 |_,[]=>(0,Tz,0)
 |i,s::l=>if (S7 (kf s.frm i) s.msg).1≠0 then (0,Tz,(S7 (kf s.frm i) s.msg).1)else if (S7 (kf s.frm i) s.msg).2=true then SX kf (i+1) l else
  match Gj (kf s.frm i) i (NY s.msg)with
  |some x=>x
  |none=>SX kf (i+1) l
theorem rA {kf kf':ByteArray->Nat->List Tm}:∀{l l':List Ste} (i:Nat),(∀s∈l,∀j,j<i+l.length->(kf s.frm j).map E3=(kf' s.frm j).map E3)->l.map Mz=l'.map Mz->WU (SX kf i l)=WU (SX kf' i l')
 | [],[],i,_,_=>rfl
 | [],_::_,i,_,e=>by simp at e
 |_::_,[],i,_,e=>by simp at e
 |s::l,s'::l',i,hk,e=>by
  rw[A0Z,A0Z,List.cons.injEq]at e;obtain⟨e1,e2⟩:=e;unfold Mz at e1;injection e1 with a1 a2 a3 a4
  have hki:=hk s A0m i (by simp);have ih:=rA (kf:=kf) (kf':=kf') (l:=l) (l':=l') (i+1) (λx hx j hj=>hk x (A0i _ hx) j (by simp;omega)) e2;have hd:=SW hki a3;have hsub:(NY s.msg).map E3=(NY s'.msg).map E3:=by
   by_cases hx:∃R,L9 R (alls [s.msg])
   .obtain⟨R,hR⟩:=hx;rw[←Uq hR rfl,Uq hR a3]
   .have hx':¬ ∃R,L9 R (alls [s'.msg]):=λ⟨R,hR⟩=>hx ⟨R,Mo hR (Ld (by simp[a3]))⟩;unfold NY;rw[dif_neg hx,dif_neg hx']
  have hs:=Ur hki (i:Int) hsub;rw[SX,SX,←a1,hd];split
  .rfl
  .split
   .exact ih
   .generalize Gj (kf s.frm i) i (NY s.msg)=o1 at hs;generalize Gj (kf' s.frm i) i (NY s'.msg)=o2 at hs;cases o1 with
    |none =>
     cases o2 with
     |none=>exact ih
     |some y=>simp at hs
    |some x =>
     cases o2 with
     |none=>simp at hs
     |some y=>simpa using hs
theorem rp (r na:Nar) (F:Fine na) (S:Lens na) (hz:(Y0 na).2=0) (hR:Right na) (he:Py r=CA (J9 (B5 na) (G2 na)) na) (C0 Z:G6) (hZ:Z.length=4) (hZm:ED Z=false) (hstl:r.steps.length<=1000) (fr:Fr) (h:AH) (B0:List (List AV)) (hB0:h.boxes=C0::Z::(Hk r na).cells::B0) (hl:fr.length=83) (h3:A0 fr 3=.ptr 1 0) (h5:A0 fr 5=.ptr 2 0) (h27:A0 fr 27=sl r.sm 7 (r.steps.map EP)) (h28:A0 fr 28=.int .i64 r.steps.length) (h29:A0 fr 29=.int .i64 0) :
  B6 (lp (A2 (K8 Q) (D6 W7) W4) (fr,h)) λe C3 h'=>Kp W4.wr fr C3/\((e=.exit 0/\SX (λme i=>TH (true,true) r na me (Kr r.roles me) i) 0 r.steps=(0,Tz,0)/\∃B,h'.boxes=C0::Z::(Hk r na).cells::B)\/(e=.ret/\∃(x:Int×Tm×Int) (t:Tm),WU (SX (λme i=>TH (true,true) r na me (Kr r.roles me) i) 0 r.steps)=WU x/\E3 t=E3 x.2.1/\A0 C3 2=.int .i64 x.1/\A0 C3 4=.int .i64 x.2.2/\∃B,h'.boxes=C0::(B9 t).cells::(Hk r na).cells::B)):=by
 refine A9 rfl fr (λn fr h'=>∃(i:Nat),i+n=r.steps.length/\A0 fr 29=.int .i64 (i:Nat)/\(∃B,h'.boxes=C0::Z::(Hk r na).cells::B)/\SX (λme i=>TH (true,true) r na me (Kr r.roles me) i) i (r.steps.drop i)=SX (λme i=>TH (true,true) r na me (Kr r.roles me) i) 0 r.steps) ?_ r.steps.length h ⟨0,by omega,h29,⟨_,hB0⟩,rfl⟩;rintro J Φ hJ hΦ n D4 H1 K ⟨i,hi,k29,hr⟩;have A6:=K.1.trans hl;have k3:=A8 K 3 h3;have k5:=A8 K 5 h5;have k27:=A8 K 27 h27;have k28:=A8 K 28 h28;clear K;by_cases A7:i<r.steps.length
 .have L3:=C6 i (by omega);obtain⟨⟨B,hB⟩,hr⟩:=hr;obtain⟨bx,fams⟩:=H1;simp only at hB;subst hB;have sb:=DQ r na;have hx:=G1 (f:=EP) (A0e A7);have HW:=A0w A7;rw[A03 A7,SX]at hr;obtain⟨hmA,hmS⟩:=UU hR he HW;obtain⟨hsm,-⟩:=Iu hR.nar he;obtain⟨e2,e3,e5⟩:=GY he;have hrl:=hsm.roles;have hfr:r.steps[i].frm∈r.roles:=by
   have hm:Mz r.steps[i]∈na.steps.map (CB (J9 (B5 na) (G2 na))):=by rw[←(t7 he).2.2.2.2.1];exact A0g HW
   obtain⟨s',hs',e⟩:=A0b.1 hm;unfold Mz CB at e;injection e with e _ _ _
   rw[←e,e2];exact(Ks (hR.steps s' hs')).1
  generalize r.steps[i]=s at *
  obtain⟨x1,x2⟩:=QR hfr;have hrole:=gH r na hrl s.frm;rw[x2]at hrole;obtain⟨mk,hK⟩:=YI r na F S hz hsm e2 (Kr r.roles s.frm) s.frm x1 i (by omega);have Dt:∀x∈TH (true,true) r na s.frm (Kr r.roles s.frm) i,GoodT x:=λx hx=>by
   obtain⟨h1,h2⟩:=UR hR he (by rw[←e2];exact hfr) hx;exact h1.good h2
  have Bs:=Wq (m:=(true,true)) (me:=s.frm) (role:=Kr r.roles s.frm) (q:=i) hsm;generalize TE:TH (true,true) r na s.frm (Kr r.roles s.frm) i=kk at *
  have hD:=cP mk kk s.msg Dt (hmA.good hmS) (by omega);obtain⟨R,mr,hSub,hSet,hRl⟩:=WF (true,true) [s.msg] (by simp only[Tm.sizes];omega);rw[show A4 [s.msg]=[B9 s.msg] from rfl]at hSub;simp only[Tm.sizes]at hRl;have hRg:=gt hSet hmA hmS;have hse:=Ur (k:=kk) (k':=kk) rfl (i:Int) (Uq hSet rfl);generalize hd:S7 kk s.msg=d at *
  obtain⟨de,db⟩:=d;simp only at hD hr;by_cases hde:de=0
  .subst hde;rw[if_neg (by simp)]at hr;cases db with
   |true =>
    simp only[if_true]at hr;simp[W4,A6,k5,k27,k28,k29,A7,L3,sb,hx,hrole,hK,hD];exact G0 hJ ⟨i+1,by omega,by simp[A6],⟨B++[(EP s).cells],by rw[sb];simp⟩,hr⟩
   |false =>
    simp only[A00,if_false]at hr;simp[W4,A6,k5,k27,k28,k29,A7,sb,hx,hrole,hK,hD,A5,hSub];refine B6.mono (rn R kk mr mk (by omega) (λx hx=>by obtain⟨h1,h2⟩:=hRg x hx;exact⟨h1.good h2,by omega⟩) Dt Bs (i:Int) C0 Z (Hk r na).cells hZ hZm _ _ (B++[(EP s).cells]) ?_ ?_ ?_ ?_ ?_ ?_ ?_ ?_) ?_<;>first|(simp[A6,k3,sb];done)|skip
    rintro e Q6 ⟨bx2,F2⟩ ⟨K,⟨rfl,hn,B2,hB2⟩|⟨rfl,a,c,t,t',hso,het,l2,l4,B2,hB2⟩⟩
    .simp only at hB2;subst hB2;have Bb:Q6.length=83:=K.1.trans (by simp[A6]);have k29':A0 Q6 29=.int .i64 (i:Nat):=A8 K 29 (by simp[k29]);have k3':A0 Q6 3=.ptr 1 0:=A8 K 3 (by simp[k3]);have k5':A0 Q6 5=.ptr 2 0:=A8 K 5 (by simp[k5]);have k27':=A8 K 27 (by simp[k27]:_=sl r.sm 7 (r.steps.map EP));have k28':=A8 K 28 (by simp[k28]:_=AV.int .i64 r.steps.length);clear K;rw[hn]at hse;have hnone:Gj kk (i:Int) (NY s.msg)=none:=by
      cases hq:Gj kk (i:Int) (NY s.msg)with
      |none=>rfl
      |some x=>rw[hq]at hse;simp at hse
     rw[hnone]at hr;simp only at hr;simp[Bb,k29',L3];exact G0 hJ ⟨i+1,by omega,by simp[Bb],⟨B2,rfl⟩,hr⟩
    .simp only at hB2;subst hB2;rw[hso]at hse;obtain⟨y,hy,hye⟩:∃y,Gj kk (i:Int) (NY s.msg)=some y/\WU (a,t',c)=WU y:=by
      cases hq:Gj kk (i:Int) (NY s.msg)with
      |none=>rw[hq]at hse;simp at hse
      |some y=>rw[hq]at hse;exact⟨y,rfl,by simpa using hse⟩
     rw[hy]at hr;simp only at hr;simp;exact hΦ _ _ _ (.inr ⟨rfl,(a,t',c),t,by rw[←hr,hye],het,l2,l4,B2,by simp⟩)
  .rw[if_pos hde]at hr;have hZd:Z.drop 4=[]:=A0o (by omega);simp[W4,A6,k3,k5,k27,k28,k29,A7,sb,hx,hrole,hK,hD,hde,C8,D8,hZ,hZm,K5];refine hΦ _ _ _ (.inr ⟨rfl,(0,Tz,de),Tz,by rw[←hr],rfl,by simp[A6],by simp[A6],B++[(EP s).cells],?_⟩);simp[Tz,Tm.kind,Tm.name,Tm.sort,Tm.cm,Tm.kids,A4,hZd,sb];exact GT 4
 .obtain⟨⟨B,hB⟩,hr⟩:=hr;rw[A0o (by omega),SX]at hr;simp[W4,A6,k28,k29,A7];exact hΦ _ _ _ (.inl ⟨rfl,hr.symm,B,hB⟩)
noncomputable def KQ (n:Nar):Int×Tm×Int :=
 if (Y0 n).2≠0 then (0,E3 Tz,(Y0 n).2)else WU (SX (λme i=>Sv (J9 (B5 n) (G2 n)) n me (Kr n.roles me) i) 0 (n.steps.map (CB (J9 (B5 n) (G2 n)))))
theorem VQ {f:ByteArray->Int} {n:Nar} {me:J1} {role q:Nat} (hd:IM n=0) {r:Nar} (he:Py r=CA f n) (hme:n.roles[role]?=some me):(Sv f n me role q).map E3=Sv f n me role q:=by
 rw[←RV (m:=(true,true)) hd he hme q,A0v];congr 1;funext x;exact Zi x
theorem wP {l l':List Ste} {f:ByteArray->Int} (h:l.map Mz=l'.map (CB f)):l.map Mz=(l'.map (CB f)).map Mz:=by
 have:=congrArg (List.map Mz) h;rw[←this,A0v];congr 1;funext s;simp only[Function.comp,Mz,Zi s.msg]
theorem lF {r n:Nar} (hR:Right n) (he:Py r=CA (J9 (B5 n) (G2 n)) n) (kf:ByteArray->Nat->List Tm) (hk:∀me∈n.roles,∀q,(kf me q).map E3=Sv (J9 (B5 n) (G2 n)) n me (Kr n.roles me) q):WU (SX kf 0 r.steps)=WU (SX (λme i=>Sv (J9 (B5 n) (G2 n)) n me (Kr n.roles me) i) 0 (n.steps.map (CB (J9 (B5 n) (G2 n))))):=by
 refine rA 0 (λs hs j _=>?_) (wP (t7 he).2.2.2.2.1);have hm:Mz s∈n.steps.map (CB (J9 (B5 n) (G2 n))):=by rw[←(t7 he).2.2.2.2.1];exact A0g hs
 obtain⟨s',hs',e⟩:=A0b.1 hm;unfold Mz CB at e;injection e with e _ _ _
 have hfr:s.frm∈n.roles:=by rw[←e];exact(Ks (hR.steps s' hs')).1
 rw[hk s.frm hfr j,VQ hR.dec he (QR hfr).1]
theorem cV (n:Nar) (F:Fine n) (S:Lens n):∃t,pc Q W7 [G4 n]=some (.tup [.int .i64 (KQ n).1,B9 t,.int .i64 (KQ n).2.2])/\E3 t=(KQ n).2.1:=by
 suffices hq:∃v,pc Q W7 [G4 n]=some v/\∃t,v=.tup [.int .i64 (KQ n).1,B9 t,.int .i64 (KQ n).2.2]/\E3 t=(KQ n).2.1 by
  obtain⟨v,h1,t,rfl,h2⟩:=hq;exact⟨t,h1,h2⟩
 obtain⟨r,hO,hE⟩:=ci n F S;have nb:=E5 n;have sb:=DQ r n;have hz4:B9 Tz=.agg [.int .i64 0,.str (bs []),.int .i64 0,.vs true 0 []]:=by rw[GT 4];rfl
 by_cases h1:(Y0 n).2=0
 .have he:=hE h1;obtain⟨-,hR⟩:=GH h1;obtain⟨hsm,-⟩:=Iu hR.nar he;obtain⟨e2,-,-⟩:=GY he;rw[h1]at hO;have hX:KQ n=WU (SX (λme i=>TH (true,true) r n me (Kr r.roles me) i) 0 r.steps):=by
   unfold KQ;rw[if_neg (by simp[h1])];refine(lF hR he _ λme hme q=>?_).symm;rw[e2];exact RV hR.dec he (QR hme).1 q
  rw[hX];refine Fj Av λΨ hΨ fr hl h0=>?_;simp[Av]at hl h0;simp[Av,hl,h0,nb,sb,hO];refine B6.mono (rp r n F S h1 hR he (G4 n).cells [.int .i64 0,.str (bs []),.int .i64 0,.vs true 0 []] rfl rfl hsm.steps _ _ [] ?_ ?_ ?_ ?_ ?_ ?_ ?_) ?_<;>first|(simp[hl,nb,sb];done)|skip
  rintro e D4 ⟨bx,F1⟩ ⟨K,⟨rfl,hn,B2,hB2⟩|⟨rfl,x,t,hx,het,l2,l4,B2,hB2⟩⟩
  .simp only at hB2;subst hB2;have A6:D4.length=83:=K.1.trans (by simp[hl]);have k3':A0 D4 3=.ptr 1 0:=A8 K 3 (by simp[hl]);rw[hn]at hΨ;simp[A6,k3',C8,D8,K5];exact hΨ _ ⟨Tz,by rw[hz4];rfl,rfl⟩
  .simp only at hB2;subst hB2;have A6:D4.length=83:=K.1.trans (by simp[hl]);have k3':A0 D4 3=.ptr 1 0:=A8 K 3 (by simp[hl]);rw[hx]at hΨ;simp[l2,l4,k3'];exact hΨ _ ⟨t,rfl,het⟩
 .have hX:KQ n=(0,E3 Tz,(Y0 n).2):=by unfold KQ;rw[if_pos h1]
  rw[hX];generalize (Y0 n).2=e at *
  have P4:=h1;refine Fj Av λΨ hΨ fr hl h0=>?_;simp[Av]at hl h0;simp[Av,hl,h0,nb,sb,hO,P4,C8,D8,K5];exact hΨ _ ⟨Tz,by rw[hz4];rfl,rfl⟩
end Go.Abs.Q
