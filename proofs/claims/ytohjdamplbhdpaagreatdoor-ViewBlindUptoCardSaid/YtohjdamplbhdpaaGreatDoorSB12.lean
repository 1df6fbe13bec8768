/- A part of the proof. -/
import Derived.Test.YtohjdamplbhdpaaGreatDoorSB11
set_option linter.all false
open List renaming take_succ_eq_append_getElem->A0O,drop_eq_getElem_cons->A0P,map_append->A0Q,map_cons->A0R,take_of_length_le->A0S,map_nil->A0T,drop_eq_nil_of_le->A0U,append_assoc->A0V,getElem?_eq_getElem->A0W,getElem_mem->A0X,append_nil->A0Z,getElem?_set_ne->A0a,getElem?_set_self->A0b,set_cons_zero->A0c,replicate->A0d,getElem?_append_left->A0e,getElem?_eq_some_iff->A0f,set_cons_succ->A0g,take_length->A0i,nil_append->A0j,map_eq_nil_iff->A0k,take_zero->A0l,drop_length->A0n,length_eq_one_iff->A0o,set_append_right->A0p,replicate_succ->A0q,drop_zero->A0r
open Option renaming bind_some->A0Y
open Function renaming comp_def->A0h
open Nat renaming le_refl->A0m
namespace Go.Abs.Q
open Go.Proofs
attribute [local simp] E6 E7 fin K1 H4 P2 L5 R0 Q9
theorem dF {α β:Type} (f:α->β) {l:List α} {i:Nat} (h:i<l.length):(l.map f).take (i+1)=(l.map f).take i++[f l[i]]:=by
 rw[A0O (by simpa using h)];simp
theorem nE (m m0:I6) (rs seen:List ByteArray) (hrs:rs.length<=1048576) (l:List Fre) (B9:seen.length+l.length<=1048576) (a0 a2 a3 a4 a5:AV) (fr:Fr) (h:AH) (hh:∃v B,h.boxes=[a0,sl m0 1 (rs.map .str),a2,a3,a4,a5]::[v]::B/\Du 1 (seen.map .str) v h) (hl:fr.length=64) (h1:A0 fr 1=.ptr 0 0) (h4:A0 fr 4=.fn M4 [.ptr 1 0]) (h30:A0 fr 30=sl m 3 (l.map Lq)) (h31:A0 fr 31=.int .i64 l.length) (h32:A0 fr 32=.int .i64 0) :
  B7 (lp (A2 (K8 Q) (D6 U8) W1) (fr,h)) λe C3 h'=>Kp W1.wr fr C3/\(e=.exit 2/\a8 rs seen (l.map λf=>(f.name,some f.role))=0/\(∃v B,h'.boxes=[a0,sl m0 1 (rs.map .str),a2,a3,a4,a5]::[v]::B/\Du 1 ((seen++l.map Fre.name).map .str) v h')\/e=.ret/\A0 C3 2=.int .i64 (a8 rs seen (l.map λf=>(f.name,some f.role)))/\a8 rs seen (l.map λf=>(f.name,some f.role))≠0):=by
 refine B4 rfl fr (λn fr h'=>∃(i:Nat),i+n=l.length/\A0 fr 32=.int .i64 (i:Nat)/\(∃v B,h'.boxes=[a0,sl m0 1 (rs.map .str),a2,a3,a4,a5]::[v]::B/\Du 1 ((seen++(l.map Fre.name).take i).map .str) v h')/\a8 rs (seen++(l.map Fre.name).take i) ((l.drop i).map λf=>(f.name,some f.role))=a8 rs seen (l.map λf=>(f.name,some f.role))) ?_ l.length h ⟨0,by omega,h32,by simpa using hh,by simp⟩;rintro J Φ hJ hΦ n D5 H1 K ⟨i,hi,k32,hr⟩;have A6:=K.1.trans hl;have k1:=A8 K 1 h1;have k4:=A8 K 4 h4;have k30:=A8 K 30 h30;have k31:=A8 K 31 h31;clear K;by_cases A7:i<l.length
 .have L4:=C6 i (by omega);obtain⟨⟨v,B,hB,hg⟩,hr⟩:=hr;have hx:=G1 (f:=Lq) (A0W A7);have hC:=HR m0 rs l[i].role hrs;obtain⟨bx,fams⟩:=H1;simp only at hB;subst hB;obtain⟨w,h',hN,hw2,hz⟩:=cr ⟨[a0,sl m0 1 (rs.map .str),a2,a3,a4,a5]::[v]::(B++[(Lq l[i]).cells]),fams⟩ _ v rfl (Bi hg rfl) (by simp;omega) l[i].name true;subst hw2;rw[A0P A7,A0R]at hr;rw[VA]at hr;by_cases XU:NF (seen++(l.map Fre.name).take i) l[i].name true=0
  .obtain⟨v',hb',Z9⟩:=hz XU;rw[if_neg (by simp[XU])]at hr;simp only[A0g,A0c]at hb';simp only[UD]at hN hb';cases hq:rs.any (V9 l[i].role)with
   |true =>
    rw[hq]at hC hr;rw[if_neg (by simp)]at hr;simp[W1,A6,k1,k4,k30,k31,k32,A7,L4,hx,hN,XU,hb',hC];exact G0 hJ ⟨i+1,by omega,by simp[A6],⟨v',_,hb',by rw[dF _ A7,←A0V];exact Bi Z9 rfl⟩,by rw[dF _ A7,←A0V];exact hr⟩
   |false =>
    rw[hq]at hC hr;rw[if_pos rfl]at hr;simp[W1,A6,k1,k4,k30,k31,k32,A7,hx,hN,XU,hb',hC];exact hΦ _ _ _ (.inr ⟨rfl,by rw[←hr];simp[A6],by rw[←hr];omega⟩)
  .rw[if_pos XU]at hr;simp only[UD]at hN;simp[W1,A6,k4,k30,k31,k32,A7,hx,hN,XU];exact hΦ _ _ _ (.inr ⟨rfl,by simp[A6,hr],by rw[←hr];exact XU⟩)
 .obtain⟨hh',hr⟩:=hr;rw[A0U (by omega)]at hr;rw[A0S (by simp;omega)]at hr hh';simp only[A0T,a8]at hr;simp[W1,A6,k31,k32,A7];exact hΦ _ _ _ (.inl ⟨rfl,hr.symm,hh'⟩)
theorem fW (n:Nar) (hS:n.roles.length+n.fresh.length+n.tags.length<=1048576):pc Q U8 [G5 n]=some (.int .i64 (Hx n)):=by
 have hE:Hx n=if a8 n.roles [] (n.roles.map λa=>(a,none))≠0 then a8 n.roles [] (n.roles.map λa=>(a,none))
   else if a8 n.roles n.roles (n.fresh.map λf=>(f.name,some f.role))≠0 then a8 n.roles n.roles (n.fresh.map λf=>(f.name,some f.role))
   else a8 n.roles (n.roles++n.fresh.map Fre.name) (n.tags.map λa=>(a,none)):=by
  unfold Hx XL;rw[Qy,Qy];have e1:(n.roles.map λa=>((a,none):ByteArray×Option ByteArray)).map (·.1)=n.roles:=by simp[A0h]
  have e2:(n.fresh.map λf=>((f.name,some f.role):ByteArray×Option ByteArray)).map (·.1)=n.fresh.map Fre.name:=by simp[A0h]
  rw[A0Q,e1,e2,A0j];split<;>simp_all
 generalize Hx n=z at *
 obtain⟨name,rm,roles,fm,fresh,tm,tags,sm,steps,gm,goals⟩:=n;simp only at hE hS;refine H8 Kw λfr hl h0=>?_;simp[Kw,G5]at hl h0;simp[Kw,hl,h0];refine B7.mono (nG rm roles [] roles (by simp;omega) [.str name,sl rm 1 (roles.map .str),sl fm 3 (fresh.map Lq),sl tm 1 (tags.map .str),sl sm 7 (steps.map El),sl gm 5 (goals.map Eo)] _ _ ?_ ?_ ?_ ?_ ?_ ?_) ?_<;>first|(simp[hl];done)|skip
 .exact⟨_,_,rfl,Cu _ _⟩
 rintro e D5 h1 ⟨K,⟨rfl,hz,hh⟩|⟨rfl,k2,hz⟩⟩
 .have J2:D5.length=64:=K.1.trans (by simp[hl]);have FU:A0 D5 1=.ptr 0 0:=A8 K 1 (by simp[hl]);have Mu:A0 D5 4=.fn M4 [.ptr 1 0]:=A8 K 4 (by simp[hl]);clear K;rw[if_neg (by simp[hz])]at hE;rw[A0j]at hh;have hh0:=hh;obtain⟨v,B,hB,hg⟩:=hh;simp[J2,FU,hB];refine B7.mono (nE fm rm roles roles (by omega) fresh (by omega) _ _ _ _ _ _ h1 hh0 ?_ ?_ ?_ ?_ ?_ ?_) ?_<;>first|(simp[J2,FU,Mu];done)|skip
  rintro e R3 h2 ⟨K,⟨rfl,hz,hh⟩|⟨rfl,k2,hz⟩⟩
  .have T4:R3.length=64:=K.1.trans (by simp[J2]);have k1fr2:A0 R3 1=.ptr 0 0:=A8 K 1 (by simp[FU]);have k4fr2:A0 R3 4=.fn M4 [.ptr 1 0]:=A8 K 4 (by simp[Mu]);clear K;rw[if_neg (by simp[hz])]at hE;have hh0:=hh;obtain⟨v,B,hB,hg⟩:=hh;simp[T4,k1fr2,hB];refine B7.mono (nD tm roles (roles++fresh.map Fre.name) tags (by simp;omega) _ _ h2 hh0 ?_ ?_ ?_ ?_ ?_) ?_<;>first|(simp[T4,k4fr2];done)|skip
   rintro e fr3 h3 ⟨K,⟨rfl,hz,hh⟩|⟨rfl,k2,hz⟩⟩
   .have hlfr3:fr3.length=64:=K.1.trans (by simp[T4]);clear K;rw[hz]at hE;simp[hlfr3,hE]
   .simp[k2,hE]
  .rw[if_pos hz]at hE;simp[k2,hE]
 .rw[if_pos hz]at hE;simp[k2,hE]
end Go.Abs.Q
namespace Go.Abs.Q
open Go.Proofs
attribute [local simp] E6 E7 fin K1 H4
theorem uv (h:AH) (b:Nat) (ks vs:G4) (hb:h.boxes[b]?=some [.mbox ks vs]):Em h true (.mp b)=some (.vm ks vs):=by simp[Em,hb]
@[simp] theorem yz (ks vs:G4):Es [.mbox ks vs]=true:=rfl
theorem Qz {rs seen:List ByteArray} {a:J3} {r:List (ByteArray×Option ByteArray)} (h:a8 rs seen ((a,none)::r)=0):seen.any (V9 a)=false/\a8 rs (seen++[a]) r=0:=by
 rw[PP]at h;by_cases hz:NF seen a false=0
 .rw[if_neg (by simp[hz])]at h;refine⟨?_,h⟩;unfold NF at hz;cases hs:seen.any (V9 a)with
  |false=>rfl
  |true =>
   rw[hs]at hz;split at hz<;>simp at hz
 .rw[if_pos hz]at h;exact absurd h hz
theorem XH {rs seen:List ByteArray} {a x:J3} {r:List (ByteArray×Option ByteArray)} (h:a8 rs seen ((a,some x)::r)=0):seen.any (V9 a)=false/\rs.any (V9 x)=true/\a8 rs (seen++[a]) r=0:=by
 rw[VA]at h;by_cases hz:NF seen a true=0
 .rw[if_neg (by simp[hz])]at h;have h2:seen.any (V9 a)=false:=by
   unfold NF at hz;cases hs:seen.any (V9 a)with
   |false=>rfl
   |true =>
    rw[hs]at hz;split at hz
    .simp at hz
    .split at hz<;>simp at hz
  cases hx:rs.any (V9 x)with
  |false=>rw[hx,if_pos rfl]at h;omega
  |true=>rw[hx,if_neg (by simp)]at h;exact⟨h2,rfl,h⟩
 .rw[if_pos hz]at h;exact absurd h hz
theorem rg (m:I6) (rs seen:List ByteArray) (so:List Int) (l:List ByteArray) (B9:l.length<=1048576) (hd:a8 rs seen (l.map λa=>(a,none))=0) (A C:G4) (t0:AV) (B:List (List AV)) (fr:Fr) (h:AH) (hh:h.boxes=A::C::[.mbox (seen.map .str) (so.map (.int .i64))]::[t0,.mp 2]::B) (hl:fr.length=51) (h3:A0 fr 3=.ptr 3 0) (h15:A0 fr 15=sl m 1 (l.map .str)) (h16:A0 fr 16=.int .i64 l.length) (h17:A0 fr 17=.int .i64 0) :
  B7 (lp (A2 (K8 Q) (D6 BV) Fl) (fr,h)) λe C3 h'=>Kp Fl.wr fr C3/\e=.exit 0/\h'.boxes=A::C::[.mbox ((seen++l).map .str) ((so++l.map λ_=>(1:Int)).map (.int .i64))]::[t0,.mp 2]::B:=by
 refine B4 rfl fr (λn fr h'=>∃(i:Nat),i+n=l.length/\A0 fr 17=.int .i64 (i:Nat)/\h'.boxes=A::C::[.mbox ((seen++l.take i).map .str) ((so++(l.take i).map λ_=>(1:Int)).map (.int .i64))]::[t0,.mp 2]::B/\a8 rs (seen++l.take i) ((l.drop i).map λa=>(a,none))=0) ?_ l.length h ⟨0,by omega,h17,by rw[hh,A0l,A0T,A0Z,A0Z],by simpa using hd⟩;rintro J Φ hJ hΦ n D5 H1 K ⟨i,hi,k17,hr⟩;have A6:=K.1.trans hl;have k3:=A8 K 3 h3;have k15:=A8 K 15 h15;have k16:=A8 K 16 h16;clear K;by_cases A7:i<l.length
 .have L4:=C6 i (by omega);obtain⟨hB,hr⟩:=hr;obtain⟨bx,fams⟩:=H1;simp only at hB;subst hB;have hx:=G1 (f:=AV.str) (A0W A7);rw[A0P A7,A0R]at hr;obtain⟨q1,q2⟩:=Qz hr;have hM:=cA ⟨A::C::[.mbox ((seen++l.take i).map .str) ((so++(l.take i).map λ_=>(1:Int)).map (.int .i64))]::[t0,.mp 2]::B,fams⟩ 2 _ _ l[i] 1 rfl q1;have e1:(seen++l.take i++[l[i]])=seen++l.take (i+1):=by rw[A0O A7,A0V]
  have e2:(so++(l.take i).map λ_=>(1:Int)).map (AV.int .i64)++[.int .i64 1]=(so++(l.take (i+1)).map λ_=>(1:Int)).map (AV.int .i64):=by
   rw[A0O A7];simp only[A0Q,A0R,A0T,A0V]
  rw[e1,e2]at hM;rw[e1]at q2;simp only[A0g,A0c]at hM;generalize (seen++l.take i).map AV.str=U at *
  generalize (so++(l.take i).map λ_=>(1:Int)).map (AV.int .i64)=V at *
  generalize hU:(seen++l.take (i+1)).map AV.str=U' at *
  generalize hV:(so++(l.take (i+1)).map λ_=>(1:Int)).map (AV.int .i64)=V' at *
  simp[Fl,A6,k3,k15,k16,k17,A7,L4,hx,hM];exact G0 hJ ⟨i+1,by omega,by simp[A6],by rw[hU,hV],q2⟩
 .obtain⟨hB,hr⟩:=hr;rw[A0U (by omega)]at hr;rw[A0S (by omega)]at hB;simp[Fl,A6,k16,k17,A7];exact hΦ _ _ _ ⟨rfl,hB⟩
theorem rd (m:I6) (rs seen:List ByteArray) (so:List Int) (l:List ByteArray) (B9:l.length<=1048576) (hd:a8 rs seen (l.map λa=>(a,none))=0) (A C:G4) (t0:AV) (B:List (List AV)) (fr:Fr) (h:AH) (hh:h.boxes=A::C::[.mbox (seen.map .str) (so.map (.int .i64))]::[t0,.mp 2]::B) (hl:fr.length=51) (h3:A0 fr 3=.ptr 3 0) (h40:A0 fr 40=sl m 1 (l.map .str)) (h41:A0 fr 41=.int .i64 l.length) (h42:A0 fr 42=.int .i64 0) :
  B7 (lp (A2 (K8 Q) (D6 BV) Fj) (fr,h)) λe C3 h'=>Kp Fj.wr fr C3/\e=.exit 4/\h'.boxes=A::C::[.mbox ((seen++l).map .str) ((so++l.map λ_=>(5:Int)).map (.int .i64))]::[t0,.mp 2]::B:=by
 refine B4 rfl fr (λn fr h'=>∃(i:Nat),i+n=l.length/\A0 fr 42=.int .i64 (i:Nat)/\h'.boxes=A::C::[.mbox ((seen++l.take i).map .str) ((so++(l.take i).map λ_=>(5:Int)).map (.int .i64))]::[t0,.mp 2]::B/\a8 rs (seen++l.take i) ((l.drop i).map λa=>(a,none))=0) ?_ l.length h ⟨0,by omega,h42,by rw[hh,A0l,A0T,A0Z,A0Z],by simpa using hd⟩;rintro J Φ hJ hΦ n D5 H1 K ⟨i,hi,k42,hr⟩;have A6:=K.1.trans hl;have k3:=A8 K 3 h3;have k40:=A8 K 40 h40;have k41:=A8 K 41 h41;clear K;by_cases A7:i<l.length
 .have L4:=C6 i (by omega);obtain⟨hB,hr⟩:=hr;obtain⟨bx,fams⟩:=H1;simp only at hB;subst hB;have hx:=G1 (f:=AV.str) (A0W A7);rw[A0P A7,A0R]at hr;obtain⟨q1,q2⟩:=Qz hr;have hM:=cA ⟨A::C::[.mbox ((seen++l.take i).map .str) ((so++(l.take i).map λ_=>(5:Int)).map (.int .i64))]::[t0,.mp 2]::B,fams⟩ 2 _ _ l[i] 5 rfl q1;have e1:(seen++l.take i++[l[i]])=seen++l.take (i+1):=by rw[A0O A7,A0V]
  have e2:(so++(l.take i).map λ_=>(5:Int)).map (AV.int .i64)++[.int .i64 5]=(so++(l.take (i+1)).map λ_=>(5:Int)).map (AV.int .i64):=by
   rw[A0O A7];simp only[A0Q,A0R,A0T,A0V]
  rw[e1,e2]at hM;rw[e1]at q2;simp only[A0g,A0c]at hM;generalize (seen++l.take i).map AV.str=U at *
  generalize (so++(l.take i).map λ_=>(5:Int)).map (AV.int .i64)=V at *
  generalize hU:(seen++l.take (i+1)).map AV.str=U' at *
  generalize hV:(so++(l.take (i+1)).map λ_=>(5:Int)).map (AV.int .i64)=V' at *
  simp[Fj,A6,k3,k40,k41,k42,A7,L4,hx,hM];exact G0 hJ ⟨i+1,by omega,by simp[A6],by rw[hU,hV],q2⟩
 .obtain⟨hB,hr⟩:=hr;rw[A0U (by omega)]at hr;rw[A0S (by omega)]at hB;simp[Fj,A6,k41,k42,A7];exact hΦ _ _ _ ⟨rfl,hB⟩
theorem re (m:I6) (rs seen:List ByteArray) (so:List Int) (l:List Fre) (B9:l.length<=1048576) (hd:a8 rs seen (l.map λf=>(f.name,some f.role))=0) (A C:G4) (t0:AV) (fr:Fr) (h:AH) (hh:h.boxes=A::C::[.mbox (seen.map .str) (so.map (.int .i64))]::[t0,.mp 2]::[]) (hl:fr.length=51) (h3:A0 fr 3=.ptr 3 0) (h26:A0 fr 26=sl m 3 (l.map Lq)) (h27:A0 fr 27=.int .i64 l.length) (h28:A0 fr 28=.int .i64 0) :
  B7 (lp (A2 (K8 Q) (D6 BV) Fk) (fr,h)) λe C3 h'=>Kp Fk.wr fr C3/\e=.exit 2/\∃B,h'.boxes=A::C::[.mbox ((seen++l.map Fre.name).map .str) ((so++l.map Fre.sort).map (.int .i64))]::[t0,.mp 2]::B:=by
 refine B4 rfl fr (λn fr h'=>∃(i:Nat),i+n=l.length/\A0 fr 28=.int .i64 (i:Nat)/\(∃B,h'.boxes=A::C::[.mbox ((seen++(l.map Fre.name).take i).map .str) ((so++(l.map Fre.sort).take i).map (.int .i64))]::[t0,.mp 2]::B)/\a8 rs (seen++(l.map Fre.name).take i) ((l.drop i).map λf=>(f.name,some f.role))=0) ?_ l.length h ⟨0,by omega,h28,⟨[],by rw[hh,A0l,A0l,A0Z,A0Z]⟩,by simpa using hd⟩;rintro J Φ hJ hΦ n D5 H1 K ⟨i,hi,k28,hr⟩;have A6:=K.1.trans hl;have k3:=A8 K 3 h3;have k26:=A8 K 26 h26;have k27:=A8 K 27 h27;clear K;by_cases A7:i<l.length
 .have L4:=C6 i (by omega);obtain⟨⟨B,hB⟩,hr⟩:=hr;obtain⟨bx,fams⟩:=H1;simp only at hB;subst hB;have hx:=G1 (f:=Lq) (A0W A7);rw[A0P A7,A0R]at hr;obtain⟨q1,-,q2⟩:=XH hr;have hM:=cA ⟨A::C::[.mbox ((seen++(l.map Fre.name).take i).map .str) ((so++(l.map Fre.sort).take i).map (.int .i64))]::[t0,.mp 2]::(B++[(Lq l[i]).cells]),fams⟩ 2 _ _ l[i].name l[i].sort rfl q1;have e1:(seen++(l.map Fre.name).take i++[l[i].name])=seen++(l.map Fre.name).take (i+1):=by rw[dF _ A7,A0V]
  have e2:(so++(l.map Fre.sort).take i).map (AV.int .i64)++[.int .i64 l[i].sort]=(so++(l.map Fre.sort).take (i+1)).map (AV.int .i64):=by
   rw[dF _ A7];simp only[A0Q,A0R,A0T,A0V]
  rw[e1,e2]at hM;rw[e1]at q2;simp only[A0g,A0c,UD]at hM;generalize (seen++(l.map Fre.name).take i).map AV.str=U at *
  generalize (so++(l.map Fre.sort).take i).map (AV.int .i64)=V at *
  generalize hU:(seen++(l.map Fre.name).take (i+1)).map AV.str=U' at *
  generalize hV:(so++(l.map Fre.sort).take (i+1)).map (AV.int .i64)=V' at *
  simp[Fk,A6,k3,k26,k27,k28,A7,L4,hx,hM];exact G0 hJ ⟨i+1,by omega,by simp[A6],⟨_,by rw[hU,hV]⟩,q2⟩
 .obtain⟨⟨B,hB⟩,hr⟩:=hr;rw[A0U (by omega)]at hr;rw[A0S (by simp;omega),A0S (by simp;omega)]at hB;simp[Fk,A6,k27,k28,A7];exact hΦ _ _ _ ⟨rfl,B,hB⟩
theorem mS {n:Nar} (hd:Hx n=0):a8 n.roles [] (n.roles.map λa=>(a,none))=0/\a8 n.roles n.roles (n.fresh.map λf=>(f.name,some f.role))=0/\a8 n.roles (n.roles++n.fresh.map Fre.name) (n.tags.map λa=>(a,none))=0:=by
 have e1:(n.roles.map λa=>((a,none):ByteArray×Option ByteArray)).map (·.1)=n.roles:=by simp[A0h]
 have e2:(n.fresh.map λf=>((f.name,some f.role):ByteArray×Option ByteArray)).map (·.1)=n.fresh.map Fre.name:=by simp[A0h]
 unfold Hx XL at hd;rw[Qy,Qy,A0Q,e1,e2,A0j,A0j]at hd;by_cases d1:a8 n.roles [] (n.roles.map λa=>(a,none))=0
 .rw[if_neg (c:=a8 n.roles [] (n.roles.map λa=>(a,none))≠0) (by simp[d1])]at hd;by_cases d2:a8 n.roles n.roles (n.fresh.map λf=>(f.name,some f.role))=0
  .rw[if_neg (by simp[d2])]at hd;exact⟨d1,d2,hd⟩
  .rw[if_pos d2]at hd;exact absurd hd d2
 .simp[d1]at hd
theorem TB (n:Nar) (hS:n.roles.length+n.fresh.length+n.tags.length<=1048576) (hd:Hx n=0):pc Q BV [G5 n]=some (kE n.rm n):=by
 obtain⟨d1,d2,hd⟩:=mS hd;unfold kE B5 G8;obtain⟨name,rm,roles,fm,fresh,tm,tags,sm,steps,gm,goals⟩:=n;simp only at hd d1 d2 hS ⊢;generalize hU:(roles++fresh.map Fre.name++tags).map AV.str=U;generalize hV:((roles.map λ_=>(1:Int))++fresh.map Fre.sort++tags.map λ_=>(5:Int)).map (AV.int .i64)=V;refine H8 PD λfr hl h0=>?_;simp[PD,G5]at hl h0;simp[PD,hl,h0,D2,E4];refine B7.mono (rg rm roles [] [] roles (by omega) d1 [.str name,sl rm 1 (roles.map .str),sl fm 3 (fresh.map Lq),sl tm 1 (tags.map .str),sl sm 7 (steps.map El),sl gm 5 (goals.map Eo)] [.vs true 0 [],.nilm] (sl rm 1 (roles.map .str)) [] _ _ ?_ ?_ ?_ ?_ ?_ ?_) ?_<;>first|(simp[hl];done)|skip
 rintro e D5 ⟨bx,fams⟩ ⟨K,rfl,hB⟩;simp only at hB;subst hB;have J2:D5.length=51:=K.1.trans (by simp[hl]);have FU:A0 D5 1=.ptr 0 0:=A8 K 1 (by simp[hl]);have GL:A0 D5 2=.ptr 1 0:=A8 K 2 (by simp[hl]);have OJ:A0 D5 3=.ptr 3 0:=A8 K 3 (by simp[hl]);clear K;simp[J2,FU];refine B7.mono (re fm roles roles (roles.map λ_=>1) fresh (by omega) d2 [.str name,sl rm 1 (roles.map .str),sl fm 3 (fresh.map Lq),sl tm 1 (tags.map .str),sl sm 7 (steps.map El),sl gm 5 (goals.map Eo)] [.vs true 0 [],.nilm] (sl rm 1 (roles.map .str)) _ _ ?_ ?_ ?_ ?_ ?_ ?_) ?_<;>first|(simp[J2,OJ];done)|skip
 rintro e R3 ⟨bx,fams⟩ ⟨K,rfl,B,hB⟩;simp only at hB;subst hB;have T4:R3.length=51:=K.1.trans (by simp[J2]);have k1fr2:A0 R3 1=.ptr 0 0:=A8 K 1 (by simp[FU]);have k2fr2:A0 R3 2=.ptr 1 0:=A8 K 2 (by simp[GL]);have k3fr2:A0 R3 3=.ptr 3 0:=A8 K 3 (by simp[OJ]);clear K;simp[T4,k1fr2];refine B7.mono (rd tm roles (roles++fresh.map Fre.name) ((roles.map λ_=>1)++fresh.map Fre.sort) tags (by omega) hd [.str name,sl rm 1 (roles.map .str),sl fm 3 (fresh.map Lq),sl tm 1 (tags.map .str),sl sm 7 (steps.map El),sl gm 5 (goals.map Eo)] [.vs true 0 [],.nilm] (sl rm 1 (roles.map .str)) B _ _ ?_ ?_ ?_ ?_ ?_ ?_) ?_<;>first|(simp[T4,k3fr2];done)|skip
 rintro e fr3 ⟨bx,fams⟩ ⟨K,rfl,hB⟩;simp only at hB;rw[hU,hV]at hB;subst hB;have hlfr3:fr3.length=51:=K.1.trans (by simp[T4]);have k1fr3:A0 fr3 1=.ptr 0 0:=A8 K 1 (by simp[k1fr2]);have k2fr3:A0 fr3 2=.ptr 1 0:=A8 K 2 (by simp[k2fr2]);have k3fr3:A0 fr3 3=.ptr 3 0:=A8 K 3 (by simp[k3fr2]);clear K;have hF:∀(A C T:List AV) (B:List (List AV)) (f:List Fam),Em ⟨A::C::[.mbox U V]::T::B,f⟩ true (.mp 2)=some (.vm U V):=λ_ _ _ _ _=>uv _ 2 U V rfl;simp[hlfr3,k2fr3,k3fr3,hF]
theorem jK (m:I6) (rs ns:List ByteArray) (vs:List Int) (m':I6) (l:G6) (B9:l.length<=1099511627776) (IH:∀t∈l,pc Q J7 [.agg [sl m 1 (rs.map .str),.vm (ns.map .str) (vs.map (.int .i64))],B8 t]=some (.int .i64 (x8 ns rs t))) (b1:G4) (fr:Fr) (h:AH) (hh:h.boxes=[[sl m 1 (rs.map .str),.vm (ns.map .str) (vs.map (.int .i64))],b1]) (hl:fr.length=46) (h2:A0 fr 2=.ptr 0 0) (h33:A0 fr 33=sl m' 4 (A4 l)) (h34:A0 fr 34=.int .i64 l.length) (h35:A0 fr 35=.int .i64 0) :
  B7 (lp (A2 (K8 Q) (D6 T5) T8) (fr,h)) λe C3 h'=>Kp T8.wr fr C3/\(e=.exit 0/\D3 (x8 ns rs) l=0\/e=.ret/\A0 C3 4=.int .i64 (D3 (x8 ns rs) l)):=by
 refine B4 rfl fr (λn fr h'=>∃(i:Nat),i+n=l.length/\A0 fr 35=.int .i64 (i:Nat)/\(∃B,h'.boxes=[sl m 1 (rs.map .str),.vm (ns.map .str) (vs.map (.int .i64))]::B)/\D3 (x8 ns rs) (l.drop i)=D3 (x8 ns rs) l) ?_ l.length h ⟨0,by omega,h35,⟨_,hh⟩,rfl⟩;rintro J Φ hJ hΦ n D5 H1 K ⟨i,hi,k35,hr⟩;have A6:=K.1.trans hl;have k2:=A8 K 2 h2;have k33:=A8 K 33 h33;have k34:=A8 K 34 h34;clear K;by_cases A7:i<l.length
 .have L4:=C6 i (by omega);obtain⟨⟨B,hB⟩,hr⟩:=hr;obtain⟨bx,fams⟩:=H1;simp only at hB;subst hB;have hx:=I0 A7;have hI:=IH l[i] (A0X A7);rw[A0P A7]at hr;simp only[D3]at hr;generalize l[i]=t at *
  generalize x8 ns rs t=v at *
  by_cases hz:v=0
  .rw[if_neg (by simp[hz])]at hr;simp[T8,A6,k2,k33,k34,k35,A7,L4,hx,hI,hz];exact G0 hJ ⟨i+1,by omega,by simp[A6],⟨_,rfl⟩,hr⟩
  .rw[if_pos hz]at hr;simp[T8,A6,k2,k33,k34,k35,A7,hx,hI,hz];exact hΦ _ _ _ (.inr ⟨rfl,by simp[A6,hr]⟩)
 .obtain⟨_,hr⟩:=hr;rw[A0U (by omega)]at hr;simp[T8,A6,k34,k35,A7];exact hΦ _ _ _ (.inl ⟨rfl,hr.symm⟩)
theorem sk (m:I6) (rs ns:List ByteArray) (vs:List Int) (hr:rs.length<=1048576) (hkv:ns.length=vs.length) (g:Gol) (hg:Tm.sizes g.data<=1099511627776) :
  pc Q T5 [.agg [sl m 1 (rs.map .str),.vm (ns.map .str) (vs.map (.int .i64))],Eo g]=some (.int .i64 (Im ns rs g)):=by
 have B9:=Tm.length_le g.data;have GX:=jK m rs ns vs g.dm g.data (by omega) (λt ht=>lR m rs ns vs hr hkv _ t (A0m _) (by have:=Tm.size_le ht;omega));have hC:=HR m rs g.role hr;have hT:=sv m rs (ns.map .str) (vs.map (.int .i64)) hr g.role g.wth;have hE:Im ns rs g=if rs.any (V9 g.role)=false then 13 else if Nt g=true/\NR rs g.role g.wth≠0 then NR rs g.role g.wth else D3 (x8 ns rs) g.data:=rfl
 have hA:Nt g=(decide (g.kind=2)||decide (g.kind=3)):=rfl;generalize Im ns rs g=z at *
 generalize rs.any (V9 g.role)=b at *
 generalize NR rs g.role g.wth=w at *
 generalize Nt g=ab at *
 refine M9 T7 λfr hl h0 h1=>?_;simp[T7]at hl h0 h1;have key:∀(D5:Fr) (h:AH),z=D3 (x8 ns rs) g.data->D5.length=46->A0 D5 2=.ptr 0 0->A0 D5 33=sl g.dm 4 (A4 g.data)->A0 D5 34=.int .i64 g.data.length->A0 D5 35=.int .i64 0->(∃b1,h.boxes=[[sl m 1 (rs.map .str),.vm (ns.map .str) (vs.map (.int .i64))],b1]) ->
   B7 (lp (A2 (K8 Q) (D6 T5) T8) (D5,h)) (BL 0 (SQ (K8 Q) (D6 T5) (.seq (.region false [⟨some 4,.mov (.c (.int .i64 0)),none⟩]) .ret) (kK [.tmp 4] (.int .i64 z)))):=by
  rintro D5 h rfl hl q2 q33 q34 q35 ⟨b1,hb⟩;refine B7.mono (GX b1 D5 h hb hl q2 q33 q34 q35) ?_;rintro e R3 h2 ⟨K,⟨rfl,hz⟩|⟨rfl,k4⟩⟩
  .have CK:=K.1.trans hl;simp[CK,hz]
  .simp[k4]
 cases b with
 |false =>
  rw[if_pos rfl]at hE;simp[T7,hl,h0,h1,hC,hE]
 |true =>
  rw[if_neg (by simp)]at hE;have fin:ab=false\/w=0->z=D3 (x8 ns rs) g.data:=by
   intro h;rw[if_neg (by rintro⟨a,b⟩;rcases h with h|h;simp[h]at a;exact b h)]at hE
   exact hE
  by_cases k2:g.kind=2
  .have ea:ab=true:=by simp[hA,k2]
   by_cases hw:w=0
   .simp[T7,hl,h0,h1,hC,B6 k2,hT,hw];exact key _ _ (fin (.inr hw)) (by simp[hl]) (by simp[hl]) (by simp[hl]) (by simp[hl]) (by simp[hl]) ⟨_,rfl⟩
   .rw[if_pos ⟨ea,hw⟩]at hE;simp[T7,hl,h0,h1,hC,B6 k2,hT,hw,hE]
  .by_cases k3:g.kind=3
   .have ea:ab=true:=by simp[hA,k3]
    by_cases hw:w=0
    .simp[T7,hl,h0,h1,hC,A3 k2,B6 k3,hT,hw];exact key _ _ (fin (.inr hw)) (by simp[hl]) (by simp[hl]) (by simp[hl]) (by simp[hl]) (by simp[hl]) ⟨_,rfl⟩
    .rw[if_pos ⟨ea,hw⟩]at hE;simp[T7,hl,h0,h1,hC,A3 k2,B6 k3,hT,hw,hE]
   .have ea:ab=false:=by simp[hA,k2,k3]
    simp[T7,hl,h0,h1,hC,A3 k2,A3 k3];exact key _ _ (fin (.inl ea)) (by simp[hl]) (by simp[hl]) (by simp[hl]) (by simp[hl]) (by simp[hl]) ⟨_,rfl⟩
theorem eS (m:I6) (rs ns:List ByteArray) (vs:List Int) (hr:rs.length<=1048576) (m':I6) (l:List Ste) (B9:l.length<=1099511627776) (IH:∀s∈l,pc Q J7 [.agg [sl m 1 (rs.map .str),.vm (ns.map .str) (vs.map (.int .i64))],B8 s.msg]=some (.int .i64 (x8 ns rs s.msg))) (A:G4) (fr:Fr) (h:AH) (hh:h.boxes=[A,[sl m 1 (rs.map .str),.vm (ns.map .str) (vs.map (.int .i64))]]) (hl:fr.length=66) (h6:A0 fr 6=.ptr 1 0) (h26:A0 fr 26=sl m' 7 (l.map El)) (h27:A0 fr 27=.int .i64 l.length) (h28:A0 fr 28=.int .i64 0) :
  B7 (lp (A2 (K8 Q) (D6 Fv) BA) (fr,h)) λe C3 h'=>Kp BA.wr fr C3/\(e=.exit 0/\S5 (Gq ns rs) Ste.line l=(0,0)/\(∃B,h'.boxes=A::[sl m 1 (rs.map .str),.vm (ns.map .str) (vs.map (.int .i64))]::B)\/e=.ret/\A0 C3 2=.int .i64 (S5 (Gq ns rs) Ste.line l).1/\A0 C3 3=.int .i64 (S5 (Gq ns rs) Ste.line l).2/\S5 (Gq ns rs) Ste.line l≠(0,0)):=by
 refine B4 rfl fr (λn fr h'=>∃(i:Nat),i+n=l.length/\A0 fr 28=.int .i64 (i:Nat)/\(∃B,h'.boxes=A::[sl m 1 (rs.map .str),.vm (ns.map .str) (vs.map (.int .i64))]::B)/\S5 (Gq ns rs) Ste.line (l.drop i)=S5 (Gq ns rs) Ste.line l) ?_ l.length h ⟨0,by omega,h28,⟨_,hh⟩,rfl⟩;rintro J Φ hJ hΦ n D5 H1 K ⟨i,hi,k28,hr⟩;have A6:=K.1.trans hl;have k6:=A8 K 6 h6;have k26:=A8 K 26 h26;have k27:=A8 K 27 h27;clear K;by_cases A7:i<l.length
 .have L4:=C6 i (by omega);obtain⟨⟨B,hB⟩,hr⟩:=hr;obtain⟨bx,fams⟩:=H1;simp only at hB;subst hB;have hx:=G1 (f:=El) (A0W A7);have hI:=IH l[i] (A0X A7);have hT:=sv m rs (ns.map .str) (vs.map (.int .i64)) (by omega) l[i].frm l[i].to;rw[A0P A7]at hr;simp only[S5]at hr;have hE:Gq ns rs l[i]=if NR rs l[i].frm l[i].to≠0 then NR rs l[i].frm l[i].to else x8 ns rs l[i].msg:=rfl
  generalize l[i]=t at *
  generalize x8 ns rs t.msg=v at *
  generalize NR rs t.frm t.to=w at *
  generalize Gq ns rs t=z at *
  generalize hgl:S5 (Gq ns rs) Ste.line l=L at *
  by_cases hw:w=0
  .rw[if_neg (by simp[hw])]at hE;subst hE;by_cases hz:z=0
   .rw[if_neg (by simp[hz])]at hr;simp[BA,A6,k6,k26,k27,k28,A7,L4,hx,hT,hw,hI,hz];exact G0 hJ ⟨i+1,by omega,by simp[A6],⟨_,rfl⟩,hr⟩
   .rw[if_pos hz]at hr;simp[BA,A6,k6,k26,k27,k28,A7,hx,hT,hw,hI,hz];exact hΦ _ _ _ (.inr ⟨rfl,by simp[A6,←hr],by simp[A6,←hr],by simp[←hr,hz]⟩)
  .rw[if_pos hw]at hE;rw[hE,if_pos hw]at hr;simp[BA,A6,k6,k26,k27,k28,A7,hx,hT,hw];exact hΦ _ _ _ (.inr ⟨rfl,by simp[A6,←hr],by simp[A6,←hr],by simp[←hr,hw]⟩)
 .obtain⟨hh',hr⟩:=hr;rw[A0U (by omega)]at hr;simp[BA,A6,k27,k28,A7];exact hΦ _ _ _ (.inl ⟨rfl,hr.symm,hh'⟩)
theorem eR (m:I6) (rs ns:List ByteArray) (vs:List Int) (m':I6) (l:List Gol) (B9:l.length<=1099511627776) (IH:∀s∈l,pc Q T5 [.agg [sl m 1 (rs.map .str),.vm (ns.map .str) (vs.map (.int .i64))],Eo s]=some (.int .i64 (Im ns rs s))) (A:G4) (fr:Fr) (h:AH) (hh:∃B,h.boxes=A::[sl m 1 (rs.map .str),.vm (ns.map .str) (vs.map (.int .i64))]::B) (hl:fr.length=66) (h6:A0 fr 6=.ptr 1 0) (h51:A0 fr 51=sl m' 5 (l.map Eo)) (h52:A0 fr 52=.int .i64 l.length) (h53:A0 fr 53=.int .i64 0) :
  B7 (lp (A2 (K8 Q) (D6 Fv) Cn) (fr,h)) λe C3 h'=>Kp Cn.wr fr C3/\(e=.exit 2/\S5 (Im ns rs) Gol.line l=(0,0)\/e=.ret/\A0 C3 2=.int .i64 (S5 (Im ns rs) Gol.line l).1/\A0 C3 3=.int .i64 (S5 (Im ns rs) Gol.line l).2):=by
 refine B4 rfl fr (λn fr h'=>∃(i:Nat),i+n=l.length/\A0 fr 53=.int .i64 (i:Nat)/\(∃B,h'.boxes=A::[sl m 1 (rs.map .str),.vm (ns.map .str) (vs.map (.int .i64))]::B)/\S5 (Im ns rs) Gol.line (l.drop i)=S5 (Im ns rs) Gol.line l) ?_ l.length h ⟨0,by omega,h53,hh,rfl⟩;rintro J Φ hJ hΦ n D5 H1 K ⟨i,hi,k53,hr⟩;have A6:=K.1.trans hl;have k6:=A8 K 6 h6;have k51:=A8 K 51 h51;have k52:=A8 K 52 h52;clear K;by_cases A7:i<l.length
 .have L4:=C6 i (by omega);obtain⟨⟨B,hB⟩,hr⟩:=hr;obtain⟨bx,fams⟩:=H1;simp only at hB;subst hB;have hx:=G1 (f:=Eo) (A0W A7);have hI:=IH l[i] (A0X A7);rw[A0P A7]at hr;simp only[S5]at hr;generalize l[i]=t at *
  generalize Im ns rs t=z at *
  generalize hgl:S5 (Im ns rs) Gol.line l=L at *
  by_cases hz:z=0
  .rw[if_neg (by simp[hz])]at hr;simp[Cn,A6,k6,k51,k52,k53,A7,L4,hx,hI,hz];exact G0 hJ ⟨i+1,by omega,by simp[A6],⟨_,rfl⟩,hr⟩
  .rw[if_pos hz]at hr;simp[Cn,A6,k6,k51,k52,k53,A7,hx,hI,hz];exact hΦ _ _ _ (.inr ⟨rfl,by simp[A6,←hr],by simp[A6,←hr]⟩)
 .obtain⟨hh',hr⟩:=hr;rw[A0U (by omega)]at hr;simp[Cn,A6,k52,k53,A7];exact hΦ _ _ _ (.inl ⟨rfl,hr.symm⟩)
theorem NE (n:Nar):(B5 n).length=(G8 n).length:=by simp[B5,G8]
theorem Vv (n:Nar) (F:Fine n) (hS:n.roles.length+n.fresh.length+n.tags.length<=1048576):pc Q Fv [G5 n]=some (.tup [.int .i64 (l8 n).1,.int .i64 (l8 n).2]):=by
 have hV:=fa n F;have hD:=fW n hS;have l1:=F.stepsL;have l2:=F.goalsL;have fs:=F.steps;have fg:=F.goals;have hT:∀t:Tm,t.size<=1099511627776->pc Q J7 [kE n.rm n,B8 t]=some (.int .i64 (x8 (B5 n) n.roles t)):=λt ht=>lR n.rm n.roles (B5 n) (G8 n) (by omega) (NE n) _ t (A0m _) ht;have hG:∀g:Gol,Tm.sizes g.data<=1099511627776->pc Q T5 [kE n.rm n,Eo g]=some (.int .i64 (Im (B5 n) n.roles g)):=λg hg=>sk n.rm n.roles (B5 n) (G8 n) (by omega) (NE n) g hg;have hE:l8 n=if PX n≠0 then (0,PX n)else if Hx n≠0 then (0,Hx n)
  else if S5 (Gq (B5 n) n.roles) Ste.line n.steps≠(0,0)then S5 (Gq (B5 n) n.roles) Ste.line n.steps else S5 (Im (B5 n) n.roles) Gol.line n.goals:=rfl
 have hN:Hx n=0->pc Q BV [G5 n]=some (kE n.rm n):=TB n hS;unfold kE at hT hG hN;generalize l8 n=z at *
 generalize PX n=e1 at *
 generalize Hx n=e2 at *
 generalize B5 n=ns at *
 generalize G8 n=vs at *
 clear F;obtain⟨name,rm,roles,fm,fresh,tm,tags,sm,steps,gm,goals⟩:=n;simp only at *
 have q1:=eS rm roles ns vs (by omega) sm steps l1 (λs hs=>hT _ (fs s hs).2.2) [.str name,sl rm 1 (roles.map .str),sl fm 3 (fresh.map Lq),sl tm 1 (tags.map .str),sl sm 7 (steps.map El),sl gm 5 (goals.map Eo)];have q2:=eR rm roles ns vs gm goals l2 (λg hg=>hG g (fg g hg).2.2) [.str name,sl rm 1 (roles.map .str),sl fm 3 (fresh.map Lq),sl tm 1 (tags.map .str),sl sm 7 (steps.map El),sl gm 5 (goals.map Eo)];clear hT hG;generalize S5 (Gq ns roles) Ste.line steps=L1 at *
 generalize S5 (Im ns roles) Gol.line goals=L2 at *
 refine H8 IS λfr hl h0=>?_;simp[IS,G5]at hl h0;simp only[G5]at hV hD hN;by_cases z1:e1=0
 .rw[if_neg (by simp[z1])]at hE;by_cases z2:e2=0
  .rw[if_neg (by simp[z2])]at hE;have hN:=hN z2;generalize hU:ns.map AV.str=U at *
   generalize hW:vs.map (AV.int .i64)=W at *
   simp[IS,hl,h0,hV,z1,hD,z2,hN];refine B7.mono (q1 _ _ ?_ ?_ ?_ ?_ ?_ ?_) ?_<;>first|(simp[hl];done)|skip
   rintro e D5 ⟨bx,fams⟩ ⟨K,⟨rfl,hz,B,hB⟩|⟨rfl,k2,k3,hz⟩⟩
   .simp only at hB;subst hB;have J2:D5.length=66:=K.1.trans (by simp[hl]);have FU:A0 D5 1=.ptr 0 0:=A8 K 1 (by simp[hl]);have k6fr1:A0 D5 6=.ptr 1 0:=A8 K 6 (by simp[hl]);clear K;rw[if_neg (by simp[hz])]at hE;simp[J2,FU];refine B7.mono (q2 _ _ ?_ ?_ ?_ ?_ ?_ ?_) ?_<;>first|(simp[J2,k6fr1];done)|skip
    rintro e R3 h2 ⟨K,⟨rfl,hz⟩|⟨rfl,k2,k3⟩⟩
    .have T4:R3.length=66:=K.1.trans (by simp[J2]);clear K;simp[T4,hE,hz]
    .simp[k2,k3,hE]
   .rw[if_pos hz]at hE;simp[k2,k3,hE]
  .rw[if_pos z2]at hE;simp[IS,hl,h0,hV,z1,hD,z2,hE]
 .rw[if_pos z1]at hE;simp[IS,hl,h0,hV,z1,hE]
def L3 (ns:List ByteArray) (vs:List Int) (a:ByteArray):Int:=if ns.any (V9 a)=true then vs.getD (idx (V9 a) ns).toNat 0 else 0
mutual
def CH (f:ByteArray->Int):Tm->Tm
 | .mk k nm s _ l=>.mk k nm (if k=2 then f nm else s) (false,false) (m8 f l)
def m8 (f:ByteArray->Int):List Tm->List Tm
 | []=>[]
 |t::l=>CH f t::m8 f l
end
mutual
def E3:Tm->Tm
 | .mk k nm s _ l=>.mk k nm s (false,false) (G9 l)
def G9:List Tm->List Tm
 | []=>[]
 |t::l=>E3 t::G9 l
end
theorem JG (f:ByteArray->Int) (l:G6):m8 f l=l.map (CH f):=by
 induction l with
 |nil=>rfl
 |cons t l ih=>simp[m8,ih]
theorem E1 (l:G6):G9 l=l.map E3:=by
 induction l with
 |nil=>rfl
 |cons t l ih=>simp[G9,ih]
theorem tt (ns:List ByteArray) (vs:List Int) (hkv:ns.length=vs.length) (h:AH) (a:J3) :
  Gb true false (.int .i64 0) h (.vm (ns.map .str) (vs.map (.int .i64))) (.str a)=some (.int .i64 (L3 ns vs a),h):=by
 cases hk:ns.any (V9 a)with
 |false=>simp[Gb,Sq,GM,Pt a ns 0 hk,L3,hk]
 |true =>
  have hge:=(Da (V9 a) ns 0).2 hk;have A7:=KU (V9 a) ns 0;have hi:(S9 (V9 a) 0 ns).toNat<vs.length:=by omega
  simp[Gb,Sq,GM,TU a ns 0 hk,hi,L3,hk,idx]
theorem jv (ns:List ByteArray) (vs:List Int) (hkv:ns.length=vs.length) (r x0 x2 x3:AV) (nm:J3) (h:AH) (hb:h.boxes[0]?=some [x0,.str nm,x2,x3]) :
  ∃w h',rc Q Ai [.ptr 0 0,.pv [r,.vm (ns.map .str) (vs.map (.int .i64))]] h=some (w,h')/\w=.tup []/\h'={h with boxes:=h.boxes.set 0 [x0,.str nm,.int .i64 (L3 ns vs nm),x3]}:=by
 have hM:=tt ns vs hkv h nm;have A7:=H5 hb;refine Df Jz λfr hl h0 h1=>?_;simp[Jz]at hl h0 h1;simp[Jz,hl,h0,h1,hb,hM]
def gn (r:AV) (ns:List ByteArray) (vs:List Int):AV:=.fn Ai [.pv [r,.vm (ns.map .str) (vs.map (.int .i64))]]
@[simp] theorem byF_frz (h:AH) (am:Bool) (r:AV) (ns:List ByteArray) (vs:List Int):KI h am (gn r ns vs)=some (gn r ns vs):=rfl
@[simp] theorem zx (h:AH) (r:AV) (ns:List ByteArray) (vs:List Int):CO h (gn r ns vs)=true:=rfl
def zT:AV:=.agg [.int .i64 0,.str (bs []),.int .i64 0,.vs true 0 []]
theorem bh (by':AV) (f:ByteArray->Int) (m:I6) (l:G6) (B9:l.length<=1099511627776) (hby:∀h am,KI h am by'=some by') (hby2:∀h,CO h by'=true) (IH:∀t∈l,∃t',pc Q K7 [B8 t,by']=some (B8 t')/\E3 t'=CH f t) (A C:G4) (fr:Fr) (h:AH) (hh:h=⟨[A,C],[⟨A0d l.length zT,4,true⟩]⟩) (hl:fr.length=36) (h1:A0 fr 1=by') (h5:A0 fr 5=.sl 0 l.length 0 l.length) (h19:A0 fr 19=sl m 4 (A4 l)) (h20:A0 fr 20=.int .i64 l.length) (h21:A0 fr 21=.int .i64 0) :
  B7 (lp (A2 (K8 Q) (D6 K7) DV) (fr,h)) λe C3 h'=>Kp DV.wr fr C3/\e=.exit 0/\∃B done,h'=⟨A::C::B,[⟨A4 done,4,true⟩]⟩/\G9 done=m8 f l/\done.length=l.length:=by
 refine B4 rfl fr (λn fr h'=>∃(i:Nat),i+n=l.length/\A0 fr 21=.int .i64 (i:Nat)/\(∃B done,h'=⟨A::C::B,[⟨A4 done++A0d (l.length-i) zT,4,true⟩]⟩/\G9 done=m8 f (l.take i)/\done.length=i)) ?_ l.length h ⟨0,by omega,h21,⟨[],[],by simp[hh,A4],by simp[G9,m8],rfl⟩⟩;rintro J Φ hJ hΦ n D5 H1 K ⟨i,hi,k21,hr⟩;have A6:=K.1.trans hl;have k1:=A8 K 1 h1;have k5:=A8 K 5 h5;have k19:=A8 K 19 h19;have k20:=A8 K 20 h20;clear K;by_cases A7:i<l.length
 .have L4:=C6 i (by omega);obtain⟨B,done,rfl,hd,Dm⟩:=hr;have hx:=I0 A7;obtain⟨t',hI,ht⟩:=IH l[i] (A0X A7);have e1:l.length-i=(l.length-(i+1))+1:=by omega
  have e2:G9 (done++[t'])=m8 f (l.take (i+1)):=by
   rw[A0O A7,E1,A0Q,←E1,hd,JG,JG,A0Q,A0R,A0T,A0R,A0T,ht]
  have e3:(A4 done++A0d (l.length-i) zT).set i (B8 t')=A4 (done++[t'])++A0d (l.length-(i+1)) zT:=by
   rw[e1,A0q,A0p _ _ (by simp[Dm]),P9];simp[Dm]
  have e4:(A4 done++A0d (l.length-i) zT)[i]?=some zT:=by
   rw[e1,A0q,List.getElem?_append_right (by simp[Dm])];simp[Dm]
  have e5:(A4 done++A0d (l.length-i) zT).length=l.length:=by simp[Dm];omega
  clear ht hd;generalize l[i]=t at *
  generalize A4 done++A0d (l.length-i) zT=X at *
  have e6:(AV.agg [.int .i64 t'.kind,.str t'.name,.int .i64 t'.sort,sl t'.cm 4 (A4 t'.kids)])=B8 t':=VX t';obtain⟨_,e7⟩:=A0f.1 e4;simp[DV,A6,k1,k5,k19,k20,k21,A7,L4,hx,hI,hby,hby2,e7,e5,zT,AV.reform];exact G0 hJ ⟨i+1,by omega,by simp[A6],⟨_,done++[t'],by rw[e3],e2,by simp[Dm]⟩⟩
 .obtain⟨B,done,rfl,hd,Dm⟩:=hr;have e:i=l.length:=by omega
  subst e;rw[A0i]at hd;simp[DV,A6,k20,k21];exact hΦ _ _ _ ⟨rfl,B,done,by simp,hd,Dm⟩
theorem Xy (r:AV) (hr:r.flat=true) (ns:List ByteArray) (vs:List Int) (hkv:ns.length=vs.length):∀(n:Nat) (t:Tm),t.size<=n->t.size<=1099511627776->I9 t=0->∃t',pc Q K7 [B8 t,gn r ns vs]=some (B8 t')/\E3 t'=CH (L3 ns vs) t:=by
 intro n
 induction n with
 |zero=>intro t h;have:=t.size_pos;omega
 |succ n ih =>
  intro t hn hb P6;obtain⟨k,nm,s,m,kids⟩:=t;have J5:Tm.size (.mk k nm s m kids)=1+Tm.sizes kids:=rfl;have B9:=Tm.length_le kids;obtain⟨hne1,hne2⟩:=Q2 P6;have hnb:=(Gm hne1).2.1;have GX:=bh (gn r ns vs) (L3 ns vs) m kids (by omega) (λ_ _=>rfl) (λ_=>rfl) (λt ht=>ih t (by have:=Tm.size_le ht;omega) (by have:=Tm.size_le ht;omega) (J9 hne2 t ht))
  suffices h:∃v,pc Q K7 [B8 (.mk k nm s m kids),gn r ns vs]=some v/\∃t',v=B8 t'/\E3 t'=CH (L3 ns vs) (.mk k nm s m kids) by
   obtain⟨v,h1,t',rfl,h2⟩:=h;exact⟨t',h1,h2⟩
  refine Sk Ih λΨ hΨ fr hl h0 h1=>?_;simp[Ih,B8]at hl h0 h1;by_cases hk:k=2
  .have hkd:kids=[]:=List.eq_nil_of_length_eq_zero (hnb (.inr hk));have hS:=λ(h:AH) (hb:h.boxes[0]?=some [.int .i64 k,.str nm,.int .i64 s,sl m 4 (A4 kids)])=>jv ns vs hkv r _ _ _ nm h hb;obtain⟨w,h',q1,q2,q3⟩:=hS ⟨[[.int .i64 k,.str nm,.int .i64 s,sl m 4 (A4 kids)],[.int .i64 0,.str (bs []),.int .i64 0,.vs true 0 []]],[]⟩ rfl;simp only[A0c]at q3;subst q2 q3;simp[Ih,hl,h0,h1,gn,B6 hk,q1];exact hΨ _ ⟨.mk k nm (L3 ns vs nm) m kids,rfl,by subst hkd;simp[E3,G9,CH,m8,hk]⟩
  .have r1:(kids.length:Int)*56<=(H3:Int)/\kids.length<=maxLen:=by simp only[H3,maxLen];omega
   simp[Ih,hl,h0,A3 hk,r1];refine B7.mono (GX [.int .i64 k,.str nm,.int .i64 s,sl m 4 (A4 kids)] [.int .i64 0,.str (bs []),.int .i64 0,.vs true 0 []] _ _ ?_ ?_ ?_ ?_ ?_ ?_ ?_) ?_<;>first|(simp[hl,h1];done)|rfl|skip
   rintro e D5 h1 ⟨K,rfl,B,done,rfl,hd,Dm⟩;have J2:D5.length=36:=K.1.trans (by simp[hl]);have GL:A0 D5 2=.ptr 0 0:=A8 K 2 (by simp[hl]);have Mu:A0 D5 4=.ptr 1 0:=A8 K 4 (by simp[hl]);have k5fr1:A0 D5 5=.sl 0 kids.length 0 kids.length:=A8 K 5 (by simp[hl]);clear K;have e1:List.take kids.length (A4 done)=A4 done:=A0S (by simp[Dm]);simp[J2,GL,Mu,k5fr1,e1,Dm];exact hΨ _ ⟨.mk k nm s (false,true) done,rfl,by simp[E3,CH,hk,hd]⟩
end Go.Abs.Q
namespace Go.Abs.Q
open Go.Proofs
attribute [local simp] E6 E7 fin K1 H4 Tb
def lw (k sz:Nat) (xs:List AV) (v:AV) (h:AH):Prop:=(xs=[]/\∃b,v=sl (true,b) sz [])\/(xs≠[]/\v=.sl k xs.length 0 xs.length/\h.fams[k]?=some ⟨xs,sz,true⟩)
@[simp] theorem Ld (h:AH) (k n off len:Nat):DZ h (.sl k n off len)=Em h true (.sl k n off len):=rfl
@[simp] theorem wU (h:AH):DZ h (.vs true 0 [])=some (.vs true 0 []):=rfl
theorem Ur {k sz:Nat} {xs:G4} {v:AV} {h:AH} (hg:lw k sz xs v h):v.isTup=false/\v.cells=[v]/\Es [v]=false:=by
 rcases hg with ⟨_,b,rfl⟩|⟨_,rfl,_⟩<;>exact⟨rfl,rfl,rfl⟩
theorem bA {k sz:Nat} {xs:G4} {v:AV} {h:AH} (hg:lw k sz xs v h) (h':AH):bd h' v=some (.int .i64 xs.length,h'):=by
 rcases hg with ⟨rfl,b,rfl⟩|⟨_,rfl,_⟩
 .simp
 .rfl
theorem RT (m:I6) (xs:G4) (Zs:xs.length<=1048576):∃m',pc Q t8 [sl m 1 xs]=some (sl m' 1 xs):=by
 suffices h:∃r,pc Q t8 [sl m 1 xs]=some r/\∃m',r=sl m' 1 xs by
  obtain⟨r,h1,m',rfl⟩:=h;exact⟨m',h1⟩
 have hr:xs.length*16<=H3/\xs.length<=maxLen:=by simp only[H3,maxLen];omega
 refine GV w6 λΨ hΨ fr hl h0=>?_;simp[w6]at hl h0;by_cases he:xs=[]
 .subst he;obtain⟨m1,m2⟩:=m;cases m2 with
  |false =>
   simp[w6,hl,h0];exact hΨ _ ⟨(true,false),In 1⟩
  |true =>
   simp[w6,hl,h0,GY,A5];exact hΨ _ ⟨_,rfl⟩
 .have he':xs.isEmpty=false:=by simpa using he
  simp[w6,hl,h0,he',GY,A5,he,hr,Ld];exact hΨ _ ⟨_,rfl⟩
theorem ZD (m:I6) (xs:G4) (Zs:xs.length<=1048576):∃m',pc Q DG [sl m 3 xs]=some (sl m' 3 xs):=by
 suffices h:∃r,pc Q DG [sl m 3 xs]=some r/\∃m',r=sl m' 3 xs by
  obtain⟨r,h1,m',rfl⟩:=h;exact⟨m',h1⟩
 have hr:xs.length*40<=H3/\xs.length<=maxLen:=by simp only[H3,maxLen];omega
 refine GV Ad λΨ hΨ fr hl h0=>?_;simp[Ad]at hl h0;by_cases he:xs=[]
 .subst he;obtain⟨m1,m2⟩:=m;cases m2 with
  |false =>
   simp[Ad,hl,h0];exact hΨ _ ⟨(true,false),In 3⟩
  |true =>
   simp[Ad,hl,h0,GY,A5];exact hΨ _ ⟨_,rfl⟩
 .have he':xs.isEmpty=false:=by simpa using he
  simp[Ad,hl,h0,he',GY,A5,he,hr,Ld];exact hΨ _ ⟨_,rfl⟩
theorem QI (m:I6) (xs:G4) (Zs:xs.length<=1048576) (h:AH):∃w h',rc Q I4 [sl m 4 xs] h=some (w,h')/\lw h.fams.length 4 xs w h'/\h'.boxes=h.boxes/\∃e,h'.fams=h.fams++e:=by
 have hr:xs.length*56<=H3/\xs.length<=maxLen:=by simp only[H3,maxLen];omega
 suffices hq:∃w h',rc Q I4 [sl m 4 xs] h=some (w,h')/\∀Ψ:AV->AH->Prop,(∀w h',lw h.fams.length 4 xs w h'/\h'.boxes=h.boxes/\(∃e,h'.fams=h.fams++e)->Ψ w h')->Ψ w h' by
  obtain⟨w,h',h1,h2⟩:=hq;exact⟨w,h',h1,h2 _ λ_ _ h=>h⟩
 refine gD R4 λfr hl h0=>?_;simp[R4]at hl h0;by_cases he:xs=[]
 .subst he;obtain⟨m1,m2⟩:=m;cases m2 with
  |false =>
   simp[R4,hl,h0];exact λΨ hΨ=>hΨ _ _ (.inl ⟨rfl,false,In 4⟩) rfl [] (by simp)
  |true =>
   simp[R4,hl,h0,GY,A5];exact λΨ hΨ=>hΨ _ _ (.inl ⟨rfl,true,rfl⟩) rfl [] (by simp)
 .have he':xs.isEmpty=false:=by simpa using he
  simp[R4,hl,h0,he',GY,A5,he,hr,show ZB I4=true from rfl];exact λΨ hΨ=>hΨ _ _ (.inr ⟨he,rfl,by simp⟩) rfl _ rfl
theorem cq (m:I6) (xs:G4) (Zs:xs.length<=1048576) (h:AH):∃w h',rc Q P0 [sl m 7 xs] h=some (w,h')/\lw h.fams.length 7 xs w h'/\h'.boxes=h.boxes/\∃e,h'.fams=h.fams++e:=by
 have hr:xs.length*96<=H3/\xs.length<=maxLen:=by simp only[H3,maxLen];omega
 suffices hq:∃w h',rc Q P0 [sl m 7 xs] h=some (w,h')/\∀Ψ:AV->AH->Prop,(∀w h',lw h.fams.length 7 xs w h'/\h'.boxes=h.boxes/\(∃e,h'.fams=h.fams++e)->Ψ w h')->Ψ w h' by
  obtain⟨w,h',h1,h2⟩:=hq;exact⟨w,h',h1,h2 _ λ_ _ h=>h⟩
 refine gD BK λfr hl h0=>?_;simp[BK]at hl h0;by_cases he:xs=[]
 .subst he;obtain⟨m1,m2⟩:=m;cases m2 with
  |false =>
   simp[BK,hl,h0];exact λΨ hΨ=>hΨ _ _ (.inl ⟨rfl,false,In 7⟩) rfl [] (by simp)
  |true =>
   simp[BK,hl,h0,GY,A5];exact λΨ hΨ=>hΨ _ _ (.inl ⟨rfl,true,rfl⟩) rfl [] (by simp)
 .have he':xs.isEmpty=false:=by simpa using he
  simp[BK,hl,h0,he',GY,A5,he,hr,show ZB P0=true from rfl];exact λΨ hΨ=>hΨ _ _ (.inr ⟨he,rfl,by simp⟩) rfl _ rfl
theorem cp (m:I6) (xs:G4) (Zs:xs.length<=1048576) (h:AH):∃w h',rc Q O9 [sl m 5 xs] h=some (w,h')/\lw h.fams.length 5 xs w h'/\h'.boxes=h.boxes/\∃e,h'.fams=h.fams++e:=by
 have hr:xs.length*72<=H3/\xs.length<=maxLen:=by simp only[H3,maxLen];omega
 suffices hq:∃w h',rc Q O9 [sl m 5 xs] h=some (w,h')/\∀Ψ:AV->AH->Prop,(∀w h',lw h.fams.length 5 xs w h'/\h'.boxes=h.boxes/\(∃e,h'.fams=h.fams++e)->Ψ w h')->Ψ w h' by
  obtain⟨w,h',h1,h2⟩:=hq;exact⟨w,h',h1,h2 _ λ_ _ h=>h⟩
 refine gD BJ λfr hl h0=>?_;simp[BJ]at hl h0;by_cases he:xs=[]
 .subst he;obtain⟨m1,m2⟩:=m;cases m2 with
  |false =>
   simp[BJ,hl,h0];exact λΨ hΨ=>hΨ _ _ (.inl ⟨rfl,false,In 5⟩) rfl [] (by simp)
  |true =>
   simp[BJ,hl,h0,GY,A5];exact λΨ hΨ=>hΨ _ _ (.inl ⟨rfl,true,rfl⟩) rfl [] (by simp)
 .have he':xs.isEmpty=false:=by simpa using he
  simp[BJ,hl,h0,he',GY,A5,he,hr,show ZB O9=true from rfl];exact λΨ hΨ=>hΨ _ _ (.inr ⟨he,rfl,by simp⟩) rfl _ rfl
end Go.Abs.Q
namespace Go.Abs.Q
open Go.Proofs
attribute [local simp] E6 E7 fin K1 H4
@[simp] theorem kpB_t' (B:List (List AV)) (f f':List Fam) (v:AV):WI true ⟨B,f⟩ (some (v,⟨B,f'⟩))=some (v,⟨B,f'⟩):=rJ ⟨B,f⟩ v f'
@[simp] theorem zY (s:Ste) (cs:G4):(El s).reform cs=some (.agg cs):=rfl
@[simp] theorem yt (s:Gol) (cs:G4):(Eo s).reform cs=some (.agg cs):=rfl
@[simp] theorem zd (s:Tm) (cs:G4):(B8 s).reform cs=some (.agg cs):=by cases s;rfl
theorem wk (a b:J3) (t:Tm) (c:Int):AV.agg [.str a,.str b,.int .i64 t.kind,.str t.name,.int .i64 t.sort,sl t.cm 4 (A4 t.kids),.int .i64 c]=El ⟨a,b,t,c⟩:=by cases t;rfl
def Ns (s:Ste):Ste:=⟨s.frm,s.to,E3 s.msg,s.line⟩
def Dh (f:ByteArray->Int) (s:Ste):Ste:=⟨s.frm,s.to,CH f s.msg,s.line⟩
def mW (g:Gol):Gol:=⟨g.kind,g.role,g.wth,(false,false),G9 g.data,g.line⟩
def VT (f:ByteArray->Int) (g:Gol):Gol:=⟨g.kind,g.role,g.wth,(false,false),m8 f g.data,g.line⟩
theorem SN {α β:Type} (g:α->β) (done l:List α) {i:Nat} (hi:i<l.length) (hd:done.length=i):∃h:i<((done++l.drop i).map g).length,((done++l.drop i).map g)[i]=g l[i]/\((done++l.drop i).map g).length=l.length:=by
 have e:(done++l.drop i).length=l.length:=by simp[hd];omega
 refine⟨by simp[hd];omega,?_,by simpa using e⟩;simp[hd,List.getElem_append_right]
theorem SO {α β:Type} (g:α->β) (done l:List α) {i:Nat} (hi:i<l.length) (hd:done.length=i) (x:α):((done++l.drop i).map g).set i (g x)=((done++[x])++l.drop (i+1)).map g:=by
 rw[A0P hi,←List.map_set,A0p _ _ (by omega),hd,Nat.sub_self,A0c,A0V,List.singleton_append]
theorem DK {α:Type} {l:List α} {k:Nat} {x:α} (h:l[k]?=some x):l.set k x=l:=by
 obtain⟨h1,h2⟩:=A0f.1 h;subst h2;exact List.set_getElem_self h1
theorem mt (by':AV) (f:ByteArray->Int) (l:List Ste) (B9:l.length<=1048576) (hby:∀h am,KI h am by'=some by') (hby2:∀h,CO h by'=true) (IH:∀s∈l,∃t',pc Q K7 [B8 s.msg,by']=some (B8 t')/\E3 t'=CH f s.msg) (k:Nat) (b0 b1 b2 b3 b5:AV) (C:G4) (fr:Fr) (h:AH) (hh:h.boxes=[[b0,b1,b2,b3,.sl k l.length 0 l.length,b5],C]) (hfam:h.fams[k]?=some ⟨l.map El,7,true⟩) (hl:fr.length=85) (h1:A0 fr 1=by') (h2:A0 fr 2=.ptr 0 0) (h31:A0 fr 31=.int .i64 l.length) (h32:A0 fr 32=.int .i64 0) :
  B7 (lp (A2 (K8 Q) (D6 BU) IT) (fr,h)) λe C3 h'=>Kp IT.wr fr C3/\e=.exit 0/\∃done:List Ste,h'=⟨h.boxes,h.fams.set k ⟨done.map El,7,true⟩⟩/\done.map Ns=l.map (Dh f)/\done.length=l.length:=by
 refine B4 rfl fr (λn fr h'=>∃(i:Nat),i+n=l.length/\A0 fr 32=.int .i64 (i:Nat)/\(∃done:List Ste,h'=⟨h.boxes,h.fams.set k ⟨(done++l.drop i).map El,7,true⟩⟩/\done.map Ns=(l.take i).map (Dh f)/\done.length=i)) ?_ l.length h ⟨0,by omega,h32,⟨[],by simp[DK hfam],rfl,rfl⟩⟩;rintro J Φ hJ hΦ n D5 H1 K ⟨i,hi,k32,hr⟩;have A6:=K.1.trans hl;have k1:=A8 K 1 h1;have k2:=A8 K 2 h2;have k31:=A8 K 31 h31;clear K;by_cases A7:i<l.length
 .have L4:=C6 i (by omega);obtain⟨done,rfl,hd,Dm⟩:=hr;obtain⟨t',hI,ht⟩:=IH l[i] (A0X A7);obtain⟨q1,q2,q3⟩:=SN El done l A7 Dm;have q4:=SO El done l A7 Dm ⟨l[i].frm,l[i].to,t',l[i].line⟩;have e2:(done++[Ste.mk l[i].frm l[i].to t' l[i].line]).map Ns=(l.take (i+1)).map (Dh f):=by
   rw[A0O A7,A0Q,hd,A0Q,A0R,A0T,A0R,A0T];simp only[Ns,ht,Dh]
  have CI:=H5 hfam;have e6:=wk l[i].frm l[i].to t' l[i].line;rw[hh]at hJ ⊢;clear hd ht;generalize (done++l.drop i).map El=X at *
  generalize hY:(done++[Ste.mk l[i].frm l[i].to t' l[i].line]++l.drop (i+1)).map El=Y at *
  generalize l[i]=s at *
  simp[IT,A6,k1,k2,k31,k32,A7,L4,hI,hby,hby2,q2,q3,q4,e6,CI];exact G0 hJ ⟨i+1,by omega,by simp[A6],⟨_,by rw[hY],e2,by simp[Dm]⟩⟩
 .obtain⟨done,rfl,hd,Dm⟩:=hr;have e:i=l.length:=by omega
  subst e;rw[A0i]at hd;rw[A0n,A0Z];simp[IT,A6,k31,k32];exact hΦ _ _ _ ⟨rfl,done,rfl,hd,Dm⟩
theorem mn (by':AV) (f:ByteArray->Int) (l:G6) (B9:l.length<=1048576) (hby:∀h am,KI h am by'=some by') (hby2:∀h,CO h by'=true) (IH:∀s∈l,∃t',pc Q K7 [B8 s,by']=some (B8 t')/\E3 t'=CH f s) (k:Nat) (fr:Fr) (h:AH) (hfam:h.fams[k]?=some ⟨A4 l,4,true⟩) (hl:fr.length=85) (h1:A0 fr 1=by') (h7:A0 fr 7=.sl k l.length 0 l.length) (h63:A0 fr 63=.int .i64 l.length) (h64:A0 fr 64=.int .i64 0) :
  B7 (lp (A2 (K8 Q) (D6 BU) BW) (fr,h)) λe C3 h'=>Kp BW.wr fr C3/\e=.exit 4/\∃done:List Tm,h'=⟨h.boxes,h.fams.set k ⟨A4 done,4,true⟩⟩/\G9 done=m8 f l/\done.length=l.length:=by
 refine B4 rfl fr (λn fr h'=>∃(i:Nat),i+n=l.length/\A0 fr 64=.int .i64 (i:Nat)/\(∃done:List Tm,h'=⟨h.boxes,h.fams.set k ⟨(done++l.drop i).map B8,4,true⟩⟩/\G9 done=m8 f (l.take i)/\done.length=i)) ?_ l.length h ⟨0,by omega,h64,⟨[],by simp[DK hfam,←C9],by simp[G9,m8],rfl⟩⟩;rintro J Φ hJ hΦ n D5 H1 K ⟨i,hi,k64,hr⟩;have A6:=K.1.trans hl;have k1:=A8 K 1 h1;have k7:=A8 K 7 h7;have k63:=A8 K 63 h63;clear K;by_cases A7:i<l.length
 .have L4:=C6 i (by omega);obtain⟨done,rfl,hd,Dm⟩:=hr;obtain⟨t',hI,ht⟩:=IH l[i] (A0X A7);obtain⟨q1,q2,q3⟩:=SN B8 done l A7 Dm;have q4:=SO B8 done l A7 Dm t';have e2:G9 (done++[t'])=m8 f (l.take (i+1)):=by
   rw[A0O A7,E1,A0Q,←E1,hd,JG,JG,A0Q,A0R,A0T,A0R,A0T,ht]
  have CI:=H5 hfam;clear hd ht;generalize (done++l.drop i).map B8=X at *
  generalize hY:(done++[t']++l.drop (i+1)).map B8=Y at *
  generalize l[i]=s at *
  simp[BW,A6,k1,k7,k63,k64,A7,L4,hI,hby,hby2,q2,q3,q4,CI];exact G0 hJ ⟨i+1,by omega,by simp[A6],⟨_,by rw[hY],e2,by simp[Dm]⟩⟩
 .obtain⟨done,rfl,hd,Dm⟩:=hr;have e:i=l.length:=by omega
  subst e;rw[A0i]at hd;rw[A0n,A0Z,←C9];simp[BW,A6,k63,k64];exact hΦ _ _ _ ⟨rfl,done,rfl,hd,Dm⟩
theorem qQ (fr:Fr) (h:AH) (hl:fr.length=85) (h63:A0 fr 63=.int .i64 0) (h64:A0 fr 64=.int .i64 0) :
  B7 (lp (A2 (K8 Q) (D6 BU) BW) (fr,h)) λe C3 h'=>Kp BW.wr fr C3/\e=.exit 4/\h'=h:=by
 refine B4 rfl fr (λn C3 h'=>C3=fr/\h'=h) ?_ 0 h ⟨rfl,rfl⟩;rintro J Φ hJ hΦ n D5 H1 K ⟨rfl,rfl⟩;simp[BW,hl,h63,h64];exact hΦ _ _ _ ⟨rfl,rfl⟩
theorem qt (a:Int) (b c:J3) (m:I6) (l:G6) (d:Int):AV.agg [.int .i64 a,.str b,.str c,sl m 4 (A4 l),.int .i64 d]=Eo ⟨a,b,c,m,l,d⟩:=rfl
theorem kD {h:AH} {kd kg i m:Nat} {dd:G6} {X:G4} {g:Gol} (h1:h.fams[kd]?=some ⟨A4 dd,4,true⟩) (h2:h.fams[kg]?=some ⟨X,5,true⟩) (P6:kd≠kg) (hm:X.length=m) (hx:X[i]?=some (Eo g)) :
  Lx h 1 (.sl kd dd.length 0 dd.length) (.ep kg m i 3 5)=some ⟨h.boxes,(h.fams.set kd ⟨A4 dd,4,false⟩).set kg ⟨X.set i (Eo ⟨g.kind,g.role,g.wth,(false,true),dd,g.line⟩),5,true⟩⟩:=by
 have hk:=H5 h1;have hl:bc h (.sl kd dd.length 0 dd.length)=some ⟨h.boxes,h.fams.set kd ⟨A4 dd,4,false⟩⟩:=by
  simp[bc,PS,CU,h1,pg]
 have hf:KI ⟨h.boxes,h.fams.set kd ⟨A4 dd,4,false⟩⟩ false (.sl kd dd.length 0 dd.length)=some (sl (false,true) 4 (A4 dd)):=by
  rw[PS,CU];simp only;rw[A0b hk,A0Y,if_pos ⟨by simp,by omega,rfl⟩,A0r,A0S (by simp)]
 rw[Sd,hl,A0Y];simp only;rw[A0a P6,h2,A0Y,if_pos ⟨hm,rfl,rfl⟩];simp only;rw[hx,A0Y,hf,A0Y];simp[qt]
theorem gZ {h:AH} {kg i m:Nat} {b:Bool} {X:G4} {g:Gol} (h2:h.fams[kg]?=some ⟨X,5,true⟩) (hm:X.length=m) (hx:X[i]?=some (Eo g)) :
  Lx h 1 (sl (true,b) 4 []) (.ep kg m i 3 5)=some ⟨h.boxes,h.fams.set kg ⟨X.set i (Eo ⟨g.kind,g.role,g.wth,(true,b),[],g.line⟩),5,true⟩⟩:=by
 rw[Sd];simp only[bc,tW,A0Y];rw[h2,A0Y,if_pos ⟨hm,rfl,rfl⟩];simp only;rw[hx,A0Y];have e:=qt g.kind g.role g.wth (true,b) [] g.line;rw[show A4 []=[] from rfl]at e;simp[e]
theorem mq (by':AV) (f:ByteArray->Int) (l:List Gol) (B9:l.length<=1048576) (Dm:∀g∈l,g.data.length<=1048576) (hby:∀h am,KI h am by'=some by') (hby2:∀h,CO h by'=true) (IH:∀g∈l,∀t∈g.data,∃t',pc Q K7 [B8 t,by']=some (B8 t')/\E3 t'=CH f t) (kg:Nat) (b0 b1 b2 b3 b4:AV) (C:G4) (fr:Fr) (h:AH) (hh:h.boxes=[[b0,b1,b2,b3,b4,.sl kg l.length 0 l.length],C]) (hfam:h.fams[kg]?=some ⟨l.map Eo,5,true⟩) (hl:fr.length=85) (h1:A0 fr 1=by') (h2:A0 fr 2=.ptr 0 0) (h51:A0 fr 51=.int .i64 l.length) (h52:A0 fr 52=.int .i64 0) :
  B7 (lp (A2 (K8 Q) (D6 BU) AP) (fr,h)) λe C3 h'=>Kp AP.wr fr C3/\e=.exit 2/\∃(F:List Fam) (done:List Gol),h'=⟨h.boxes,F⟩/\F[kg]?=some ⟨done.map Eo,5,true⟩/\(∀j,j≠kg->j<h.fams.length->F[j]?=h.fams[j]?)/\done.map mW=l.map (VT f)/\done.length=l.length:=by
 refine B4 rfl fr (λn fr h'=>∃(i:Nat),i+n=l.length/\A0 fr 52=.int .i64 (i:Nat)/\(∃(F:List Fam) (done:List Gol),h'=⟨h.boxes,F⟩/\F[kg]?=some ⟨(done++l.drop i).map Eo,5,true⟩/\(∀j,j≠kg->j<h.fams.length->F[j]?=h.fams[j]?)/\h.fams.length<=F.length/\done.map mW=(l.take i).map (VT f)/\done.length=i)) ?_ l.length h ⟨0,by omega,h52,⟨_,[],rfl,by simpa using hfam,λ_ _ _=>rfl,A0m _,rfl,rfl⟩⟩;rintro J Φ hJ hΦ n D5 H1 K ⟨i,hi,k52,hr⟩;have A6:=K.1.trans hl;have k1:=A8 K 1 h1;have k2:=A8 K 2 h2;have k51:=A8 K 51 h51;clear K;by_cases A7:i<l.length
 .have L4:=C6 i (by omega);obtain⟨F,done,rfl,hF,hFo,hFl,hd,hdn⟩:=hr;obtain⟨q1,q2,q3⟩:=SN Eo done l A7 hdn;have hq2:=A0f.2 ⟨q1,q2⟩;have hkg:=H5 hF;have hkg0:=H5 hfam;obtain⟨w,⟨bx,F1⟩,hC,hRow,Qn,e,hFe⟩:=QI l[i].dm (A4 l[i].data) (by have:=Dm l[i] (A0X A7);simpa using this) ⟨h.boxes,F⟩;simp only at Qn hFe;subst Qn;have hF1:F1[kg]?=some ⟨(done++l.drop i).map Eo,5,true⟩:=by rw[hFe,A0e hkg];exact hF
  have hF1o:∀j,j≠kg->j<h.fams.length->F1[j]?=h.fams[j]?:=λj h1 h2=>by rw[hFe,A0e (by omega)];exact hFo j h1 h2
  have hF1l:h.fams.length<=F1.length:=by rw[hFe];simp;omega
  have hlen7:∀h',bd h' w=some (.int .i64 l[i].data.length,h'):=λh'=>by have:=bA hRow h';simpa using this
  have hIH:=IH l[i] (A0X A7);have hdl':=Dm l[i] (A0X A7);have q4:=λg':Gol=>SO Eo done l A7 hdn g';have fin:∀g':Gol,mW g'=VT f l[i]->(done++[g']).map mW=(l.take (i+1)).map (VT f):=by
   intro g' he;rw[A0O A7,A0Q,hd,A0Q,A0R,A0T,A0R,A0T,he]
  rw[hh]at hC hJ ⊢;clear hd hFe hFo;generalize hX:(done++l.drop i).map Eo=X at *
  generalize l[i]=g at *
  by_cases hnil:g.data=[]
  .obtain⟨-,b,rfl⟩:A4 g.data=[]/\∃b,w=sl (true,b) 4 []:=by
    rcases hRow with h|⟨h,_⟩
    .exact h
    .rw[hnil]at h;exact absurd rfl h
   have hSt:=gZ (h:=⟨[[b0,b1,b2,b3,b4,.sl kg l.length 0 l.length],C],F1⟩) (b:=b) hF1 q3 hq2;simp[AP,A6,k2,k51,k52,A7,hF,q2,q3,hC,hlen7];rw[hnil];refine B7.mono (qQ _ _ ?_ ?_ ?_) ?_<;>first|(simp[A6];done)|skip
   rintro e R3 h2 ⟨K,rfl,rfl⟩;have T4:R3.length=85:=K.1.trans (by simp[A6]);have k2fr2:A0 R3 2=.ptr 0 0:=A8 K 2 (by simp[k2]);have k6fr2:A0 R3 6=.int .i64 (i:Nat):=A8 K 6 (by simp[A6]);have k7fr2:A0 R3 7=sl (true,b) 4 []:=A8 K 7 (by simp[A6]);have k52fr2:A0 R3 52=.int .i64 (i:Nat):=A8 K 52 (by simp[k52]);clear K;simp[T4,k2fr2,k6fr2,k7fr2,k52fr2,A7,hSt,L4,-Sd];exact G0 hJ ⟨i+1,by omega,by simp[T4],_,done++[⟨g.kind,g.role,g.wth,(true,b),[],g.line⟩],rfl,by rw[A0b (H5 hF1),q4],λj h1 h2=>by rw[A0a (Ne.symm h1)];exact hF1o j h1 h2,by simpa using hF1l,fin _ (by simp[mW,VT,hnil,G9,m8]),by simp[hdn]⟩
  .obtain⟨rfl,hkd⟩:w=.sl F.length g.data.length 0 g.data.length/\F1[F.length]?=some ⟨A4 g.data,4,true⟩:=by
    rcases hRow with ⟨h,_⟩|⟨_,h,h'⟩
    .rw[C9,A0k]at h;exact absurd h hnil
    .exact⟨by simpa using h,h'⟩
   have P6:F.length≠kg:=by omega
   simp[AP,A6,k2,k51,k52,A7,hF,q2,q3,hC,hlen7];refine B7.mono (mn by' f g.data hdl' hby hby2 hIH F.length _ _ ?_ ?_ ?_ ?_ ?_ ?_) ?_<;>first|(simp[A6,k1];done)|skip
   .exact hkd
   rintro e R3 h2 ⟨K,rfl,dd,rfl,hdd,hddl⟩;have T4:R3.length=85:=K.1.trans (by simp[A6]);have k2fr2:A0 R3 2=.ptr 0 0:=A8 K 2 (by simp[k2]);have k6fr2:A0 R3 6=.int .i64 (i:Nat):=A8 K 6 (by simp[A6]);have k7fr2:A0 R3 7=.sl F.length g.data.length 0 g.data.length:=A8 K 7 (by simp[A6]);have k52fr2:A0 R3 52=.int .i64 (i:Nat):=A8 K 52 (by simp[k52]);clear K;have hkdl:=H5 hkd;have hSt:=kD (h:=⟨[[b0,b1,b2,b3,b4,.sl kg l.length 0 l.length],C],F1.set F.length ⟨A4 dd,4,true⟩⟩) (kd:=F.length) (dd:=dd) (A0b hkdl) (by simp only;rw[A0a P6];exact hF1) P6 q3 hq2;rw[hddl]at hSt;simp only[List.set_set]at hSt;simp[T4,k2fr2,k6fr2,k7fr2,k52fr2,A7,hSt,L4,-Sd];exact G0 hJ ⟨i+1,by omega,by simp[T4],_,done++[⟨g.kind,g.role,g.wth,(false,true),dd,g.line⟩],rfl,by rw[A0b (by simpa using H5 hF1),q4],λj h1 h2=>by rw[A0a (Ne.symm h1),A0a (by omega)];exact hF1o j h1 h2,by simpa using hF1l,fin _ (by simp[mW,VT,hdd]),by simp[hdn]⟩
 .obtain⟨F,done,rfl,hF,hFo,hFl,hd,hdn⟩:=hr;have e:i=l.length:=by omega
  subst e;rw[A0i]at hd;rw[A0n,A0Z]at hF;simp[AP,A6,k51,k52];exact hΦ _ _ _ ⟨rfl,F,done,rfl,hF,hFo,hd,hdn⟩
def Ql (n:Nar):Nar:=⟨n.name,(false,false),n.roles,(false,false),n.fresh,(false,false),n.tags,(false,false),n.steps.map Ns,(false,false),n.goals.map mW⟩
def CN (f:ByteArray->Int) (n:Nar):Nar:=⟨n.name,(false,false),n.roles,(false,false),n.fresh,(false,false),n.tags,(false,false),n.steps.map (Dh f),(false,false),n.goals.map (VT f)⟩
theorem qR (fr:Fr) (h:AH) (hl:fr.length=85) (h51:A0 fr 51=.int .i64 0) (h52:A0 fr 52=.int .i64 0) :
  B7 (lp (A2 (K8 Q) (D6 BU) AP) (fr,h)) λe C3 h'=>Kp AP.wr fr C3/\e=.exit 2/\h'=h:=by
 refine B4 rfl fr (λn C3 h'=>C3=fr/\h'=h) ?_ 0 h ⟨rfl,rfl⟩;rintro J Φ hJ hΦ n D5 H1 K ⟨rfl,rfl⟩;simp[AP,hl,h51,h52];exact hΦ _ _ _ ⟨rfl,rfl⟩
theorem JR {h:AH} {k sz:Nat} {xs:G4} {b:Bool} (hk:h.fams[k]?=some ⟨xs,sz,b⟩) {n:Nat} (hn:xs.length=n):Em h true (.sl k n 0 n)=some (sl (false,true) sz xs):=by
 rw[CU,hk,A0Y,if_pos ⟨hn,by omega,rfl⟩,A0r,A0S (by simp[hn])]
structure Lens (n:Nar):Prop where
 names:n.roles.length+n.fresh.length+n.tags.length<=1048576
 steps:n.steps.length<=1048576
 goals:n.goals.length<=1048576
 data:∀g∈n.goals,g.data.length<=1048576
theorem yD (n:Nar) (hS:Lens n) (P6:n.steps≠[]) (r:AV) (ns:List ByteArray) (vs:List Int) (f:ByteArray->Int)
  (IH1:∀s∈n.steps,∃t',pc Q K7 [B8 s.msg,gn r ns vs]=some (B8 t')/\E3 t'=CH f s.msg) (IH2:∀g∈n.goals,∀t∈g.data,∃t',pc Q K7 [B8 t,gn r ns vs]=some (B8 t')/\E3 t'=CH f t) :
  ∃n',pc Q BU [G5 n,gn r ns vs]=some (G5 n')/\Ql n'=CN f n:=by
 suffices h:∃v,pc Q BU [G5 n,gn r ns vs]=some v/\∃n',v=G5 n'/\Ql n'=CN f n by
  obtain⟨v,h1,n',rfl,h2⟩:=h;exact⟨n',h1,h2⟩
 obtain⟨s0,s1,s2,s3⟩:=hS;obtain⟨name,rm,roles,fm,fresh,tm,tags,sm,steps,gm,goals⟩:=n;simp only at *
 obtain⟨m1,c1⟩:=RT rm (roles.map .str) (by simp;omega);obtain⟨m2,c2⟩:=ZD fm (fresh.map Lq) (by simp;omega);obtain⟨m3,c3⟩:=RT tm (tags.map .str) (by simp;omega);obtain⟨w1,⟨B1,F1⟩,c4,r4,hb4,e4,f4⟩:=cq sm (steps.map El) (by simpa using s1) ⟨[[.str name,sl m1 1 (roles.map .str),sl m2 3 (fresh.map Lq),sl m3 1 (tags.map .str),sl sm 7 (steps.map El),sl gm 5 (goals.map Eo)],[.str (bs []),.vs true 0 [],.vs true 0 [],.vs true 0 [],.vs true 0 [],.vs true 0 []]],[]⟩;simp only at hb4 f4;subst hb4;obtain⟨w2,⟨B2,F2⟩,c5,r5,hb5,e5,f5⟩:=cp gm (goals.map Eo) (by simpa using s2) ⟨[[.str name,sl m1 1 (roles.map .str),sl m2 3 (fresh.map Lq),sl m3 1 (tags.map .str),sl sm 7 (steps.map El),sl gm 5 (goals.map Eo)],[.str (bs []),.vs true 0 [],.vs true 0 [],.vs true 0 [],.vs true 0 [],.vs true 0 []]],F1⟩;simp only at hb5 f5;subst hb5;obtain⟨rfl,hF1⟩:w1=.sl 0 steps.length 0 steps.length/\F1[0]?=some ⟨steps.map El,7,true⟩:=by
  rcases r4 with ⟨h,_⟩|⟨_,h,h'⟩
  .rw[A0k]at h;exact absurd h P6
  .exact⟨by simpa using h,by simpa using h'⟩
 have hF2:F2[0]?=some ⟨steps.map El,7,true⟩:=by rw[f5,A0e (H5 hF1)];exact hF1
 have hw2:=Ur r5;have hn2:∀h',bd h' w2=some (.int .i64 goals.length,h'):=λh'=>by have:=bA r5 h';simpa using this
 have g1:=mt (gn r ns vs) f steps s1 (λ_ _=>rfl) (λ_=>rfl) IH1 0 (.str name) (sl m1 1 (roles.map .str)) (sl m2 3 (fresh.map Lq)) (sl m3 1 (tags.map .str)) w2 [.str (bs []),.vs true 0 [],.vs true 0 [],.vs true 0 [],.vs true 0 [],.vs true 0 []];refine Sk Rq λΨ hΨ fr hl h0 h1=>?_;simp[Rq,G5]at hl h0 h1;simp[Rq,hl,h0,c1,c2,c3,c4,c5,hw2];refine B7.mono (g1 _ _ ?_ ?_ ?_ ?_ ?_ ?_ ?_) ?_<;>first|(simp[hl,h1];done)|skip
 .exact hF2
 rintro e D5 Cw ⟨K,rfl,S,rfl,hS1,hS2⟩;have J2:D5.length=85:=K.1.trans (by simp[hl]);have FU:A0 D5 1=gn r ns vs:=A8 K 1 (by simp[h1]);have GL:A0 D5 2=.ptr 0 0:=A8 K 2 (by simp[hl]);have Mu:A0 D5 4=.ptr 1 0:=A8 K 4 (by simp[hl]);clear K;simp[J2,GL,hn2];have hFz:(F2.set 0 ⟨S.map El,7,true⟩)[0]?=some ⟨S.map El,7,true⟩:=A0b (H5 hF2);by_cases hg:goals=[]
 .subst hg;obtain⟨-,b,rfl⟩:([]:List Gol).map Eo=[]/\∃b,w2=sl (true,b) 5 []:=by
   rcases r5 with h|⟨h,_⟩
   .exact h
   .exact absurd rfl h
  refine B7.mono (qR _ _ ?_ ?_ ?_) ?_<;>first|(simp[J2];done)|skip
  rintro e R3 h2 ⟨K,rfl,rfl⟩;have T4:R3.length=85:=K.1.trans (by simp[J2]);have k2fr2:A0 R3 2=.ptr 0 0:=A8 K 2 (by simp[GL]);have k4fr2:A0 R3 4=.ptr 1 0:=A8 K 4 (by simp[Mu]);clear K;have hz:=λB:List (List AV)=>JR (h:=⟨B,F2.set 0 ⟨S.map El,7,true⟩⟩) hFz (n:=steps.length) (by simpa using hS2);simp[T4,k2fr2,k4fr2,hz];exact hΨ _ ⟨⟨name,m1,roles,m2,fresh,m3,tags,(false,true),S,(true,b),[]⟩,rfl,by simp[Ql,CN,hS1]⟩
 .obtain⟨rfl,hF2g⟩:w2=.sl F1.length goals.length 0 goals.length/\F2[F1.length]?=some ⟨goals.map Eo,5,true⟩:=by
   rcases r5 with ⟨h,_⟩|⟨_,h,h'⟩
   .rw[A0k]at h;exact absurd h hg
   .exact⟨by simpa using h,h'⟩
  have h0F:0<F1.length:=H5 hF1;have hFg:(F2.set 0 ⟨S.map El,7,true⟩)[F1.length]?=some ⟨goals.map Eo,5,true⟩:=by rw[A0a (by omega)];exact hF2g
  refine B7.mono (mq (gn r ns vs) f goals s2 s3 (λ_ _=>rfl) (λ_=>rfl) IH2 F1.length (.str name) (sl m1 1 (roles.map .str)) (sl m2 3 (fresh.map Lq)) (sl m3 1 (tags.map .str)) (.sl 0 steps.length 0 steps.length) [.str (bs []),.vs true 0 [],.vs true 0 [],.vs true 0 [],.vs true 0 [],.vs true 0 []] _ _ ?_ ?_ ?_ ?_ ?_ ?_ ?_) ?_<;>first|(simp[J2,FU,GL];done)|skip
  .exact hFg
  rintro e R3 h2 ⟨K,rfl,F,G,rfl,hG1,hG2,hG3,hG4⟩;have T4:R3.length=85:=K.1.trans (by simp[J2]);have k2fr2:A0 R3 2=.ptr 0 0:=A8 K 2 (by simp[GL]);have k4fr2:A0 R3 4=.ptr 1 0:=A8 K 4 (by simp[Mu]);clear K;have hFs:=hG2 0 (by omega) (by simpa using H5 hF2);rw[hFz]at hFs;have hz:=λB:List (List AV)=>JR (h:=⟨B,F⟩) hFs (n:=steps.length) (by simpa using hS2);have hz2:=λB:List (List AV)=>JR (h:=⟨B,F⟩) hG1 (n:=goals.length) (by simpa using hG4);simp[T4,k2fr2,k4fr2,hz,hz2];exact hΨ _ ⟨⟨name,m1,roles,m2,fresh,m3,tags,(false,true),S,(false,true),G⟩,rfl,by simp[Ql,CN,hS1,hG3]⟩
theorem gi {t:Tm} (h:R6 t=0):I9 t=0:=by
 unfold R6 at h;apply Classical.byContradiction;intro hv;rw[if_pos hv]at h;exact hv h
theorem KX {t:Tm} (h:GU t=0):I9 t=0:=by
 refine gi ?_;unfold GU Lj at h;apply Classical.byContradiction;intro hv;rw[if_pos hv,if_pos hv]at h;exact hv h
theorem JD {n:Nar} (h:PX n=0):KL n=0/\(∀s∈n.steps,KJ s=0)/\∀g∈n.goals,MQ g=0:=by
 unfold PX at h;by_cases h1:KL n=0
 .rw[if_neg (by simp[h1])]at h;by_cases h2:D3 KJ n.steps=0
  .rw[if_neg (by simp[h2])]at h;exact⟨h1,En h2,En h⟩
  .rw[if_pos h2]at h;exact absurd h h2
 .rw[if_pos h1]at h;exact absurd h h1
theorem XR {n:Nar} (h:KL n=0):n.steps≠[]/\RS n=0:=by
 have hn:RS n=0:=by
  unfold KL at h;by_cases h1:P4 n.name=false
  .rw[if_pos h1]at h;omega
  .rw[if_neg h1]at h;apply Classical.byContradiction;intro h2;rw[if_pos h2]at h;exact h2 h
 refine⟨λe=>?_,hn⟩;unfold RS at hn;rw[e]at hn;split at hn
 .omega
 .split at hn
  .omega
  .simp at hn
theorem Sc {s:Ste} (h:KJ s=0):GU s.msg=0:=by
 unfold KJ at h;split at h
 .omega
 .exact h
theorem XQ {g:Gol} (h:MQ g=0):∀t∈g.data,GU t=0:=by
 unfold MQ at h;split at h
 .omega
 .split at h
  .omega
  .split at h
   .omega
   .split at h
    .omega
    .exact En h
theorem Py {α:Type} {g ln:α->Int}:∀{l:List α},(S5 g ln l).2=0->S5 g ln l=(0,0)/\∀a∈l,g a=0
 | [],_=>⟨rfl,λa h=>by cases h⟩
 |a::l,h=>by
  simp only[S5]at h ⊢;by_cases hz:g a=0
  .rw[if_neg (by simp[hz])]at h ⊢;obtain⟨h1,h2⟩:=Py h;exact⟨h1,λb hb=>by rcases List.mem_cons.1 hb with rfl|hb;exact hz;exact h2 b hb⟩
  .rw[if_pos hz]at h;exact absurd h hz
structure Right (n:Nar):Prop where
 nar:PX n=0
 dec:Hx n=0
 steps:∀s∈n.steps,Gq (B5 n) n.roles s=0
 goals:∀g∈n.goals,Im (B5 n) n.roles g=0
theorem Kg {n:Nar} (h:(l8 n).2=0):l8 n=(0,0)/\Right n:=by
 unfold l8 at h ⊢;by_cases h1:PX n=0
 .rw[if_neg (by simp[h1])]at h ⊢;by_cases h2:Hx n=0
  .rw[if_neg (by simp[h2])]at h ⊢;by_cases h3:S5 (Gq (B5 n) n.roles) Ste.line n.steps=(0,0)
   .rw[if_neg (by simp[h3])]at h ⊢;obtain⟨q1,q2⟩:=Py h;exact⟨q1,h1,h2,(Py (by rw[h3])).2,q2⟩
   .rw[if_pos h3]at h;exact absurd (Py h).1 h3
  .rw[if_pos h2]at h;exact absurd h h2
 .rw[if_pos h1]at h;exact absurd h h1
@[simp] theorem frz_fnpv (h:AH) (am:Bool) (f:FuncId) (cs:G4):KI h am (.fn f [.pv cs])=some (.fn f [.pv cs]):=rfl
@[simp] theorem tame_fn (h:AH) (f:FuncId) (cs:G4):CO h (.fn f cs)=true:=rfl
def nX:Nar:=⟨bs [],(true,false),[],(true,false),[],(true,false),[],(true,false),[],(true,false),[]⟩
theorem Xq:AV.agg [.str (bs []),sl (true,false) 1 [],sl (true,false) 1 [],sl (true,false) 1 [],sl (true,false) 1 [],sl (true,false) 1 []]=G5 nX:=by
 unfold G5 nX;simp[sl]
theorem jY (n:Nar) (F:Fine n) (S:Lens n):∃r,pc Q CX [G5 n]=some (.tup [G5 r,.int .i64 (l8 n).1,.int .i64 (l8 n).2])/\((l8 n).2=0->Ql r=CN (L3 (B5 n) (G8 n)) n):=by
 suffices h:∃v,pc Q CX [G5 n]=some v/\∃r,v=.tup [G5 r,.int .i64 (l8 n).1,.int .i64 (l8 n).2]/\((l8 n).2=0->Ql r=CN (L3 (B5 n) (G8 n)) n) by
  obtain⟨v,h1,r,rfl,h2⟩:=h;exact⟨r,h1,h2⟩
 have hC:=Vv n F S.names;have nb:=E9 n;by_cases hz:(l8 n).2=0
 .obtain⟨hz0,hR⟩:=Kg hz;obtain⟨k1,k2,k3⟩:=JD hR.nar;have hN:=TB n S.names hR.dec;have hA:∃n',pc Q BU [G5 n,gn (sl n.rm 1 (n.roles.map .str)) (B5 n) (G8 n)]=some (G5 n')/\Ql n'=CN (L3 (B5 n) (G8 n)) n:=by
   refine yD n S (XR k1).1 _ _ _ _ (λs hs=>?_) λg hg t ht=>?_
   .exact Xy _ rfl _ _ (NE n) _ _ (A0m _) (F.steps s hs).2.2 (KX (Sc (k2 s hs)))
   .exact Xy _ rfl _ _ (NE n) _ _ (A0m _) (by have:=(F.goals g hg).2.2;have:=Tm.size_le ht;omega) (KX (XQ (k3 g hg) t ht))
  obtain⟨n',hA,hA2⟩:=hA;rw[hz0]at hC ⊢;unfold kE at hN;unfold gn at hA;generalize hU:(B5 n).map AV.str=U at *
  generalize hV:(G8 n).map (AV.int .i64)=V at *
  refine GV Cp λΨ hΨ fr hl h0=>?_;simp[Cp]at hl h0;simp[Cp,hl,h0,E9,hC,hN,hA,CM,show (AV.vm U V).flat=true from rfl];exact hΨ _ ⟨n',rfl,λ_=>hA2⟩
 .refine GV Cp λΨ hΨ fr hl h0=>?_;simp[Cp]at hl h0;simp[Cp,hl,h0,nb,hC,hz,E4,D2];exact hΨ _ ⟨nX,by rw[←Xq,l9 (true,false) rfl 1 1],λh=>absurd h hz⟩
end Go.Abs.Q
namespace Go.Abs.Q
open Go.Proofs
attribute [local simp] E6 E7 fin K1 H4 P2 L5 R0 Q9 E9
theorem bZ (x:J3) (l:List ByteArray):(0<=idx (V9 x) l)↔l.any (V9 x)=true:=Da _ l 0
theorem SJ (x:J3) (l:List ByteArray):(idx (V9 x) l<0)↔l.any (V9 x)=false:=by
 have:=bZ x l;cases h:l.any (V9 x)with
 |true=>rw[h]at this;simp at this;simp;omega
 |false=>rw[h]at this;simp at this;simp;omega
theorem YF (t:Tm) (nm:J3):pc Q N8 [B8 t,.str nm]=some (.bool (decide (t.kind=3)&&decide (t.name=nm))):=by
 refine M9 FJ λfr hl h0 h1=>?_;simp[FJ]at hl h0 h1;simp +contextual (maxSteps:=10000000) [FJ,hl,h0,h1]
theorem HS (m:I6) (l:List ByteArray) (x:J3) (h:l.length<=1048576):pc Q R1 [sl m 1 (l.map AV.str),.str x]=some (.int .i64 (idx (V9 x) l)):=sW m l x (by omega)
theorem YL (n:Nar) (hr:n.roles.length<=1048576) (t:Tm):pc Q Jh [G5 n,B8 t]=some (.bool (Bu n.roles t)):=by
 have hC:=HS n.rm n.roles t.name hr;have hI:=bZ t.name n.roles;refine M9 Jx λfr hl h0 h1=>?_;simp[Jx]at hl h0 h1;unfold Bu;generalize n.roles.any (V9 t.name)=b at *
 by_cases hk:t.kind=2
 .cases b with
  |true =>
   simp[Jx,hl,h0,h1,hC,B6 (hI.2 rfl),B6 hk]
  |false =>
   simp[Jx,hl,h0,h1,hC,A3 (show ¬0<=idx (V9 t.name) n.roles from λh=>nomatch (hI.1 h)),B6 hk]
 .simp[Jx,hl,h0,h1,A3 hk]
theorem Vu (n:Nar) (hr:n.roles.length<=1048576) (t:Tm):pc Q Ib [G5 n,B8 t]=some (.bool (CJ n.roles t)):=by
 have hI:=YF t (bs [115,107]);refine M9 Cm λfr hl h0 h1=>?_;simp[Cm]at hl h0 h1;by_cases hk:t.kind=3
 .by_cases hn:t.name=bs [115,107]
  .by_cases A6:(t.kids.length:Int)=1
   .obtain⟨a,hka⟩:=A0o.1 (show t.kids.length=1 by omega);have hx:Hm (A4 t.kids) 0=some (B8 a):=by rw[hka];rfl
    have hf:TW (Bu n.roles) t.kids=Bu n.roles a:=by rw[hka];rfl
    have hR:=YL n hr a;simp[Cm,hl,h0,h1,CJ,s8,hI,B6 hk,B6 hn,B6 A6,hR,hx,hf]
   .simp[Cm,hl,h0,h1,CJ,s8,hI,B6 hk,B6 hn,A3 A6]
  .simp[Cm,hl,h0,h1,CJ,s8,hI,B6 hk,A3 hn]
 .simp[Cm,hl,h0,h1,CJ,s8,hI,A3 hk]
theorem YK (n:Nar) (hr:n.roles.length<=1048576) (t:Tm):pc Q Jg [G5 n,B8 t]=some (.bool (HU n.roles t)):=by
 have hI:=YF t (bs [112,107]);refine M9 EY λfr hl h0 h1=>?_;simp[EY]at hl h0 h1;by_cases hk:t.kind=3
 .by_cases hn:t.name=bs [112,107]
  .by_cases A6:(t.kids.length:Int)=1
   .obtain⟨a,hka⟩:=A0o.1 (show t.kids.length=1 by omega);have hx:Hm (A4 t.kids) 0=some (B8 a):=by rw[hka];rfl
    have hf:TW (CJ n.roles) t.kids=CJ n.roles a:=by rw[hka];rfl
    have hR:=Vu n hr a;simp[EY,hl,h0,h1,HU,s8,hI,B6 hk,B6 hn,B6 A6,hR,hx,hf]
   .simp[EY,hl,h0,h1,HU,s8,hI,B6 hk,B6 hn,A3 A6]
  .simp[EY,hl,h0,h1,HU,s8,hI,B6 hk,A3 hn]
 .simp[EY,hl,h0,h1,HU,s8,hI,A3 hk]
end Go.Abs.Q
