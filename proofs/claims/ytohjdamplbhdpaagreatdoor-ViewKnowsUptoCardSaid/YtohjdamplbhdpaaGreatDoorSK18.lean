/- A part of the proof. -/
import Derived.Test.YtohjdamplbhdpaaGreatDoorSK17
set_option linter.all false
open List renaming take_succ_eq_append_getElem->A0A,drop_eq_getElem_cons->A0B,drop_eq_nil_of_le->A0C,getElem?_eq_getElem->A0D,append_assoc->A0E,take_of_length_le->A0F,map_cons->A0G,map_append->A0H,replicate->A0I,map_nil->A0J,append_nil->A0K,set_cons_zero->A0L,set_cons_succ->A0M,getElem_mem->A0O,nil_append->A0P,take_zero->A0Q,replicate_succ->A0R
open Function renaming comp_def->A0N
open Nat renaming le_refl->A0S
namespace Go.Abs.Q
open Go.Proofs
attribute [local simp] D9 E4 fin I8 G6 P7 M4 R4 R3
theorem Yj {α β:Type} (f:α->β) {l:List α} {i:Nat} (h:i<l.length):(l.map f).take (i+1)=(l.map f).take i++[f l[i]]:=by
 rw[A0A (by simpa using h)];simp
theorem gz (m m0:J3) (rs seen:List ByteArray) (hrs:rs.length<=1048576) (l:List Fre) (B8:seen.length+l.length<=1048576) (a0 a2 a3 a4 a5:AV) (fr:Fr) (h:AH) (hh:∃v B,h.boxes=[a0,sl m0 1 (rs.map .str),a2,a3,a4,a5]::[v]::B/\GT 1 (seen.map .str) v h) (hl:fr.length=64) (h1:A0 fr 1=.ptr 0 0) (h4:A0 fr 4=.fn K3 [.ptr 1 0]) (h30:A0 fr 30=sl m 3 (l.map KD)) (h31:A0 fr 31=.int .i64 l.length) (h32:A0 fr 32=.int .i64 0) :
  B9 (lp (A3 (L5 Q) (E5 S7) T9) (fr,h)) λe C6 h'=>Kp T9.wr fr C6/\(e=.exit 2/\X6 rs seen (l.map λf=>(f.name,some f.role))=0/\(∃v B,h'.boxes=[a0,sl m0 1 (rs.map .str),a2,a3,a4,a5]::[v]::B/\GT 1 ((seen++l.map Fre.name).map .str) v h')\/e=.ret/\A0 C6 2=.int .i64 (X6 rs seen (l.map λf=>(f.name,some f.role)))/\X6 rs seen (l.map λf=>(f.name,some f.role))≠0):=by
 refine B5 rfl fr (λn fr h'=>∃(i:Nat),i+n=l.length/\A0 fr 32=.int .i64 (i:Nat)/\(∃v B,h'.boxes=[a0,sl m0 1 (rs.map .str),a2,a3,a4,a5]::[v]::B/\GT 1 ((seen++(l.map Fre.name).take i).map .str) v h')/\X6 rs (seen++(l.map Fre.name).take i) ((l.drop i).map λf=>(f.name,some f.role))=X6 rs seen (l.map λf=>(f.name,some f.role))) ?_ l.length h ⟨0,by omega,h32,by simpa using hh,by simp⟩;rintro J Φ hJ hΦ n E1 H1 K ⟨i,hi,k32,hr⟩;have A6:=K.1.trans hl;have k1:=A9 K 1 h1;have k4:=A9 K 4 h4;have k30:=A9 K 30 h30;have k31:=A9 K 31 h31;clear K;by_cases A7:i<l.length
 .have Q6:=D1 i (by omega);obtain⟨⟨v,B,hB,hg⟩,hr⟩:=hr;have hx:=G0 (f:=KD) (A0D A7);have hC:=Fp m0 rs l[i].role hrs;obtain⟨bx,fams⟩:=H1;simp only at hB;subst hB;obtain⟨w,h',hN,hw2,hz⟩:=Ya ⟨[a0,sl m0 1 (rs.map .str),a2,a3,a4,a5]::[v]::(B++[(KD l[i]).cells]),fams⟩ _ v rfl (GU hg rfl) (by simp;omega) l[i].name true;subst hw2;rw[A0B A7,A0G]at hr;rw[SN]at hr;by_cases UT:LJ (seen++(l.map Fre.name).take i) l[i].name true=0
  .obtain⟨v',hb',f7⟩:=hz UT;rw[if_neg (by simp[UT])]at hr;simp only[A0M,A0L]at hb';simp only[RS]at hN hb';cases hq:rs.any (U3 l[i].role)with
   |true =>
    rw[hq]at hC hr;rw[if_neg (by simp)]at hr;simp[T9,A6,k1,k4,k30,k31,k32,A7,Q6,hx,hN,UT,hb',hC];exact G8 hJ ⟨i+1,by omega,by simp[A6],⟨v',_,hb',by rw[Yj _ A7,←A0E];exact GU f7 rfl⟩,by rw[Yj _ A7,←A0E];exact hr⟩
   |false =>
    rw[hq]at hC hr;rw[if_pos rfl]at hr;simp[T9,A6,k1,k4,k30,k31,k32,A7,hx,hN,UT,hb',hC];exact hΦ _ _ _ (.inr ⟨rfl,by rw[←hr];simp[A6],by rw[←hr];omega⟩)
  .rw[if_pos UT]at hr;simp only[RS]at hN;simp[T9,A6,k4,k30,k31,k32,A7,hx,hN,UT];exact hΦ _ _ _ (.inr ⟨rfl,by simp[A6,hr],by rw[←hr];exact UT⟩)
 .obtain⟨hh',hr⟩:=hr;rw[A0C (by omega)]at hr;rw[A0F (by simp;omega)]at hr hh';simp only[A0J,X6]at hr;simp[T9,A6,k31,k32,A7];exact hΦ _ _ _ (.inl ⟨rfl,hr.symm,hh'⟩)
theorem aa (n:Nar) (hS:n.roles.length+n.fresh.length+n.tags.length<=1048576):pc Q S7 [F0 n]=some (.int .i64 (GY n)):=by
 have hE:GY n=if X6 n.roles [] (n.roles.map λa=>(a,none))≠0 then X6 n.roles [] (n.roles.map λa=>(a,none))
   else if X6 n.roles n.roles (n.fresh.map λf=>(f.name,some f.role))≠0 then X6 n.roles n.roles (n.fresh.map λf=>(f.name,some f.role))
   else X6 n.roles (n.roles++n.fresh.map Fre.name) (n.tags.map λa=>(a,none)):=by
  unfold GY UN;rw[Ol,Ol];have e1:(n.roles.map λa=>((a,none):ByteArray×Option ByteArray)).map (·.1)=n.roles:=by simp[A0N]
  have e2:(n.fresh.map λf=>((f.name,some f.role):ByteArray×Option ByteArray)).map (·.1)=n.fresh.map Fre.name:=by simp[A0N]
  rw[A0H,e1,e2,A0P];split<;>simp_all
 generalize GY n=z at *
 obtain⟨name,rm,roles,fm,fresh,tm,tags,sm,steps,gm,goals⟩:=n;simp only at hE hS;refine M2 JL λfr hl h0=>?_;simp[JL,F0]at hl h0;simp[JL,hl,h0];refine B9.mono (iA rm roles [] roles (by simp;omega) [.str name,sl rm 1 (roles.map .str),sl fm 3 (fresh.map KD),sl tm 1 (tags.map .str),sl sm 7 (steps.map DY),sl gm 5 (goals.map Da)] _ _ ?_ ?_ ?_ ?_ ?_ ?_) ?_<;>first|(simp[hl];done)|skip
 .exact⟨_,_,rfl,Gu _ _⟩
 rintro e E1 h1 ⟨K,⟨rfl,hz,hh⟩|⟨rfl,k2,hz⟩⟩
 .have J5:E1.length=64:=K.1.trans (by simp[hl]);have Ey:A0 E1 1=.ptr 0 0:=A9 K 1 (by simp[hl]);have LC:A0 E1 4=.fn K3 [.ptr 1 0]:=A9 K 4 (by simp[hl]);clear K;rw[if_neg (by simp[hz])]at hE;rw[A0P]at hh;have hh0:=hh;obtain⟨v,B,hB,hg⟩:=hh;simp[J5,Ey,hB];refine B9.mono (gz fm rm roles roles (by omega) fresh (by omega) _ _ _ _ _ _ h1 hh0 ?_ ?_ ?_ ?_ ?_ ?_) ?_<;>first|(simp[J5,Ey,LC];done)|skip
  rintro e V8 h2 ⟨K,⟨rfl,hz,hh⟩|⟨rfl,k2,hz⟩⟩
  .have R5:V8.length=64:=K.1.trans (by simp[J5]);have k1fr2:A0 V8 1=.ptr 0 0:=A9 K 1 (by simp[Ey]);have k4fr2:A0 V8 4=.fn K3 [.ptr 1 0]:=A9 K 4 (by simp[LC]);clear K;rw[if_neg (by simp[hz])]at hE;have hh0:=hh;obtain⟨v,B,hB,hg⟩:=hh;simp[R5,k1fr2,hB];refine B9.mono (gy tm roles (roles++fresh.map Fre.name) tags (by simp;omega) _ _ h2 hh0 ?_ ?_ ?_ ?_ ?_) ?_<;>first|(simp[R5,k4fr2];done)|skip
   rintro e fr3 h3 ⟨K,⟨rfl,hz,hh⟩|⟨rfl,k2,hz⟩⟩
   .have hlfr3:fr3.length=64:=K.1.trans (by simp[R5]);clear K;rw[hz]at hE;simp[hlfr3,hE]
   .simp[k2,hE]
  .rw[if_pos hz]at hE;simp[k2,hE]
 .rw[if_pos hz]at hE;simp[k2,hE]
end Go.Abs.Q
namespace Go.Abs.Q
open Go.Proofs
attribute [local simp] D9 E4 fin I8 G6
theorem nu (h:AH) (b:Nat) (ks vs:G1) (hb:h.boxes[b]?=some [.mbox ks vs]):Dy h true (.mp b)=some (.vm ks vs):=by simp[Dy,hb]
@[simp] theorem tJ (ks vs:G1):EA [.mbox ks vs]=true:=rfl
theorem Om {rs seen:List ByteArray} {a:I3} {r:List (ByteArray×Option ByteArray)} (h:X6 rs seen ((a,none)::r)=0):seen.any (U3 a)=false/\X6 rs (seen++[a]) r=0:=by
 rw[NC]at h;by_cases hz:LJ seen a false=0
 .rw[if_neg (by simp[hz])]at h;refine⟨?_,h⟩;unfold LJ at hz;cases hs:seen.any (U3 a)with
  |false=>rfl
  |true =>
   rw[hs]at hz;split at hz<;>simp at hz
 .rw[if_pos hz]at h;exact absurd h hz
theorem UJ {rs seen:List ByteArray} {a x:I3} {r:List (ByteArray×Option ByteArray)} (h:X6 rs seen ((a,some x)::r)=0):seen.any (U3 a)=false/\rs.any (U3 x)=true/\X6 rs (seen++[a]) r=0:=by
 rw[SN]at h;by_cases hz:LJ seen a true=0
 .rw[if_neg (by simp[hz])]at h;have h2:seen.any (U3 a)=false:=by
   unfold LJ at hz;cases hs:seen.any (U3 a)with
   |false=>rfl
   |true =>
    rw[hs]at hz;split at hz
    .simp at hz
    .split at hz<;>simp at hz
  cases hx:rs.any (U3 x)with
  |false=>rw[hx,if_pos rfl]at h;omega
  |true=>rw[hx,if_neg (by simp)]at h;exact⟨h2,rfl,h⟩
 .rw[if_pos hz]at h;exact absurd h hz
theorem lK (m:J3) (rs seen:List ByteArray) (so:List Int) (l:List ByteArray) (B8:l.length<=1048576) (hd:X6 rs seen (l.map λa=>(a,none))=0) (A C:G1) (t0:AV) (B:List (List AV)) (fr:Fr) (h:AH) (hh:h.boxes=A::C::[.mbox (seen.map .str) (so.map (.int .i64))]::[t0,.mp 2]::B) (hl:fr.length=51) (h3:A0 fr 3=.ptr 3 0) (h15:A0 fr 15=sl m 1 (l.map .str)) (h16:A0 fr 16=.int .i64 l.length) (h17:A0 fr 17=.int .i64 0) :
  B9 (lp (A3 (L5 Q) (E5 Ak) EL) (fr,h)) λe C6 h'=>Kp EL.wr fr C6/\e=.exit 0/\h'.boxes=A::C::[.mbox ((seen++l).map .str) ((so++l.map λ_=>(1:Int)).map (.int .i64))]::[t0,.mp 2]::B:=by
 refine B5 rfl fr (λn fr h'=>∃(i:Nat),i+n=l.length/\A0 fr 17=.int .i64 (i:Nat)/\h'.boxes=A::C::[.mbox ((seen++l.take i).map .str) ((so++(l.take i).map λ_=>(1:Int)).map (.int .i64))]::[t0,.mp 2]::B/\X6 rs (seen++l.take i) ((l.drop i).map λa=>(a,none))=0) ?_ l.length h ⟨0,by omega,h17,by rw[hh,A0Q,A0J,A0K,A0K],by simpa using hd⟩;rintro J Φ hJ hΦ n E1 H1 K ⟨i,hi,k17,hr⟩;have A6:=K.1.trans hl;have k3:=A9 K 3 h3;have k15:=A9 K 15 h15;have k16:=A9 K 16 h16;clear K;by_cases A7:i<l.length
 .have Q6:=D1 i (by omega);obtain⟨hB,hr⟩:=hr;obtain⟨bx,fams⟩:=H1;simp only at hB;subst hB;have hx:=G0 (f:=AV.str) (A0D A7);rw[A0B A7,A0G]at hr;obtain⟨q1,q2⟩:=Om hr;have hM:=YG ⟨A::C::[.mbox ((seen++l.take i).map .str) ((so++(l.take i).map λ_=>(1:Int)).map (.int .i64))]::[t0,.mp 2]::B,fams⟩ 2 _ _ l[i] 1 rfl q1;have e1:(seen++l.take i++[l[i]])=seen++l.take (i+1):=by rw[A0A A7,A0E]
  have e2:(so++(l.take i).map λ_=>(1:Int)).map (AV.int .i64)++[.int .i64 1]=(so++(l.take (i+1)).map λ_=>(1:Int)).map (AV.int .i64):=by
   rw[A0A A7];simp only[A0H,A0G,A0J,A0E]
  rw[e1,e2]at hM;rw[e1]at q2;simp only[A0M,A0L]at hM;generalize (seen++l.take i).map AV.str=U at *
  generalize (so++(l.take i).map λ_=>(1:Int)).map (AV.int .i64)=V at *
  generalize hU:(seen++l.take (i+1)).map AV.str=U' at *
  generalize hV:(so++(l.take (i+1)).map λ_=>(1:Int)).map (AV.int .i64)=V' at *
  simp[EL,A6,k3,k15,k16,k17,A7,Q6,hx,hM];exact G8 hJ ⟨i+1,by omega,by simp[A6],by rw[hU,hV],q2⟩
 .obtain⟨hB,hr⟩:=hr;rw[A0C (by omega)]at hr;rw[A0F (by omega)]at hB;simp[EL,A6,k16,k17,A7];exact hΦ _ _ _ ⟨rfl,hB⟩
theorem lI (m:J3) (rs seen:List ByteArray) (so:List Int) (l:List ByteArray) (B8:l.length<=1048576) (hd:X6 rs seen (l.map λa=>(a,none))=0) (A C:G1) (t0:AV) (B:List (List AV)) (fr:Fr) (h:AH) (hh:h.boxes=A::C::[.mbox (seen.map .str) (so.map (.int .i64))]::[t0,.mp 2]::B) (hl:fr.length=51) (h3:A0 fr 3=.ptr 3 0) (h40:A0 fr 40=sl m 1 (l.map .str)) (h41:A0 fr 41=.int .i64 l.length) (h42:A0 fr 42=.int .i64 0) :
  B9 (lp (A3 (L5 Q) (E5 Ak) EJ) (fr,h)) λe C6 h'=>Kp EJ.wr fr C6/\e=.exit 4/\h'.boxes=A::C::[.mbox ((seen++l).map .str) ((so++l.map λ_=>(5:Int)).map (.int .i64))]::[t0,.mp 2]::B:=by
 refine B5 rfl fr (λn fr h'=>∃(i:Nat),i+n=l.length/\A0 fr 42=.int .i64 (i:Nat)/\h'.boxes=A::C::[.mbox ((seen++l.take i).map .str) ((so++(l.take i).map λ_=>(5:Int)).map (.int .i64))]::[t0,.mp 2]::B/\X6 rs (seen++l.take i) ((l.drop i).map λa=>(a,none))=0) ?_ l.length h ⟨0,by omega,h42,by rw[hh,A0Q,A0J,A0K,A0K],by simpa using hd⟩;rintro J Φ hJ hΦ n E1 H1 K ⟨i,hi,k42,hr⟩;have A6:=K.1.trans hl;have k3:=A9 K 3 h3;have k40:=A9 K 40 h40;have k41:=A9 K 41 h41;clear K;by_cases A7:i<l.length
 .have Q6:=D1 i (by omega);obtain⟨hB,hr⟩:=hr;obtain⟨bx,fams⟩:=H1;simp only at hB;subst hB;have hx:=G0 (f:=AV.str) (A0D A7);rw[A0B A7,A0G]at hr;obtain⟨q1,q2⟩:=Om hr;have hM:=YG ⟨A::C::[.mbox ((seen++l.take i).map .str) ((so++(l.take i).map λ_=>(5:Int)).map (.int .i64))]::[t0,.mp 2]::B,fams⟩ 2 _ _ l[i] 5 rfl q1;have e1:(seen++l.take i++[l[i]])=seen++l.take (i+1):=by rw[A0A A7,A0E]
  have e2:(so++(l.take i).map λ_=>(5:Int)).map (AV.int .i64)++[.int .i64 5]=(so++(l.take (i+1)).map λ_=>(5:Int)).map (AV.int .i64):=by
   rw[A0A A7];simp only[A0H,A0G,A0J,A0E]
  rw[e1,e2]at hM;rw[e1]at q2;simp only[A0M,A0L]at hM;generalize (seen++l.take i).map AV.str=U at *
  generalize (so++(l.take i).map λ_=>(5:Int)).map (AV.int .i64)=V at *
  generalize hU:(seen++l.take (i+1)).map AV.str=U' at *
  generalize hV:(so++(l.take (i+1)).map λ_=>(5:Int)).map (AV.int .i64)=V' at *
  simp[EJ,A6,k3,k40,k41,k42,A7,Q6,hx,hM];exact G8 hJ ⟨i+1,by omega,by simp[A6],by rw[hU,hV],q2⟩
 .obtain⟨hB,hr⟩:=hr;rw[A0C (by omega)]at hr;rw[A0F (by omega)]at hB;simp[EJ,A6,k41,k42,A7];exact hΦ _ _ _ ⟨rfl,hB⟩
theorem lJ (m:J3) (rs seen:List ByteArray) (so:List Int) (l:List Fre) (B8:l.length<=1048576) (hd:X6 rs seen (l.map λf=>(f.name,some f.role))=0) (A C:G1) (t0:AV) (fr:Fr) (h:AH) (hh:h.boxes=A::C::[.mbox (seen.map .str) (so.map (.int .i64))]::[t0,.mp 2]::[]) (hl:fr.length=51) (h3:A0 fr 3=.ptr 3 0) (h26:A0 fr 26=sl m 3 (l.map KD)) (h27:A0 fr 27=.int .i64 l.length) (h28:A0 fr 28=.int .i64 0) :
  B9 (lp (A3 (L5 Q) (E5 Ak) EK) (fr,h)) λe C6 h'=>Kp EK.wr fr C6/\e=.exit 2/\∃B,h'.boxes=A::C::[.mbox ((seen++l.map Fre.name).map .str) ((so++l.map Fre.sort).map (.int .i64))]::[t0,.mp 2]::B:=by
 refine B5 rfl fr (λn fr h'=>∃(i:Nat),i+n=l.length/\A0 fr 28=.int .i64 (i:Nat)/\(∃B,h'.boxes=A::C::[.mbox ((seen++(l.map Fre.name).take i).map .str) ((so++(l.map Fre.sort).take i).map (.int .i64))]::[t0,.mp 2]::B)/\X6 rs (seen++(l.map Fre.name).take i) ((l.drop i).map λf=>(f.name,some f.role))=0) ?_ l.length h ⟨0,by omega,h28,⟨[],by rw[hh,A0Q,A0Q,A0K,A0K]⟩,by simpa using hd⟩;rintro J Φ hJ hΦ n E1 H1 K ⟨i,hi,k28,hr⟩;have A6:=K.1.trans hl;have k3:=A9 K 3 h3;have k26:=A9 K 26 h26;have k27:=A9 K 27 h27;clear K;by_cases A7:i<l.length
 .have Q6:=D1 i (by omega);obtain⟨⟨B,hB⟩,hr⟩:=hr;obtain⟨bx,fams⟩:=H1;simp only at hB;subst hB;have hx:=G0 (f:=KD) (A0D A7);rw[A0B A7,A0G]at hr;obtain⟨q1,-,q2⟩:=UJ hr;have hM:=YG ⟨A::C::[.mbox ((seen++(l.map Fre.name).take i).map .str) ((so++(l.map Fre.sort).take i).map (.int .i64))]::[t0,.mp 2]::(B++[(KD l[i]).cells]),fams⟩ 2 _ _ l[i].name l[i].sort rfl q1;have e1:(seen++(l.map Fre.name).take i++[l[i].name])=seen++(l.map Fre.name).take (i+1):=by rw[Yj _ A7,A0E]
  have e2:(so++(l.map Fre.sort).take i).map (AV.int .i64)++[.int .i64 l[i].sort]=(so++(l.map Fre.sort).take (i+1)).map (AV.int .i64):=by
   rw[Yj _ A7];simp only[A0H,A0G,A0J,A0E]
  rw[e1,e2]at hM;rw[e1]at q2;simp only[A0M,A0L,RS]at hM;generalize (seen++(l.map Fre.name).take i).map AV.str=U at *
  generalize (so++(l.map Fre.sort).take i).map (AV.int .i64)=V at *
  generalize hU:(seen++(l.map Fre.name).take (i+1)).map AV.str=U' at *
  generalize hV:(so++(l.map Fre.sort).take (i+1)).map (AV.int .i64)=V' at *
  simp[EK,A6,k3,k26,k27,k28,A7,Q6,hx,hM];exact G8 hJ ⟨i+1,by omega,by simp[A6],⟨_,by rw[hU,hV]⟩,q2⟩
 .obtain⟨⟨B,hB⟩,hr⟩:=hr;rw[A0C (by omega)]at hr;rw[A0F (by simp;omega),A0F (by simp;omega)]at hB;simp[EK,A6,k27,k28,A7];exact hΦ _ _ _ ⟨rfl,B,hB⟩
theorem gY {n:Nar} (hd:GY n=0):X6 n.roles [] (n.roles.map λa=>(a,none))=0/\X6 n.roles n.roles (n.fresh.map λf=>(f.name,some f.role))=0/\X6 n.roles (n.roles++n.fresh.map Fre.name) (n.tags.map λa=>(a,none))=0:=by
 have e1:(n.roles.map λa=>((a,none):ByteArray×Option ByteArray)).map (·.1)=n.roles:=by simp[A0N]
 have e2:(n.fresh.map λf=>((f.name,some f.role):ByteArray×Option ByteArray)).map (·.1)=n.fresh.map Fre.name:=by simp[A0N]
 unfold GY UN at hd;rw[Ol,Ol,A0H,e1,e2,A0P,A0P]at hd;by_cases d1:X6 n.roles [] (n.roles.map λa=>(a,none))=0
 .rw[if_neg (c:=X6 n.roles [] (n.roles.map λa=>(a,none))≠0) (by simp[d1])]at hd;by_cases d2:X6 n.roles n.roles (n.fresh.map λf=>(f.name,some f.role))=0
  .rw[if_neg (by simp[d2])]at hd;exact⟨d1,d2,hd⟩
  .rw[if_pos d2]at hd;exact absurd hd d2
 .simp[d1]at hd
theorem QO (n:Nar) (hS:n.roles.length+n.fresh.length+n.tags.length<=1048576) (hd:GY n=0):pc Q Ak [F0 n]=some (eH n.rm n):=by
 obtain⟨d1,d2,hd⟩:=gY hd;unfold eH B4 G3;obtain⟨name,rm,roles,fm,fresh,tm,tags,sm,steps,gm,goals⟩:=n;simp only at hd d1 d2 hS ⊢;generalize hU:(roles++fresh.map Fre.name++tags).map AV.str=U;generalize hV:((roles.map λ_=>(1:Int))++fresh.map Fre.sort++tags.map λ_=>(5:Int)).map (AV.int .i64)=V;refine M2 Ms λfr hl h0=>?_;simp[Ms,F0]at hl h0;simp[Ms,hl,h0,D2,E7];refine B9.mono (lK rm roles [] [] roles (by omega) d1 [.str name,sl rm 1 (roles.map .str),sl fm 3 (fresh.map KD),sl tm 1 (tags.map .str),sl sm 7 (steps.map DY),sl gm 5 (goals.map Da)] [.vs true 0 [],.nilm] (sl rm 1 (roles.map .str)) [] _ _ ?_ ?_ ?_ ?_ ?_ ?_) ?_<;>first|(simp[hl];done)|skip
 rintro e E1 ⟨bx,fams⟩ ⟨K,rfl,hB⟩;simp only at hB;subst hB;have J5:E1.length=51:=K.1.trans (by simp[hl]);have Ey:A0 E1 1=.ptr 0 0:=A9 K 1 (by simp[hl]);have GG:A0 E1 2=.ptr 1 0:=A9 K 2 (by simp[hl]);have ON:A0 E1 3=.ptr 3 0:=A9 K 3 (by simp[hl]);clear K;simp[J5,Ey];refine B9.mono (lJ fm roles roles (roles.map λ_=>1) fresh (by omega) d2 [.str name,sl rm 1 (roles.map .str),sl fm 3 (fresh.map KD),sl tm 1 (tags.map .str),sl sm 7 (steps.map DY),sl gm 5 (goals.map Da)] [.vs true 0 [],.nilm] (sl rm 1 (roles.map .str)) _ _ ?_ ?_ ?_ ?_ ?_ ?_) ?_<;>first|(simp[J5,ON];done)|skip
 rintro e V8 ⟨bx,fams⟩ ⟨K,rfl,B,hB⟩;simp only at hB;subst hB;have R5:V8.length=51:=K.1.trans (by simp[J5]);have k1fr2:A0 V8 1=.ptr 0 0:=A9 K 1 (by simp[Ey]);have k2fr2:A0 V8 2=.ptr 1 0:=A9 K 2 (by simp[GG]);have k3fr2:A0 V8 3=.ptr 3 0:=A9 K 3 (by simp[ON]);clear K;simp[R5,k1fr2];refine B9.mono (lI tm roles (roles++fresh.map Fre.name) ((roles.map λ_=>1)++fresh.map Fre.sort) tags (by omega) hd [.str name,sl rm 1 (roles.map .str),sl fm 3 (fresh.map KD),sl tm 1 (tags.map .str),sl sm 7 (steps.map DY),sl gm 5 (goals.map Da)] [.vs true 0 [],.nilm] (sl rm 1 (roles.map .str)) B _ _ ?_ ?_ ?_ ?_ ?_ ?_) ?_<;>first|(simp[R5,k3fr2];done)|skip
 rintro e fr3 ⟨bx,fams⟩ ⟨K,rfl,hB⟩;simp only at hB;rw[hU,hV]at hB;subst hB;have hlfr3:fr3.length=51:=K.1.trans (by simp[R5]);have k1fr3:A0 fr3 1=.ptr 0 0:=A9 K 1 (by simp[k1fr2]);have k2fr3:A0 fr3 2=.ptr 1 0:=A9 K 2 (by simp[k2fr2]);have k3fr3:A0 fr3 3=.ptr 3 0:=A9 K 3 (by simp[k3fr2]);clear K;have hF:∀(A C T:List AV) (B:List (List AV)) (f:List Fam),Dy ⟨A::C::[.mbox U V]::T::B,f⟩ true (.mp 2)=some (.vm U V):=λ_ _ _ _ _=>nu _ 2 U V rfl;simp[hlfr3,k2fr3,k3fr3,hF]
theorem dJ (m:J3) (rs ns:List ByteArray) (vs:List Int) (m':J3) (l:I6) (B8:l.length<=1099511627776) (IH:∀t∈l,pc Q I4 [.agg [sl m 1 (rs.map .str),.vm (ns.map .str) (vs.map (.int .i64))],B7 t]=some (.int .i64 (o6 ns rs t))) (b1:G1) (fr:Fr) (h:AH) (hh:h.boxes=[[sl m 1 (rs.map .str),.vm (ns.map .str) (vs.map (.int .i64))],b1]) (hl:fr.length=46) (h2:A0 fr 2=.ptr 0 0) (h33:A0 fr 33=sl m' 4 (A4 l)) (h34:A0 fr 34=.int .i64 l.length) (h35:A0 fr 35=.int .i64 0) :
  B9 (lp (A3 (L5 Q) (E5 R6) R9) (fr,h)) λe C6 h'=>Kp R9.wr fr C6/\(e=.exit 0/\C9 (o6 ns rs) l=0\/e=.ret/\A0 C6 4=.int .i64 (C9 (o6 ns rs) l)):=by
 refine B5 rfl fr (λn fr h'=>∃(i:Nat),i+n=l.length/\A0 fr 35=.int .i64 (i:Nat)/\(∃B,h'.boxes=[sl m 1 (rs.map .str),.vm (ns.map .str) (vs.map (.int .i64))]::B)/\C9 (o6 ns rs) (l.drop i)=C9 (o6 ns rs) l) ?_ l.length h ⟨0,by omega,h35,⟨_,hh⟩,rfl⟩;rintro J Φ hJ hΦ n E1 H1 K ⟨i,hi,k35,hr⟩;have A6:=K.1.trans hl;have k2:=A9 K 2 h2;have k33:=A9 K 33 h33;have k34:=A9 K 34 h34;clear K;by_cases A7:i<l.length
 .have Q6:=D1 i (by omega);obtain⟨⟨B,hB⟩,hr⟩:=hr;obtain⟨bx,fams⟩:=H1;simp only at hB;subst hB;have hx:=N6 A7;have hI:=IH l[i] (A0O A7);rw[A0B A7]at hr;simp only[C9]at hr;generalize l[i]=t at *
  generalize o6 ns rs t=v at *
  by_cases hz:v=0
  .rw[if_neg (by simp[hz])]at hr;simp[R9,A6,k2,k33,k34,k35,A7,Q6,hx,hI,hz];exact G8 hJ ⟨i+1,by omega,by simp[A6],⟨_,rfl⟩,hr⟩
  .rw[if_pos hz]at hr;simp[R9,A6,k2,k33,k34,k35,A7,hx,hI,hz];exact hΦ _ _ _ (.inr ⟨rfl,by simp[A6,hr]⟩)
 .obtain⟨_,hr⟩:=hr;rw[A0C (by omega)]at hr;simp[R9,A6,k34,k35,A7];exact hΦ _ _ _ (.inl ⟨rfl,hr.symm⟩)
theorem mC (m:J3) (rs ns:List ByteArray) (vs:List Int) (hr:rs.length<=1048576) (hkv:ns.length=vs.length) (g:Gol) (hg:Tm.sizes g.data<=1099511627776) :
  pc Q R6 [.agg [sl m 1 (rs.map .str),.vm (ns.map .str) (vs.map (.int .i64))],Da g]=some (.int .i64 (HN ns rs g)):=by
 have B8:=Tm.length_le g.data;have KB:=dJ m rs ns vs g.dm g.data (by omega) (λt ht=>fY m rs ns vs hr hkv _ t (A0S _) (by have:=Tm.size_le ht;omega));have hC:=Fp m rs g.role hr;have hT:=mF m rs (ns.map .str) (vs.map (.int .i64)) hr g.role g.wth;have hE:HN ns rs g=if rs.any (U3 g.role)=false then 13 else if Ln g=true/\LQ rs g.role g.wth≠0 then LQ rs g.role g.wth else C9 (o6 ns rs) g.data:=rfl
 have hA:Ln g=(decide (g.kind=2)||decide (g.kind=3)):=rfl;generalize HN ns rs g=z at *
 generalize rs.any (U3 g.role)=b at *
 generalize LQ rs g.role g.wth=w at *
 generalize Ln g=ab at *
 refine O2 R8 λfr hl h0 h1=>?_;simp[R8]at hl h0 h1;have key:∀(E1:Fr) (h:AH),z=C9 (o6 ns rs) g.data->E1.length=46->A0 E1 2=.ptr 0 0->A0 E1 33=sl g.dm 4 (A4 g.data)->A0 E1 34=.int .i64 g.data.length->A0 E1 35=.int .i64 0->(∃b1,h.boxes=[[sl m 1 (rs.map .str),.vm (ns.map .str) (vs.map (.int .i64))],b1]) ->
   B9 (lp (A3 (L5 Q) (E5 R6) R9) (E1,h)) (BL 0 (SQ (L5 Q) (E5 R6) (.seq (.region false [⟨some 4,.mov (.c (.int .i64 0)),none⟩]) .ret) (eN [.tmp 4] (.int .i64 z)))):=by
  rintro E1 h rfl hl q2 q33 q34 q35 ⟨b1,hb⟩;refine B9.mono (KB b1 E1 h hb hl q2 q33 q34 q35) ?_;rintro e V8 h2 ⟨K,⟨rfl,hz⟩|⟨rfl,k4⟩⟩
  .have GI:=K.1.trans hl;simp[GI,hz]
  .simp[k4]
 cases b with
 |false =>
  rw[if_pos rfl]at hE;simp[R8,hl,h0,h1,hC,hE]
 |true =>
  rw[if_neg (by simp)]at hE;have fin:ab=false\/w=0->z=C9 (o6 ns rs) g.data:=by
   intro h;rw[if_neg (by rintro⟨a,b⟩;rcases h with h|h;simp[h]at a;exact b h)]at hE
   exact hE
  by_cases k2:g.kind=2
  .have ea:ab=true:=by simp[hA,k2]
   by_cases hw:w=0
   .simp[R8,hl,h0,h1,hC,B6 k2,hT,hw];exact key _ _ (fin (.inr hw)) (by simp[hl]) (by simp[hl]) (by simp[hl]) (by simp[hl]) (by simp[hl]) ⟨_,rfl⟩
   .rw[if_pos ⟨ea,hw⟩]at hE;simp[R8,hl,h0,h1,hC,B6 k2,hT,hw,hE]
  .by_cases k3:g.kind=3
   .have ea:ab=true:=by simp[hA,k3]
    by_cases hw:w=0
    .simp[R8,hl,h0,h1,hC,A2 k2,B6 k3,hT,hw];exact key _ _ (fin (.inr hw)) (by simp[hl]) (by simp[hl]) (by simp[hl]) (by simp[hl]) (by simp[hl]) ⟨_,rfl⟩
    .rw[if_pos ⟨ea,hw⟩]at hE;simp[R8,hl,h0,h1,hC,A2 k2,B6 k3,hT,hw,hE]
   .have ea:ab=false:=by simp[hA,k2,k3]
    simp[R8,hl,h0,h1,hC,A2 k2,A2 k3];exact key _ _ (fin (.inl ea)) (by simp[hl]) (by simp[hl]) (by simp[hl]) (by simp[hl]) (by simp[hl]) ⟨_,rfl⟩
theorem Zq (m:J3) (rs ns:List ByteArray) (vs:List Int) (hr:rs.length<=1048576) (m':J3) (l:List Ste) (B8:l.length<=1099511627776) (IH:∀s∈l,pc Q I4 [.agg [sl m 1 (rs.map .str),.vm (ns.map .str) (vs.map (.int .i64))],B7 s.msg]=some (.int .i64 (o6 ns rs s.msg))) (A:G1) (fr:Fr) (h:AH) (hh:h.boxes=[A,[sl m 1 (rs.map .str),.vm (ns.map .str) (vs.map (.int .i64))]]) (hl:fr.length=66) (h6:A0 fr 6=.ptr 1 0) (h26:A0 fr 26=sl m' 7 (l.map DY)) (h27:A0 fr 27=.int .i64 l.length) (h28:A0 fr 28=.int .i64 0) :
  B9 (lp (A3 (L5 Q) (E5 ES) AT) (fr,h)) λe C6 h'=>Kp AT.wr fr C6/\(e=.exit 0/\Q7 (FN ns rs) Ste.line l=(0,0)/\(∃B,h'.boxes=A::[sl m 1 (rs.map .str),.vm (ns.map .str) (vs.map (.int .i64))]::B)\/e=.ret/\A0 C6 2=.int .i64 (Q7 (FN ns rs) Ste.line l).1/\A0 C6 3=.int .i64 (Q7 (FN ns rs) Ste.line l).2/\Q7 (FN ns rs) Ste.line l≠(0,0)):=by
 refine B5 rfl fr (λn fr h'=>∃(i:Nat),i+n=l.length/\A0 fr 28=.int .i64 (i:Nat)/\(∃B,h'.boxes=A::[sl m 1 (rs.map .str),.vm (ns.map .str) (vs.map (.int .i64))]::B)/\Q7 (FN ns rs) Ste.line (l.drop i)=Q7 (FN ns rs) Ste.line l) ?_ l.length h ⟨0,by omega,h28,⟨_,hh⟩,rfl⟩;rintro J Φ hJ hΦ n E1 H1 K ⟨i,hi,k28,hr⟩;have A6:=K.1.trans hl;have k6:=A9 K 6 h6;have k26:=A9 K 26 h26;have k27:=A9 K 27 h27;clear K;by_cases A7:i<l.length
 .have Q6:=D1 i (by omega);obtain⟨⟨B,hB⟩,hr⟩:=hr;obtain⟨bx,fams⟩:=H1;simp only at hB;subst hB;have hx:=G0 (f:=DY) (A0D A7);have hI:=IH l[i] (A0O A7);have hT:=mF m rs (ns.map .str) (vs.map (.int .i64)) (by omega) l[i].frm l[i].to;rw[A0B A7]at hr;simp only[Q7]at hr;have hE:FN ns rs l[i]=if LQ rs l[i].frm l[i].to≠0 then LQ rs l[i].frm l[i].to else o6 ns rs l[i].msg:=rfl
  generalize l[i]=t at *
  generalize o6 ns rs t.msg=v at *
  generalize LQ rs t.frm t.to=w at *
  generalize FN ns rs t=z at *
  generalize hgl:Q7 (FN ns rs) Ste.line l=L at *
  by_cases hw:w=0
  .rw[if_neg (by simp[hw])]at hE;subst hE;by_cases hz:z=0
   .rw[if_neg (by simp[hz])]at hr;simp[AT,A6,k6,k26,k27,k28,A7,Q6,hx,hT,hw,hI,hz];exact G8 hJ ⟨i+1,by omega,by simp[A6],⟨_,rfl⟩,hr⟩
   .rw[if_pos hz]at hr;simp[AT,A6,k6,k26,k27,k28,A7,hx,hT,hw,hI,hz];exact hΦ _ _ _ (.inr ⟨rfl,by simp[A6,←hr],by simp[A6,←hr],by simp[←hr,hz]⟩)
  .rw[if_pos hw]at hE;rw[hE,if_pos hw]at hr;simp[AT,A6,k6,k26,k27,k28,A7,hx,hT,hw];exact hΦ _ _ _ (.inr ⟨rfl,by simp[A6,←hr],by simp[A6,←hr],by simp[←hr,hw]⟩)
 .obtain⟨hh',hr⟩:=hr;rw[A0C (by omega)]at hr;simp[AT,A6,k27,k28,A7];exact hΦ _ _ _ (.inl ⟨rfl,hr.symm,hh'⟩)
theorem Zp (m:J3) (rs ns:List ByteArray) (vs:List Int) (m':J3) (l:List Gol) (B8:l.length<=1099511627776) (IH:∀s∈l,pc Q R6 [.agg [sl m 1 (rs.map .str),.vm (ns.map .str) (vs.map (.int .i64))],Da s]=some (.int .i64 (HN ns rs s))) (A:G1) (fr:Fr) (h:AH) (hh:∃B,h.boxes=A::[sl m 1 (rs.map .str),.vm (ns.map .str) (vs.map (.int .i64))]::B) (hl:fr.length=66) (h6:A0 fr 6=.ptr 1 0) (h51:A0 fr 51=sl m' 5 (l.map Da)) (h52:A0 fr 52=.int .i64 l.length) (h53:A0 fr 53=.int .i64 0) :
  B9 (lp (A3 (L5 Q) (E5 ES) Bs) (fr,h)) λe C6 h'=>Kp Bs.wr fr C6/\(e=.exit 2/\Q7 (HN ns rs) Gol.line l=(0,0)\/e=.ret/\A0 C6 2=.int .i64 (Q7 (HN ns rs) Gol.line l).1/\A0 C6 3=.int .i64 (Q7 (HN ns rs) Gol.line l).2):=by
 refine B5 rfl fr (λn fr h'=>∃(i:Nat),i+n=l.length/\A0 fr 53=.int .i64 (i:Nat)/\(∃B,h'.boxes=A::[sl m 1 (rs.map .str),.vm (ns.map .str) (vs.map (.int .i64))]::B)/\Q7 (HN ns rs) Gol.line (l.drop i)=Q7 (HN ns rs) Gol.line l) ?_ l.length h ⟨0,by omega,h53,hh,rfl⟩;rintro J Φ hJ hΦ n E1 H1 K ⟨i,hi,k53,hr⟩;have A6:=K.1.trans hl;have k6:=A9 K 6 h6;have k51:=A9 K 51 h51;have k52:=A9 K 52 h52;clear K;by_cases A7:i<l.length
 .have Q6:=D1 i (by omega);obtain⟨⟨B,hB⟩,hr⟩:=hr;obtain⟨bx,fams⟩:=H1;simp only at hB;subst hB;have hx:=G0 (f:=Da) (A0D A7);have hI:=IH l[i] (A0O A7);rw[A0B A7]at hr;simp only[Q7]at hr;generalize l[i]=t at *
  generalize HN ns rs t=z at *
  generalize hgl:Q7 (HN ns rs) Gol.line l=L at *
  by_cases hz:z=0
  .rw[if_neg (by simp[hz])]at hr;simp[Bs,A6,k6,k51,k52,k53,A7,Q6,hx,hI,hz];exact G8 hJ ⟨i+1,by omega,by simp[A6],⟨_,rfl⟩,hr⟩
  .rw[if_pos hz]at hr;simp[Bs,A6,k6,k51,k52,k53,A7,hx,hI,hz];exact hΦ _ _ _ (.inr ⟨rfl,by simp[A6,←hr],by simp[A6,←hr]⟩)
 .obtain⟨hh',hr⟩:=hr;rw[A0C (by omega)]at hr;simp[Bs,A6,k52,k53,A7];exact hΦ _ _ _ (.inl ⟨rfl,hr.symm⟩)
theorem LI (n:Nar):(B4 n).length=(G3 n).length:=by simp[B4,G3]
theorem TJ (n:Nar) (F:Fine n) (hS:n.roles.length+n.fresh.length+n.tags.length<=1048576):pc Q ES [F0 n]=some (.tup [.int .i64 (Z5 n).1,.int .i64 (Z5 n).2]):=by
 have hV:=af n F;have hD:=aa n hS;have l1:=F.stepsL;have l2:=F.goalsL;have fs:=F.steps;have fg:=F.goals;have hT:∀t:Tm,t.size<=1099511627776->pc Q I4 [eH n.rm n,B7 t]=some (.int .i64 (o6 (B4 n) n.roles t)):=λt ht=>fY n.rm n.roles (B4 n) (G3 n) (by omega) (LI n) _ t (A0S _) ht;have hG:∀g:Gol,Tm.sizes g.data<=1099511627776->pc Q R6 [eH n.rm n,Da g]=some (.int .i64 (HN (B4 n) n.roles g)):=λg hg=>mC n.rm n.roles (B4 n) (G3 n) (by omega) (LI n) g hg;have hE:Z5 n=if NJ n≠0 then (0,NJ n)else if GY n≠0 then (0,GY n)
  else if Q7 (FN (B4 n) n.roles) Ste.line n.steps≠(0,0)then Q7 (FN (B4 n) n.roles) Ste.line n.steps else Q7 (HN (B4 n) n.roles) Gol.line n.goals:=rfl
 have hN:GY n=0->pc Q Ak [F0 n]=some (eH n.rm n):=QO n hS;unfold eH at hT hG hN;generalize Z5 n=z at *
 generalize NJ n=e1 at *
 generalize GY n=e2 at *
 generalize B4 n=ns at *
 generalize G3 n=vs at *
 clear F;obtain⟨name,rm,roles,fm,fresh,tm,tags,sm,steps,gm,goals⟩:=n;simp only at *
 have q1:=Zq rm roles ns vs (by omega) sm steps l1 (λs hs=>hT _ (fs s hs).2.2) [.str name,sl rm 1 (roles.map .str),sl fm 3 (fresh.map KD),sl tm 1 (tags.map .str),sl sm 7 (steps.map DY),sl gm 5 (goals.map Da)];have q2:=Zp rm roles ns vs gm goals l2 (λg hg=>hG g (fg g hg).2.2) [.str name,sl rm 1 (roles.map .str),sl fm 3 (fresh.map KD),sl tm 1 (tags.map .str),sl sm 7 (steps.map DY),sl gm 5 (goals.map Da)];clear hT hG;generalize Q7 (FN ns roles) Ste.line steps=L1 at *
 generalize Q7 (HN ns roles) Gol.line goals=L2 at *
 refine M2 Gq λfr hl h0=>?_;simp[Gq,F0]at hl h0;simp only[F0]at hV hD hN;by_cases z1:e1=0
 .rw[if_neg (by simp[z1])]at hE;by_cases z2:e2=0
  .rw[if_neg (by simp[z2])]at hE;have hN:=hN z2;generalize hU:ns.map AV.str=U at *
   generalize hW:vs.map (AV.int .i64)=W at *
   simp[Gq,hl,h0,hV,z1,hD,z2,hN];refine B9.mono (q1 _ _ ?_ ?_ ?_ ?_ ?_ ?_) ?_<;>first|(simp[hl];done)|skip
   rintro e E1 ⟨bx,fams⟩ ⟨K,⟨rfl,hz,B,hB⟩|⟨rfl,k2,k3,hz⟩⟩
   .simp only at hB;subst hB;have J5:E1.length=66:=K.1.trans (by simp[hl]);have Ey:A0 E1 1=.ptr 0 0:=A9 K 1 (by simp[hl]);have vL:A0 E1 6=.ptr 1 0:=A9 K 6 (by simp[hl]);clear K;rw[if_neg (by simp[hz])]at hE;simp[J5,Ey];refine B9.mono (q2 _ _ ?_ ?_ ?_ ?_ ?_ ?_) ?_<;>first|(simp[J5,vL];done)|skip
    rintro e V8 h2 ⟨K,⟨rfl,hz⟩|⟨rfl,k2,k3⟩⟩
    .have R5:V8.length=66:=K.1.trans (by simp[J5]);clear K;simp[R5,hE,hz]
    .simp[k2,k3,hE]
   .rw[if_pos hz]at hE;simp[k2,k3,hE]
  .rw[if_pos z2]at hE;simp[Gq,hl,h0,hV,z1,hD,z2,hE]
 .rw[if_pos z1]at hE;simp[Gq,hl,h0,hV,z1,hE]
def J8 (ns:List ByteArray) (vs:List Int) (a:ByteArray):Int:=if ns.any (U3 a)=true then vs.getD (idx (U3 a) ns).toNat 0 else 0
mutual
def BT (f:ByteArray->Int):Tm->Tm
 | .mk k nm s _ l=>.mk k nm (if k=2 then f nm else s) (false,false) (Z6 f l)
def Z6 (f:ByteArray->Int):List Tm->List Tm
 | []=>[]
 |t::l=>BT f t::Z6 f l
end
mutual
def E8:Tm->Tm
 | .mk k nm s _ l=>.mk k nm s (false,false) (H2 l)
def H2:List Tm->List Tm
 | []=>[]
 |t::l=>E8 t::H2 l
end
theorem Hh (f:ByteArray->Int) (l:I6):Z6 f l=l.map (BT f):=by
 induction l with
 |nil=>rfl
 |cons t l ih=>simp[Z6,ih]
theorem E3 (l:I6):H2 l=l.map E8:=by
 induction l with
 |nil=>rfl
 |cons t l ih=>simp[H2,ih]
theorem mq (ns:List ByteArray) (vs:List Int) (hkv:ns.length=vs.length) (h:AH) (a:I3) :
  Ht true false (.int .i64 0) h (.vm (ns.map .str) (vs.map (.int .i64))) (.str a)=some (.int .i64 (J8 ns vs a),h):=by
 cases hk:ns.any (U3 a)with
 |false=>simp[Ht,RU,Gy,Nc a ns 0 hk,J8,hk]
 |true =>
  have hge:=(CX (U3 a) ns 0).2 hk;have A7:=Ir (U3 a) ns 0;have hi:(R1 (U3 a) 0 ns).toNat<vs.length:=by omega
  simp[Ht,RU,Gy,Qh a ns 0 hk,hi,J8,hk,idx]
theorem dx (ns:List ByteArray) (vs:List Int) (hkv:ns.length=vs.length) (r x0 x2 x3:AV) (nm:I3) (h:AH) (hb:h.boxes[0]?=some [x0,.str nm,x2,x3]) :
  ∃w h',rc Q AA [.ptr 0 0,.pv [r,.vm (ns.map .str) (vs.map (.int .i64))]] h=some (w,h')/\w=.tup []/\h'={h with boxes:=h.boxes.set 0 [x0,.str nm,.int .i64 (J8 ns vs nm),x3]}:=by
 have hM:=mq ns vs hkv h nm;have A7:=I2 hb;refine Gh IX λfr hl h0 h1=>?_;simp[IX]at hl h0 h1;simp[IX,hl,h0,h1,hb,hM]
def bv (r:AV) (ns:List ByteArray) (vs:List Int):AV:=.fn AA [.pv [r,.vm (ns.map .str) (vs.map (.int .i64))]]
@[simp] theorem wz (h:AH) (am:Bool) (r:AV) (ns:List ByteArray) (vs:List Int):JW h am (bv r ns vs)=some (bv r ns vs):=rfl
@[simp] theorem uR (h:AH) (r:AV) (ns:List ByteArray) (vs:List Int):Ef h (bv r ns vs)=true:=rfl
def zT:AV:=.agg [.int .i64 0,.str (bs []),.int .i64 0,.vs true 0 []]
theorem Xy (by':AV) (f:ByteArray->Int) (m:J3) (l:I6) (B8:l.length<=1099511627776) (hby:∀h am,JW h am by'=some by') (hby2:∀h,Ef h by'=true) (IH:∀t∈l,∃t',pc Q J2 [B7 t,by']=some (B7 t')/\E8 t'=BT f t) (A C:G1) (fr:Fr) (h:AH) (hh:h=⟨[A,C],[⟨A0I l.length zT,4,true⟩]⟩) (hl:fr.length=36) (h1:A0 fr 1=by') (h5:A0 fr 5=.sl 0 l.length 0 l.length) (h19:A0 fr 19=sl m 4 (A4 l)) (h20:A0 fr 20=.int .i64 l.length) (h21:A0 fr 21=.int .i64 0) :
  B9 (lp (A3 (L5 Q) (E5 J2) CR) (fr,h)) λe C6 h'=>Kp CR.wr fr C6/\e=.exit 0/\∃B done,h'=⟨A::C::B,[⟨A4 done,4,true⟩]⟩/\H2 done=Z6 f l/\done.length=l.length:=by
 refine B5 rfl fr (λn fr h'=>∃(i:Nat),i+n=l.length/\A0 fr 21=.int .i64 (i:Nat)/\(∃B done,h'=⟨A::C::B,[⟨A4 done++A0I (l.length-i) zT,4,true⟩]⟩/\H2 done=Z6 f (l.take i)/\done.length=i)) ?_ l.length h ⟨0,by omega,h21,⟨[],[],by simp[hh,A4],by simp[H2,Z6],rfl⟩⟩;rintro J Φ hJ hΦ n E1 H1 K ⟨i,hi,k21,hr⟩;have A6:=K.1.trans hl;have k1:=A9 K 1 h1;have k5:=A9 K 5 h5;have k19:=A9 K 19 h19;have k20:=A9 K 20 h20;clear K;by_cases A7:i<l.length
 .have Q6:=D1 i (by omega);obtain⟨B,done,rfl,hd,DX⟩:=hr;have hx:=N6 A7;obtain⟨t',hI,ht⟩:=IH l[i] (A0O A7);have e1:l.length-i=(l.length-(i+1))+1:=by omega
  have e2:H2 (done++[t'])=Z6 f (l.take (i+1)):=by
   rw[A0A A7,E3,A0H,←E3,hd,Hh,Hh,A0H,A0G,A0J,A0G,A0J,ht]
  have e3:(A4 done++A0I (l.length-i) zT).set i (B7 t')=A4 (done++[t'])++A0I (l.length-(i+1)) zT:=by
   rw[e1,A0R,List.set_append_right _ _ (by simp[DX]),o8];simp[DX]
  have e4:(A4 done++A0I (l.length-i) zT)[i]?=some zT:=by
   rw[e1,A0R,List.getElem?_append_right (by simp[DX])];simp[DX]
  have e5:(A4 done++A0I (l.length-i) zT).length=l.length:=by simp[DX];omega
  clear ht hd;generalize l[i]=t at *
  generalize A4 done++A0I (l.length-i) zT=X at *
  have e6:(AV.agg [.int .i64 t'.kind,.str t'.name,.int .i64 t'.sort,sl t'.cm 4 (A4 t'.kids)])=B7 t':=Yk t';obtain⟨_,e7⟩:=List.getElem?_eq_some_iff.1 e4;simp[CR,A6,k1,k5,k19,k20,k21,A7,Q6,hx,hI,hby,hby2,e7,e5,zT,AV.reform];exact G8 hJ ⟨i+1,by omega,by simp[A6],⟨_,done++[t'],by rw[e3],e2,by simp[DX]⟩⟩
 .obtain⟨B,done,rfl,hd,DX⟩:=hr;have e:i=l.length:=by omega
  subst e;rw[List.take_length]at hd;simp[CR,A6,k20,k21];exact hΦ _ _ _ ⟨rfl,B,done,by simp,hd,DX⟩
theorem Us (r:AV) (hr:r.flat=true) (ns:List ByteArray) (vs:List Int) (hkv:ns.length=vs.length):∀(n:Nat) (t:Tm),t.size<=n->t.size<=1099511627776->I7 t=0->∃t',pc Q J2 [B7 t,bv r ns vs]=some (B7 t')/\E8 t'=BT (J8 ns vs) t:=by
 intro n
 induction n with
 |zero=>intro t h;have:=t.size_pos;omega
 |succ n ih =>
  intro t hn hb P1;obtain⟨k,nm,s,m,kids⟩:=t;have I9:Tm.size (.mk k nm s m kids)=1+Tm.sizes kids:=rfl;have B8:=Tm.length_le kids;obtain⟨hne1,hne2⟩:=Z2 P1;have hnb:=(HK hne1).2.1;have KB:=Xy (bv r ns vs) (J8 ns vs) m kids (by omega) (λ_ _=>rfl) (λ_=>rfl) (λt ht=>ih t (by have:=Tm.size_le ht;omega) (by have:=Tm.size_le ht;omega) (O1 hne2 t ht))
  suffices h:∃v,pc Q J2 [B7 (.mk k nm s m kids),bv r ns vs]=some v/\∃t',v=B7 t'/\E8 t'=BT (J8 ns vs) (.mk k nm s m kids) by
   obtain⟨v,h1,t',rfl,h2⟩:=h;exact⟨t',h1,h2⟩
  refine Qp HF λΨ hΨ fr hl h0 h1=>?_;simp[HF,B7]at hl h0 h1;by_cases hk:k=2
  .have hkd:kids=[]:=List.eq_nil_of_length_eq_zero (hnb (.inr hk));have hS:=λ(h:AH) (hb:h.boxes[0]?=some [.int .i64 k,.str nm,.int .i64 s,sl m 4 (A4 kids)])=>dx ns vs hkv r _ _ _ nm h hb;obtain⟨w,h',q1,q2,q3⟩:=hS ⟨[[.int .i64 k,.str nm,.int .i64 s,sl m 4 (A4 kids)],[.int .i64 0,.str (bs []),.int .i64 0,.vs true 0 []]],[]⟩ rfl;simp only[A0L]at q3;subst q2 q3;simp[HF,hl,h0,h1,bv,B6 hk,q1];exact hΨ _ ⟨.mk k nm (J8 ns vs nm) m kids,rfl,by subst hkd;simp[E8,H2,BT,Z6,hk]⟩
  .have r1:(kids.length:Int)*56<=(H6:Int)/\kids.length<=maxLen:=by simp only[H6,maxLen];omega
   simp[HF,hl,h0,A2 hk,r1];refine B9.mono (KB [.int .i64 k,.str nm,.int .i64 s,sl m 4 (A4 kids)] [.int .i64 0,.str (bs []),.int .i64 0,.vs true 0 []] _ _ ?_ ?_ ?_ ?_ ?_ ?_ ?_) ?_<;>first|(simp[hl,h1];done)|rfl|skip
   rintro e E1 h1 ⟨K,rfl,B,done,rfl,hd,DX⟩;have J5:E1.length=36:=K.1.trans (by simp[hl]);have GG:A0 E1 2=.ptr 0 0:=A9 K 2 (by simp[hl]);have LC:A0 E1 4=.ptr 1 0:=A9 K 4 (by simp[hl]);have vK:A0 E1 5=.sl 0 kids.length 0 kids.length:=A9 K 5 (by simp[hl]);clear K;have e1:List.take kids.length (A4 done)=A4 done:=A0F (by simp[DX]);simp[J5,GG,LC,vK,e1,DX];exact hΨ _ ⟨.mk k nm s (false,true) done,rfl,by simp[E8,BT,hk,hd]⟩
end Go.Abs.Q
namespace Go.Abs.Q
open Go.Proofs
attribute [local simp] D9 E4 fin I8 G6 Qo
def gB (k sz:Nat) (xs:List AV) (v:AV) (h:AH):Prop:=(xs=[]/\∃b,v=sl (true,b) sz [])\/(xs≠[]/\v=.sl k xs.length 0 xs.length/\h.fams[k]?=some ⟨xs,sz,true⟩)
@[simp] theorem Jt (h:AH) (k n off len:Nat):Cs h (.sl k n off len)=Dy h true (.sl k n off len):=rfl
@[simp] theorem qO (h:AH):Cs h (.vs true 0 [])=some (.vs true 0 []):=rfl
theorem SG {k sz:Nat} {xs:G1} {v:AV} {h:AH} (hg:gB k sz xs v h):v.isTup=false/\v.cells=[v]/\EA [v]=false:=by
 rcases hg with ⟨_,b,rfl⟩|⟨_,rfl,_⟩<;>exact⟨rfl,rfl,rfl⟩
theorem XT {k sz:Nat} {xs:G1} {v:AV} {h:AH} (hg:gB k sz xs v h) (h':AH):Xv h' v=some (.int .i64 xs.length,h'):=by
 rcases hg with ⟨rfl,b,rfl⟩|⟨_,rfl,_⟩
 .simp
 .rfl
theorem PH (m:J3) (xs:G1) (Wa:xs.length<=1048576):∃m',pc Q i8 [sl m 1 xs]=some (sl m' 1 xs):=by
 suffices h:∃r,pc Q i8 [sl m 1 xs]=some r/\∃m',r=sl m' 1 xs by
  obtain⟨r,h1,m',rfl⟩:=h;exact⟨m',h1⟩
 have hr:xs.length*16<=H6/\xs.length<=maxLen:=by simp only[H6,maxLen];omega
 refine HL j6 λΨ hΨ fr hl h0=>?_;simp[j6]at hl h0;by_cases he:xs=[]
 .subst he;obtain⟨m1,m2⟩:=m;cases m2 with
  |false =>
   simp[j6,hl,h0];exact hΨ _ ⟨(true,false),IN 1⟩
  |true =>
   simp[j6,hl,h0,Hm,A5];exact hΨ _ ⟨_,rfl⟩
 .have he':xs.isEmpty=false:=by simpa using he
  simp[j6,hl,h0,he',Hm,A5,he,hr,Jt];exact hΨ _ ⟨_,rfl⟩
theorem Vq (m:J3) (xs:G1) (Wa:xs.length<=1048576):∃m',pc Q CH [sl m 3 xs]=some (sl m' 3 xs):=by
 suffices h:∃r,pc Q CH [sl m 3 xs]=some r/\∃m',r=sl m' 3 xs by
  obtain⟨r,h1,m',rfl⟩:=h;exact⟨m',h1⟩
 have hr:xs.length*40<=H6/\xs.length<=maxLen:=by simp only[H6,maxLen];omega
 refine HL x7 λΨ hΨ fr hl h0=>?_;simp[x7]at hl h0;by_cases he:xs=[]
 .subst he;obtain⟨m1,m2⟩:=m;cases m2 with
  |false =>
   simp[x7,hl,h0];exact hΨ _ ⟨(true,false),IN 3⟩
  |true =>
   simp[x7,hl,h0,Hm,A5];exact hΨ _ ⟨_,rfl⟩
 .have he':xs.isEmpty=false:=by simpa using he
  simp[x7,hl,h0,he',Hm,A5,he,hr,Jt];exact hΨ _ ⟨_,rfl⟩
theorem Nv (m:J3) (xs:G1) (Wa:xs.length<=1048576) (h:AH):∃w h',rc Q H4 [sl m 4 xs] h=some (w,h')/\gB h.fams.length 4 xs w h'/\h'.boxes=h.boxes/\∃e,h'.fams=h.fams++e:=by
 have hr:xs.length*56<=H6/\xs.length<=maxLen:=by simp only[H6,maxLen];omega
 suffices hq:∃w h',rc Q H4 [sl m 4 xs] h=some (w,h')/\∀Ψ:AV->AH->Prop,(∀w h',gB h.fams.length 4 xs w h'/\h'.boxes=h.boxes/\(∃e,h'.fams=h.fams++e)->Ψ w h')->Ψ w h' by
  obtain⟨w,h',h1,h2⟩:=hq;exact⟨w,h',h1,h2 _ λ_ _ h=>h⟩
 refine bE P4 λfr hl h0=>?_;simp[P4]at hl h0;by_cases he:xs=[]
 .subst he;obtain⟨m1,m2⟩:=m;cases m2 with
  |false =>
   simp[P4,hl,h0];exact λΨ hΨ=>hΨ _ _ (.inl ⟨rfl,false,IN 4⟩) rfl [] (by simp)
  |true =>
   simp[P4,hl,h0,Hm,A5];exact λΨ hΨ=>hΨ _ _ (.inl ⟨rfl,true,rfl⟩) rfl [] (by simp)
 .have he':xs.isEmpty=false:=by simpa using he
  simp[P4,hl,h0,he',Hm,A5,he,hr,show Vp H4=true from rfl];exact λΨ hΨ=>hΨ _ _ (.inr ⟨he,rfl,by simp⟩) rfl _ rfl
theorem YZ (m:J3) (xs:G1) (Wa:xs.length<=1048576) (h:AH):∃w h',rc Q N4 [sl m 7 xs] h=some (w,h')/\gB h.fams.length 7 xs w h'/\h'.boxes=h.boxes/\∃e,h'.fams=h.fams++e:=by
 have hr:xs.length*96<=H6/\xs.length<=maxLen:=by simp only[H6,maxLen];omega
 suffices hq:∃w h',rc Q N4 [sl m 7 xs] h=some (w,h')/\∀Ψ:AV->AH->Prop,(∀w h',gB h.fams.length 7 xs w h'/\h'.boxes=h.boxes/\(∃e,h'.fams=h.fams++e)->Ψ w h')->Ψ w h' by
  obtain⟨w,h',h1,h2⟩:=hq;exact⟨w,h',h1,h2 _ λ_ _ h=>h⟩
 refine bE Ac λfr hl h0=>?_;simp[Ac]at hl h0;by_cases he:xs=[]
 .subst he;obtain⟨m1,m2⟩:=m;cases m2 with
  |false =>
   simp[Ac,hl,h0];exact λΨ hΨ=>hΨ _ _ (.inl ⟨rfl,false,IN 7⟩) rfl [] (by simp)
  |true =>
   simp[Ac,hl,h0,Hm,A5];exact λΨ hΨ=>hΨ _ _ (.inl ⟨rfl,true,rfl⟩) rfl [] (by simp)
 .have he':xs.isEmpty=false:=by simpa using he
  simp[Ac,hl,h0,he',Hm,A5,he,hr,show Vp N4=true from rfl];exact λΨ hΨ=>hΨ _ _ (.inr ⟨he,rfl,by simp⟩) rfl _ rfl
theorem YY (m:J3) (xs:G1) (Wa:xs.length<=1048576) (h:AH):∃w h',rc Q N3 [sl m 5 xs] h=some (w,h')/\gB h.fams.length 5 xs w h'/\h'.boxes=h.boxes/\∃e,h'.fams=h.fams++e:=by
 have hr:xs.length*72<=H6/\xs.length<=maxLen:=by simp only[H6,maxLen];omega
 suffices hq:∃w h',rc Q N3 [sl m 5 xs] h=some (w,h')/\∀Ψ:AV->AH->Prop,(∀w h',gB h.fams.length 5 xs w h'/\h'.boxes=h.boxes/\(∃e,h'.fams=h.fams++e)->Ψ w h')->Ψ w h' by
  obtain⟨w,h',h1,h2⟩:=hq;exact⟨w,h',h1,h2 _ λ_ _ h=>h⟩
 refine bE Ab λfr hl h0=>?_;simp[Ab]at hl h0;by_cases he:xs=[]
 .subst he;obtain⟨m1,m2⟩:=m;cases m2 with
  |false =>
   simp[Ab,hl,h0];exact λΨ hΨ=>hΨ _ _ (.inl ⟨rfl,false,IN 5⟩) rfl [] (by simp)
  |true =>
   simp[Ab,hl,h0,Hm,A5];exact λΨ hΨ=>hΨ _ _ (.inl ⟨rfl,true,rfl⟩) rfl [] (by simp)
 .have he':xs.isEmpty=false:=by simpa using he
  simp[Ab,hl,h0,he',Hm,A5,he,hr,show Vp N3=true from rfl];exact λΨ hΨ=>hΨ _ _ (.inr ⟨he,rfl,by simp⟩) rfl _ rfl
end Go.Abs.Q
