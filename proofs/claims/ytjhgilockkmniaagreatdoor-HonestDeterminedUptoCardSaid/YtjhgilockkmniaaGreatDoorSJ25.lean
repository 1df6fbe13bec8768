/- A part of the proof. -/
import Derived.Test.YtjhgilockkmniaaGreatDoorSJ24
set_option linter.all false
open List renaming take_succ_eq_append_getElem->zf0z,drop_eq_getElem_cons->zf1z,drop_eq_nil_of_le->zf2z,getElem?_eq_getElem->zf3z,append_assoc->zf4z,take_of_length_le->zf5z,map_cons->zf6z,map_append->zf7z,replicate->zf8z,map_nil->zf9z,append_nil->zg0z,set_cons_zero->zg1z,set_cons_succ->zg2z,getElem_mem->zg4z,nil_append->zg5z,take_zero->zg6z,replicate_succ->zg7z
open Function renaming comp_def->zg3z
open Nat renaming le_refl->zg8z
namespace Go.Abs.Q
open Go.Proofs
attribute [local simp] C8 D5 fin H6 G0 Cb BG Af Ae
theorem Sn {α β:Type} (f:α->β) {l:List α} {i:Nat} (h:i<l.length):(l.map f).take (i+1)=(l.map f).take i++[f l[i]]:=by
 rw[zf0z (by simpa using h)];simp
theorem ZG (m m0:U8) (rs seen:List ByteArray) (hrs:rs.length<=1048576) (l:List Fre) (C4:seen.length+l.length<=1048576) (a0 a2 a3 a4 a5:AV) (fr:Fr) (h:AH) (hh:∃v B,h.boxes=[a0,sl m0 1 (rs.map .str),a2,a3,a4,a5]::[v]::B/\EY 1 (seen.map .str) v h) (hl:fr.length=64) (h1:A2 fr 1=.ptr 0 0) (h4:A2 fr 4=.fn F9 [.ptr 1 0]) (h30:A2 fr 30=sl m 3 (l.map Gq)) (h31:A2 fr 31=.int .i64 l.length) (h32:A2 fr 32=.int .i64 0) :
  C3 (lp (A4 (N5 Q) (B9 M2) P9) (fr,h)) λe fr' h'=>Kp P9.wr fr fr'/\(e=.exit 2/\U1 rs seen (l.map λf=>(f.name,some f.role))=0/\(∃v B,h'.boxes=[a0,sl m0 1 (rs.map .str),a2,a3,a4,a5]::[v]::B/\EY 1 ((seen++l.map Fre.name).map .str) v h')\/e=.ret/\A2 fr' 2=.int .i64 (U1 rs seen (l.map λf=>(f.name,some f.role)))/\U1 rs seen (l.map λf=>(f.name,some f.role))≠0):=by
 refine C1 rfl fr (λn fr h'=>∃(i:Nat),i+n=l.length/\A2 fr 32=.int .i64 (i:Nat)/\(∃v B,h'.boxes=[a0,sl m0 1 (rs.map .str),a2,a3,a4,a5]::[v]::B/\EY 1 ((seen++(l.map Fre.name).take i).map .str) v h')/\U1 rs (seen++(l.map Fre.name).take i) ((l.drop i).map λf=>(f.name,some f.role))=U1 rs seen (l.map λf=>(f.name,some f.role))) ?_ l.length h ⟨0,by omega,h32,by simpa using hh,by simp⟩;rintro J Φ hJ hΦ n E4 H1 K ⟨i,hi,k32,hr⟩;have A6:=K.1.trans hl;have k1:=B8 K 1 h1;have k4:=B8 K 4 h4;have k30:=B8 K 30 h30;have k31:=B8 K 31 h31;clear K;by_cases A9:i<l.length
 .have j0:=C9 i (by omega);obtain⟨⟨v,B,hB,hg⟩,hr⟩:=hr;have hx:=E5 (f:=Gq) (zf3z A9);have hC:=DG m0 rs l[i].role hrs;obtain⟨bx,fams⟩:=H1;simp only at hB;subst hB;obtain⟨w,h',hN,hw2,hz⟩:=Sa ⟨[a0,sl m0 1 (rs.map .str),a2,a3,a4,a5]::[v]::(B++[(Gq l[i]).cells]),fams⟩ _ v rfl (Cd hg rfl) (by simp;omega) l[i].name true;subst hw2;rw[zf1z A9,zf6z]at hr;rw[MH]at hr;by_cases Oa:JD (seen++(l.map Fre.name).take i) l[i].name true=0
  .obtain⟨v',hb',Ch⟩:=hz Oa;rw[if_neg (by simp[Oa])]at hr;simp only[zg2z,zg1z]at hb';simp only[OR]at hN hb';cases hq:rs.any (V4 l[i].role)with
   |true =>
    rw[hq]at hC hr;rw[if_neg (by simp)]at hr;simp[P9,A6,k1,k4,k30,k31,k32,A9,j0,hx,hN,Oa,hb',hC];exact H0 hJ ⟨i+1,by omega,by simp[A6],⟨v',_,hb',by rw[Sn _ A9,←zf4z];exact Cd Ch rfl⟩,by rw[Sn _ A9,←zf4z];exact hr⟩
   |false =>
    rw[hq]at hC hr;rw[if_pos rfl]at hr;simp[P9,A6,k1,k4,k30,k31,k32,A9,j0,hx,hN,Oa,hb',hC];exact hΦ _ _ _ (.inr ⟨rfl,by rw[←hr];simp[A6],by rw[←hr];omega⟩)
  .rw[if_pos Oa]at hr;simp only[OR]at hN;simp[P9,A6,k1,k4,k30,k31,k32,A9,j0,hx,hN,Oa];exact hΦ _ _ _ (.inr ⟨rfl,by simp[A6,hr],by rw[←hr];exact Oa⟩)
 .obtain⟨hh',hr⟩:=hr;rw[zf2z (by omega)]at hr;rw[zf5z (by simp;omega)]at hr hh';simp only[zf9z,U1]at hr;simp[P9,A6,k1,k4,k30,k31,k32,A9];exact hΦ _ _ _ (.inl ⟨rfl,hr.symm,hh'⟩)
theorem UW (n:Nar) (hS:n.roles.length+n.fresh.length+n.tags.length<=1048576):pc Q M2 [D2 n]=some (.int .i64 (GZ n)):=by
 have hE:GZ n=if U1 n.roles [] (n.roles.map λa=>(a,none))≠0 then U1 n.roles [] (n.roles.map λa=>(a,none))
   else if U1 n.roles n.roles (n.fresh.map λf=>(f.name,some f.role))≠0 then U1 n.roles n.roles (n.fresh.map λf=>(f.name,some f.role))
   else U1 n.roles (n.roles++n.fresh.map Fre.name) (n.tags.map λa=>(a,none)):=by
  unfold GZ TT;rw[Ji,Ji];have e1:(n.roles.map λa=>((a,none):ByteArray×Option ByteArray)).map (·.1)=n.roles:=by simp[zg3z]
  have e2:(n.fresh.map λf=>((f.name,some f.role):ByteArray×Option ByteArray)).map (·.1)=n.fresh.map Fre.name:=by simp[zg3z]
  rw[zf7z,e1,e2,zg5z];split<;>simp_all
 generalize GZ n=z at *
 obtain⟨name,rm,roles,fm,fresh,tm,tags,sm,steps,gm,goals⟩:=n;simp only at hE hS;refine Bu Fj λfr hl h0=>?_;simp[Fj,D2]at hl h0;simp[Fj,hl,h0];refine C3.mono (ZH rm roles [] roles (by simp;omega) [.str name,sl rm 1 (roles.map .str),sl fm 3 (fresh.map Gq),sl tm 1 (tags.map .str),sl sm 7 (steps.map Q2),sl gm 5 (goals.map Be)] _ _ ?_ ?_ ?_ ?_ ?_ ?_) ?_<;>first|(simp[hl];done)|skip
 .exact⟨_,_,rfl,Fk _ _⟩
 rintro e E4 h1 ⟨K,⟨rfl,hz,hh⟩|⟨rfl,k2,hz⟩⟩
 .have M9:E4.length=64:=K.1.trans (by simp[hl]);have EO:A2 E4 1=.ptr 0 0:=B8 K 1 (by simp[hl]);have IY:A2 E4 4=.fn F9 [.ptr 1 0]:=B8 K 4 (by simp[hl]);clear K;rw[if_neg (by simp[hz])]at hE;rw[zg5z]at hh;have hh0:=hh;obtain⟨v,B,hB,hg⟩:=hh;simp[M9,EO,IY,hB];refine C3.mono (ZG fm rm roles roles (by omega) fresh (by omega) _ _ _ _ _ _ h1 hh0 ?_ ?_ ?_ ?_ ?_ ?_) ?_<;>first|(simp[M9,EO,IY];done)|skip
  rintro e T9 h2 ⟨K,⟨rfl,hz,hh⟩|⟨rfl,k2,hz⟩⟩
  .have M3:T9.length=64:=K.1.trans (by simp[M9]);have k1fr2:A2 T9 1=.ptr 0 0:=B8 K 1 (by simp[M9,EO]);have k4fr2:A2 T9 4=.fn F9 [.ptr 1 0]:=B8 K 4 (by simp[M9,IY]);clear K;rw[if_neg (by simp[hz])]at hE;have hh0:=hh;obtain⟨v,B,hB,hg⟩:=hh;simp[M3,k1fr2,k4fr2,hB];refine C3.mono (ZF tm roles (roles++fresh.map Fre.name) tags (by simp;omega) _ _ h2 hh0 ?_ ?_ ?_ ?_ ?_) ?_<;>first|(simp[M3,k1fr2,k4fr2];done)|skip
   rintro e fr3 h3 ⟨K,⟨rfl,hz,hh⟩|⟨rfl,k2,hz⟩⟩
   .have hlfr3:fr3.length=64:=K.1.trans (by simp[M3]);clear K;rw[hz]at hE;simp[hlfr3,hE]
   .simp[k2,hE]
  .rw[if_pos hz]at hE;simp[k2,hE]
 .rw[if_pos hz]at hE;simp[k2,hE]
end Go.Abs.Q
namespace Go.Abs.Q
open Go.Proofs
attribute [local simp] C8 D5 fin H6 G0
theorem Nh (h:AH) (b:Nat) (ks vs:C6) (hb:h.boxes[b]?=some [.mbox ks vs]):AS h true (.mp b)=some (.vm ks vs):=by simp[AS,hb]
@[simp] theorem lQ (ks vs:C6):BA [.mbox ks vs]=true:=rfl
theorem Jj {rs seen:List ByteArray} {a:R7} {r:List (ByteArray×Option ByteArray)} (h:U1 rs seen ((a,none)::r)=0):seen.any (V4 a)=false/\U1 rs (seen++[a]) r=0:=by
 rw[IU]at h;by_cases hz:JD seen a false=0
 .rw[if_neg (by simp[hz])]at h;refine⟨?_,h⟩;unfold JD at hz;cases hs:seen.any (V4 a)with
  |false=>rfl
  |true =>
   rw[hs]at hz;split at hz<;>simp at hz
 .rw[if_pos hz]at h;exact absurd h hz
theorem OI {rs seen:List ByteArray} {a x:R7} {r:List (ByteArray×Option ByteArray)} (h:U1 rs seen ((a,some x)::r)=0):seen.any (V4 a)=false/\rs.any (V4 x)=true/\U1 rs (seen++[a]) r=0:=by
 rw[MH]at h;by_cases hz:JD seen a true=0
 .rw[if_neg (by simp[hz])]at h;have h2:seen.any (V4 a)=false:=by
   unfold JD at hz;cases hs:seen.any (V4 a)with
   |false=>rfl
   |true =>
    rw[hs]at hz;split at hz
    .simp at hz
    .split at hz<;>simp at hz
  cases hx:rs.any (V4 x)with
  |false=>rw[hx,if_pos rfl]at h;omega
  |true=>rw[hx,if_neg (by simp)]at h;exact⟨h2,rfl,h⟩
 .rw[if_pos hz]at h;exact absurd h hz
theorem ch (m:U8) (rs seen:List ByteArray) (so:List Int) (l:List ByteArray) (C4:l.length<=1048576) (hd:U1 rs seen (l.map λa=>(a,none))=0) (A C:C6) (t0:AV) (B:List (List AV)) (fr:Fr) (h:AH) (hh:h.boxes=A::C::[.mbox (seen.map .str) (so.map (.int .i64))]::[t0,.mp 2]::B) (hl:fr.length=51) (h3:A2 fr 3=.ptr 3 0) (h15:A2 fr 15=sl m 1 (l.map .str)) (h16:A2 fr 16=.int .i64 l.length) (h17:A2 fr 17=.int .i64 0) :
  C3 (lp (A4 (N5 Q) (B9 X1) CK) (fr,h)) λe fr' h'=>Kp CK.wr fr fr'/\e=.exit 0/\h'.boxes=A::C::[.mbox ((seen++l).map .str) ((so++l.map λ_=>(1:Int)).map (.int .i64))]::[t0,.mp 2]::B:=by
 refine C1 rfl fr (λn fr h'=>∃(i:Nat),i+n=l.length/\A2 fr 17=.int .i64 (i:Nat)/\h'.boxes=A::C::[.mbox ((seen++l.take i).map .str) ((so++(l.take i).map λ_=>(1:Int)).map (.int .i64))]::[t0,.mp 2]::B/\U1 rs (seen++l.take i) ((l.drop i).map λa=>(a,none))=0) ?_ l.length h ⟨0,by omega,h17,by rw[hh,zg6z,zf9z,zg0z,zg0z],by simpa using hd⟩;rintro J Φ hJ hΦ n E4 H1 K ⟨i,hi,k17,hr⟩;have A6:=K.1.trans hl;have k3:=B8 K 3 h3;have k15:=B8 K 15 h15;have k16:=B8 K 16 h16;clear K;by_cases A9:i<l.length
 .have j0:=C9 i (by omega);obtain⟨hB,hr⟩:=hr;obtain⟨bx,fams⟩:=H1;simp only at hB;subst hB;have hx:=E5 (f:=AV.str) (zf3z A9);rw[zf1z A9,zf6z]at hr;obtain⟨q1,q2⟩:=Jj hr;have hM:=SE ⟨A::C::[.mbox ((seen++l.take i).map .str) ((so++(l.take i).map λ_=>(1:Int)).map (.int .i64))]::[t0,.mp 2]::B,fams⟩ 2 _ _ l[i] 1 rfl q1;have e1:(seen++l.take i++[l[i]])=seen++l.take (i+1):=by rw[zf0z A9,zf4z]
  have e2:(so++(l.take i).map λ_=>(1:Int)).map (AV.int .i64)++[.int .i64 1]=(so++(l.take (i+1)).map λ_=>(1:Int)).map (AV.int .i64):=by
   rw[zf0z A9];simp only[zf7z,zf6z,zf9z,zf4z]
  rw[e1,e2]at hM;rw[e1]at q2;simp only[zg2z,zg1z]at hM;generalize (seen++l.take i).map AV.str=U at *
  generalize (so++(l.take i).map λ_=>(1:Int)).map (AV.int .i64)=V at *
  generalize hU:(seen++l.take (i+1)).map AV.str=U' at *
  generalize hV:(so++(l.take (i+1)).map λ_=>(1:Int)).map (AV.int .i64)=V' at *
  simp[CK,A6,k3,k15,k16,k17,A9,j0,hx,hM];exact H0 hJ ⟨i+1,by omega,by simp[A6],by rw[hU,hV],q2⟩
 .obtain⟨hB,hr⟩:=hr;rw[zf2z (by omega)]at hr;rw[zf5z (by omega)]at hB;simp[CK,A6,k3,k15,k16,k17,A9];exact hΦ _ _ _ ⟨rfl,hB⟩
theorem cf (m:U8) (rs seen:List ByteArray) (so:List Int) (l:List ByteArray) (C4:l.length<=1048576) (hd:U1 rs seen (l.map λa=>(a,none))=0) (A C:C6) (t0:AV) (B:List (List AV)) (fr:Fr) (h:AH) (hh:h.boxes=A::C::[.mbox (seen.map .str) (so.map (.int .i64))]::[t0,.mp 2]::B) (hl:fr.length=51) (h3:A2 fr 3=.ptr 3 0) (h40:A2 fr 40=sl m 1 (l.map .str)) (h41:A2 fr 41=.int .i64 l.length) (h42:A2 fr 42=.int .i64 0) :
  C3 (lp (A4 (N5 Q) (B9 X1) CI) (fr,h)) λe fr' h'=>Kp CI.wr fr fr'/\e=.exit 4/\h'.boxes=A::C::[.mbox ((seen++l).map .str) ((so++l.map λ_=>(5:Int)).map (.int .i64))]::[t0,.mp 2]::B:=by
 refine C1 rfl fr (λn fr h'=>∃(i:Nat),i+n=l.length/\A2 fr 42=.int .i64 (i:Nat)/\h'.boxes=A::C::[.mbox ((seen++l.take i).map .str) ((so++(l.take i).map λ_=>(5:Int)).map (.int .i64))]::[t0,.mp 2]::B/\U1 rs (seen++l.take i) ((l.drop i).map λa=>(a,none))=0) ?_ l.length h ⟨0,by omega,h42,by rw[hh,zg6z,zf9z,zg0z,zg0z],by simpa using hd⟩;rintro J Φ hJ hΦ n E4 H1 K ⟨i,hi,k42,hr⟩;have A6:=K.1.trans hl;have k3:=B8 K 3 h3;have k40:=B8 K 40 h40;have k41:=B8 K 41 h41;clear K;by_cases A9:i<l.length
 .have j0:=C9 i (by omega);obtain⟨hB,hr⟩:=hr;obtain⟨bx,fams⟩:=H1;simp only at hB;subst hB;have hx:=E5 (f:=AV.str) (zf3z A9);rw[zf1z A9,zf6z]at hr;obtain⟨q1,q2⟩:=Jj hr;have hM:=SE ⟨A::C::[.mbox ((seen++l.take i).map .str) ((so++(l.take i).map λ_=>(5:Int)).map (.int .i64))]::[t0,.mp 2]::B,fams⟩ 2 _ _ l[i] 5 rfl q1;have e1:(seen++l.take i++[l[i]])=seen++l.take (i+1):=by rw[zf0z A9,zf4z]
  have e2:(so++(l.take i).map λ_=>(5:Int)).map (AV.int .i64)++[.int .i64 5]=(so++(l.take (i+1)).map λ_=>(5:Int)).map (AV.int .i64):=by
   rw[zf0z A9];simp only[zf7z,zf6z,zf9z,zf4z]
  rw[e1,e2]at hM;rw[e1]at q2;simp only[zg2z,zg1z]at hM;generalize (seen++l.take i).map AV.str=U at *
  generalize (so++(l.take i).map λ_=>(5:Int)).map (AV.int .i64)=V at *
  generalize hU:(seen++l.take (i+1)).map AV.str=U' at *
  generalize hV:(so++(l.take (i+1)).map λ_=>(5:Int)).map (AV.int .i64)=V' at *
  simp[CI,A6,k3,k40,k41,k42,A9,j0,hx,hM];exact H0 hJ ⟨i+1,by omega,by simp[A6],by rw[hU,hV],q2⟩
 .obtain⟨hB,hr⟩:=hr;rw[zf2z (by omega)]at hr;rw[zf5z (by omega)]at hB;simp[CI,A6,k3,k40,k41,k42,A9];exact hΦ _ _ _ ⟨rfl,hB⟩
theorem cg (m:U8) (rs seen:List ByteArray) (so:List Int) (l:List Fre) (C4:l.length<=1048576) (hd:U1 rs seen (l.map λf=>(f.name,some f.role))=0) (A C:C6) (t0:AV) (fr:Fr) (h:AH) (hh:h.boxes=A::C::[.mbox (seen.map .str) (so.map (.int .i64))]::[t0,.mp 2]::[]) (hl:fr.length=51) (h3:A2 fr 3=.ptr 3 0) (h26:A2 fr 26=sl m 3 (l.map Gq)) (h27:A2 fr 27=.int .i64 l.length) (h28:A2 fr 28=.int .i64 0) :
  C3 (lp (A4 (N5 Q) (B9 X1) CJ) (fr,h)) λe fr' h'=>Kp CJ.wr fr fr'/\e=.exit 2/\∃B,h'.boxes=A::C::[.mbox ((seen++l.map Fre.name).map .str) ((so++l.map Fre.sort).map (.int .i64))]::[t0,.mp 2]::B:=by
 refine C1 rfl fr (λn fr h'=>∃(i:Nat),i+n=l.length/\A2 fr 28=.int .i64 (i:Nat)/\(∃B,h'.boxes=A::C::[.mbox ((seen++(l.map Fre.name).take i).map .str) ((so++(l.map Fre.sort).take i).map (.int .i64))]::[t0,.mp 2]::B)/\U1 rs (seen++(l.map Fre.name).take i) ((l.drop i).map λf=>(f.name,some f.role))=0) ?_ l.length h ⟨0,by omega,h28,⟨[],by rw[hh,zg6z,zg6z,zg0z,zg0z]⟩,by simpa using hd⟩;rintro J Φ hJ hΦ n E4 H1 K ⟨i,hi,k28,hr⟩;have A6:=K.1.trans hl;have k3:=B8 K 3 h3;have k26:=B8 K 26 h26;have k27:=B8 K 27 h27;clear K;by_cases A9:i<l.length
 .have j0:=C9 i (by omega);obtain⟨⟨B,hB⟩,hr⟩:=hr;obtain⟨bx,fams⟩:=H1;simp only at hB;subst hB;have hx:=E5 (f:=Gq) (zf3z A9);rw[zf1z A9,zf6z]at hr;obtain⟨q1,-,q2⟩:=OI hr;have hM:=SE ⟨A::C::[.mbox ((seen++(l.map Fre.name).take i).map .str) ((so++(l.map Fre.sort).take i).map (.int .i64))]::[t0,.mp 2]::(B++[(Gq l[i]).cells]),fams⟩ 2 _ _ l[i].name l[i].sort rfl q1;have e1:(seen++(l.map Fre.name).take i++[l[i].name])=seen++(l.map Fre.name).take (i+1):=by rw[Sn _ A9,zf4z]
  have e2:(so++(l.map Fre.sort).take i).map (AV.int .i64)++[.int .i64 l[i].sort]=(so++(l.map Fre.sort).take (i+1)).map (AV.int .i64):=by
   rw[Sn _ A9];simp only[zf7z,zf6z,zf9z,zf4z]
  rw[e1,e2]at hM;rw[e1]at q2;simp only[zg2z,zg1z,OR]at hM;generalize (seen++(l.map Fre.name).take i).map AV.str=U at *
  generalize (so++(l.map Fre.sort).take i).map (AV.int .i64)=V at *
  generalize hU:(seen++(l.map Fre.name).take (i+1)).map AV.str=U' at *
  generalize hV:(so++(l.map Fre.sort).take (i+1)).map (AV.int .i64)=V' at *
  simp[CJ,A6,k3,k26,k27,k28,A9,j0,hx,hM];exact H0 hJ ⟨i+1,by omega,by simp[A6],⟨_,by rw[hU,hV]⟩,q2⟩
 .obtain⟨⟨B,hB⟩,hr⟩:=hr;rw[zf2z (by omega)]at hr;rw[zf5z (by simp;omega),zf5z (by simp;omega)]at hB;simp[CJ,A6,k3,k26,k27,k28,A9];exact hΦ _ _ _ ⟨rfl,B,hB⟩
theorem Yh {n:Nar} (hd:GZ n=0):U1 n.roles [] (n.roles.map λa=>(a,none))=0/\U1 n.roles n.roles (n.fresh.map λf=>(f.name,some f.role))=0/\U1 n.roles (n.roles++n.fresh.map Fre.name) (n.tags.map λa=>(a,none))=0:=by
 have e1:(n.roles.map λa=>((a,none):ByteArray×Option ByteArray)).map (·.1)=n.roles:=by simp[zg3z]
 have e2:(n.fresh.map λf=>((f.name,some f.role):ByteArray×Option ByteArray)).map (·.1)=n.fresh.map Fre.name:=by simp[zg3z]
 unfold GZ TT at hd;rw[Ji,Ji,zf7z,e1,e2,zg5z,zg5z]at hd;by_cases d1:U1 n.roles [] (n.roles.map λa=>(a,none))=0
 .rw[if_neg (c:=U1 n.roles [] (n.roles.map λa=>(a,none))≠0) (by simp[d1])]at hd;by_cases d2:U1 n.roles n.roles (n.fresh.map λf=>(f.name,some f.role))=0
  .rw[if_neg (by simp[d2])]at hd;exact⟨d1,d2,hd⟩
  .rw[if_pos d2]at hd;exact absurd hd d2
 .simp[d1]at hd
theorem Ki (n:Nar) (hS:n.roles.length+n.fresh.length+n.tags.length<=1048576) (hd:GZ n=0):pc Q X1 [D2 n]=some (XI n.rm n):=by
 obtain⟨d1,d2,hd⟩:=Yh hd;unfold XI B4 J7;obtain⟨name,rm,roles,fm,fresh,tm,tags,sm,steps,gm,goals⟩:=n;simp only at hd d1 d2 hS ⊢;generalize hU:(roles++fresh.map Fre.name++tags).map AV.str=U;generalize hV:((roles.map λ_=>(1:Int))++fresh.map Fre.sort++tags.map λ_=>(5:Int)).map (AV.int .i64)=V;refine Bu IP λfr hl h0=>?_;simp[IP,D2]at hl h0;simp[IP,hl,h0,F8,Q3];refine C3.mono (ch rm roles [] [] roles (by omega) d1 [.str name,sl rm 1 (roles.map .str),sl fm 3 (fresh.map Gq),sl tm 1 (tags.map .str),sl sm 7 (steps.map Q2),sl gm 5 (goals.map Be)] [.vs true 0 [],.nilm] (sl rm 1 (roles.map .str)) [] _ _ ?_ ?_ ?_ ?_ ?_ ?_) ?_<;>first|(simp[hl];done)|skip
 rintro e E4 ⟨bx,fams⟩ ⟨K,rfl,hB⟩;simp only at hB;subst hB;have M9:E4.length=51:=K.1.trans (by simp[hl]);have EO:A2 E4 1=.ptr 0 0:=B8 K 1 (by simp[hl]);have IX:A2 E4 2=.ptr 1 0:=B8 K 2 (by simp[hl]);have Od:A2 E4 3=.ptr 3 0:=B8 K 3 (by simp[hl]);clear K;simp[M9,EO,IX,Od];refine C3.mono (cg fm roles roles (roles.map λ_=>1) fresh (by omega) d2 [.str name,sl rm 1 (roles.map .str),sl fm 3 (fresh.map Gq),sl tm 1 (tags.map .str),sl sm 7 (steps.map Q2),sl gm 5 (goals.map Be)] [.vs true 0 [],.nilm] (sl rm 1 (roles.map .str)) _ _ ?_ ?_ ?_ ?_ ?_ ?_) ?_<;>first|(simp[M9,EO,IX,Od];done)|skip
 rintro e T9 ⟨bx,fams⟩ ⟨K,rfl,B,hB⟩;simp only at hB;subst hB;have M3:T9.length=51:=K.1.trans (by simp[M9]);have k1fr2:A2 T9 1=.ptr 0 0:=B8 K 1 (by simp[M9,EO]);have k2fr2:A2 T9 2=.ptr 1 0:=B8 K 2 (by simp[M9,IX]);have k3fr2:A2 T9 3=.ptr 3 0:=B8 K 3 (by simp[M9,Od]);clear K;simp[M3,k1fr2,k2fr2,k3fr2];refine C3.mono (cf tm roles (roles++fresh.map Fre.name) ((roles.map λ_=>1)++fresh.map Fre.sort) tags (by omega) hd [.str name,sl rm 1 (roles.map .str),sl fm 3 (fresh.map Gq),sl tm 1 (tags.map .str),sl sm 7 (steps.map Q2),sl gm 5 (goals.map Be)] [.vs true 0 [],.nilm] (sl rm 1 (roles.map .str)) B _ _ ?_ ?_ ?_ ?_ ?_ ?_) ?_<;>first|(simp[M3,k1fr2,k2fr2,k3fr2];done)|skip
 rintro e fr3 ⟨bx,fams⟩ ⟨K,rfl,hB⟩;simp only at hB;rw[hU,hV]at hB;subst hB;have hlfr3:fr3.length=51:=K.1.trans (by simp[M3]);have k1fr3:A2 fr3 1=.ptr 0 0:=B8 K 1 (by simp[M3,k1fr2]);have k2fr3:A2 fr3 2=.ptr 1 0:=B8 K 2 (by simp[M3,k2fr2]);have k3fr3:A2 fr3 3=.ptr 3 0:=B8 K 3 (by simp[M3,k3fr2]);clear K;have hF:∀(A C T:List AV) (B:List (List AV)) (f:List Fam),AS ⟨A::C::[.mbox U V]::T::B,f⟩ true (.mp 2)=some (.vm U V):=λ_ _ _ _ _=>Nh _ 2 U V rfl;simp[hlfr3,k1fr3,k2fr3,k3fr3,hF]
theorem WY (m:U8) (rs ns:List ByteArray) (vs:List Int) (m':U8) (l:Hg) (C4:l.length<=1099511627776) (IH:∀t∈l,pc Q D8 [.agg [sl m 1 (rs.map .str),.vm (ns.map .str) (vs.map (.int .i64))],I1 t]=some (.int .i64 (Z3 ns rs t))) (b1:C6) (fr:Fr) (h:AH) (hh:h.boxes=[[sl m 1 (rs.map .str),.vm (ns.map .str) (vs.map (.int .i64))],b1]) (hl:fr.length=46) (h2:A2 fr 2=.ptr 0 0) (h33:A2 fr 33=sl m' 4 (D1 l)) (h34:A2 fr 34=.int .i64 l.length) (h35:A2 fr 35=.int .i64 0) :
  C3 (lp (A4 (N5 Q) (B9 K8) O4) (fr,h)) λe fr' h'=>Kp O4.wr fr fr'/\(e=.exit 0/\C0 (Z3 ns rs) l=0\/e=.ret/\A2 fr' 4=.int .i64 (C0 (Z3 ns rs) l)):=by
 refine C1 rfl fr (λn fr h'=>∃(i:Nat),i+n=l.length/\A2 fr 35=.int .i64 (i:Nat)/\(∃B,h'.boxes=[sl m 1 (rs.map .str),.vm (ns.map .str) (vs.map (.int .i64))]::B)/\C0 (Z3 ns rs) (l.drop i)=C0 (Z3 ns rs) l) ?_ l.length h ⟨0,by omega,h35,⟨_,hh⟩,rfl⟩;rintro J Φ hJ hΦ n E4 H1 K ⟨i,hi,k35,hr⟩;have A6:=K.1.trans hl;have k2:=B8 K 2 h2;have k33:=B8 K 33 h33;have k34:=B8 K 34 h34;clear K;by_cases A9:i<l.length
 .have j0:=C9 i (by omega);obtain⟨⟨B,hB⟩,hr⟩:=hr;obtain⟨bx,fams⟩:=H1;simp only at hB;subst hB;have hx:=Et A9;have hI:=IH l[i] (zg4z A9);rw[zf1z A9]at hr;simp only[C0]at hr;generalize l[i]=t at *
  generalize Z3 ns rs t=v at *
  by_cases hz:v=0
  .rw[if_neg (by simp[hz])]at hr;simp[O4,A6,k2,k33,k34,k35,A9,j0,hx,hI,hz];exact H0 hJ ⟨i+1,by omega,by simp[A6],⟨_,rfl⟩,hr⟩
  .rw[if_pos hz]at hr;simp[O4,A6,k2,k33,k34,k35,A9,j0,hx,hI,hz];exact hΦ _ _ _ (.inr ⟨rfl,by simp[A6,hr]⟩)
 .obtain⟨_,hr⟩:=hr;rw[zf2z (by omega)]at hr;simp[O4,A6,k2,k33,k34,k35,A9];exact hΦ _ _ _ (.inl ⟨rfl,hr.symm⟩)
theorem dQ (m:U8) (rs ns:List ByteArray) (vs:List Int) (hr:rs.length<=1048576) (hkv:ns.length=vs.length) (g:Gol) (hg:Tm.sizes g.data<=1099511627776) :
  pc Q K8 [.agg [sl m 1 (rs.map .str),.vm (ns.map .str) (vs.map (.int .i64))],Be g]=some (.int .i64 (EB ns rs g)):=by
 have C4:=Tm.length_le g.data;have IW:=WY m rs ns vs g.dm g.data (by omega) (λt ht=>Xu m rs ns vs hr hkv _ t (zg8z _) (by have:=Tm.size_le ht;omega));have hC:=DG m rs g.role hr;have hT:=dR m rs (ns.map .str) (vs.map (.int .i64)) hr g.role g.wth;have hE:EB ns rs g=if rs.any (V4 g.role)=false then 13 else if Hh g=true/\HX rs g.role g.wth≠0 then HX rs g.role g.wth else C0 (Z3 ns rs) g.data:=rfl
 have hA:Hh g=(decide (g.kind=2)||decide (g.kind=3)):=rfl;generalize EB ns rs g=z at *
 generalize rs.any (V4 g.role)=b at *
 generalize HX rs g.role g.wth=w at *
 generalize Hh g=ab at *
 refine Fe O3 λfr hl h0 h1=>?_;simp[O3]at hl h0 h1;have key:∀(E4:Fr) (h:AH),z=C0 (Z3 ns rs) g.data->E4.length=46->A2 E4 2=.ptr 0 0->A2 E4 33=sl g.dm 4 (D1 g.data)->A2 E4 34=.int .i64 g.data.length->A2 E4 35=.int .i64 0->(∃b1,h.boxes=[[sl m 1 (rs.map .str),.vm (ns.map .str) (vs.map (.int .i64))],b1]) ->
   C3 (lp (A4 (N5 Q) (B9 K8) O4) (E4,h)) (BL 0 (SQ (N5 Q) (B9 K8) (.seq (.region false [⟨some 4,.mov (.c (.int .i64 0)),none⟩]) .ret) (Vh [.tmp 4] (.int .i64 z)))):=by
  rintro E4 h rfl hl q2 q33 q34 q35 ⟨b1,hb⟩;refine C3.mono (IW b1 E4 h hb hl q2 q33 q34 q35) ?_;rintro e T9 h2 ⟨K,⟨rfl,hz⟩|⟨rfl,k4⟩⟩
  .have FN:=K.1.trans hl;simp[FN,hz]
  .simp[k4]
 cases b with
 |false =>
  rw[if_pos rfl]at hE;simp[O3,hl,h0,h1,hC,hE]
 |true =>
  rw[if_neg (by simp)]at hE;have fin:ab=false\/w=0->z=C0 (Z3 ns rs) g.data:=by
   intro h;rw[if_neg (by rintro⟨a,b⟩;rcases h with h|h;simp[h]at a;exact b h)]at hE
   exact hE
  by_cases k2:g.kind=2
  .have ea:ab=true:=by simp[hA,k2]
   by_cases hw:w=0
   .simp[O3,hl,h0,h1,hC,A7 k2,hT,hw];exact key _ _ (fin (.inr hw)) (by simp[hl]) (by simp[hl]) (by simp[hl]) (by simp[hl]) (by simp[hl]) ⟨_,rfl⟩
   .rw[if_pos ⟨ea,hw⟩]at hE;simp[O3,hl,h0,h1,hC,A7 k2,hT,hw,hE]
  .by_cases k3:g.kind=3
   .have ea:ab=true:=by simp[hA,k3]
    by_cases hw:w=0
    .simp[O3,hl,h0,h1,hC,A0 k2,A7 k3,hT,hw];exact key _ _ (fin (.inr hw)) (by simp[hl]) (by simp[hl]) (by simp[hl]) (by simp[hl]) (by simp[hl]) ⟨_,rfl⟩
    .rw[if_pos ⟨ea,hw⟩]at hE;simp[O3,hl,h0,h1,hC,A0 k2,A7 k3,hT,hw,hE]
   .have ea:ab=false:=by simp[hA,k2,k3]
    simp[O3,hl,h0,h1,hC,A0 k2,A0 k3];exact key _ _ (fin (.inl ea)) (by simp[hl]) (by simp[hl]) (by simp[hl]) (by simp[hl]) (by simp[hl]) ⟨_,rfl⟩
theorem UB (m:U8) (rs ns:List ByteArray) (vs:List Int) (hr:rs.length<=1048576) (m':U8) (l:List Ste) (C4:l.length<=1099511627776) (IH:∀s∈l,pc Q D8 [.agg [sl m 1 (rs.map .str),.vm (ns.map .str) (vs.map (.int .i64))],I1 s.msg]=some (.int .i64 (Z3 ns rs s.msg))) (A:C6) (fr:Fr) (h:AH) (hh:h.boxes=[A,[sl m 1 (rs.map .str),.vm (ns.map .str) (vs.map (.int .i64))]]) (hl:fr.length=66) (h6:A2 fr 6=.ptr 1 0) (h26:A2 fr 26=sl m' 7 (l.map Q2)) (h27:A2 fr 27=.int .i64 l.length) (h28:A2 fr 28=.int .i64 0) :
  C3 (lp (A4 (N5 Q) (B9 As) i8) (fr,h)) λe fr' h'=>Kp i8.wr fr fr'/\(e=.exit 0/\M4 (DI ns rs) Ste.line l=(0,0)/\(∃B,h'.boxes=A::[sl m 1 (rs.map .str),.vm (ns.map .str) (vs.map (.int .i64))]::B)\/e=.ret/\A2 fr' 2=.int .i64 (M4 (DI ns rs) Ste.line l).1/\A2 fr' 3=.int .i64 (M4 (DI ns rs) Ste.line l).2/\M4 (DI ns rs) Ste.line l≠(0,0)):=by
 refine C1 rfl fr (λn fr h'=>∃(i:Nat),i+n=l.length/\A2 fr 28=.int .i64 (i:Nat)/\(∃B,h'.boxes=A::[sl m 1 (rs.map .str),.vm (ns.map .str) (vs.map (.int .i64))]::B)/\M4 (DI ns rs) Ste.line (l.drop i)=M4 (DI ns rs) Ste.line l) ?_ l.length h ⟨0,by omega,h28,⟨_,hh⟩,rfl⟩;rintro J Φ hJ hΦ n E4 H1 K ⟨i,hi,k28,hr⟩;have A6:=K.1.trans hl;have k6:=B8 K 6 h6;have k26:=B8 K 26 h26;have k27:=B8 K 27 h27;clear K;by_cases A9:i<l.length
 .have j0:=C9 i (by omega);obtain⟨⟨B,hB⟩,hr⟩:=hr;obtain⟨bx,fams⟩:=H1;simp only at hB;subst hB;have hx:=E5 (f:=Q2) (zf3z A9);have hI:=IH l[i] (zg4z A9);have hT:=dR m rs (ns.map .str) (vs.map (.int .i64)) (by omega) l[i].frm l[i].to;rw[zf1z A9]at hr;simp only[M4]at hr;have hE:DI ns rs l[i]=if HX rs l[i].frm l[i].to≠0 then HX rs l[i].frm l[i].to else Z3 ns rs l[i].msg:=rfl
  generalize l[i]=t at *
  generalize Z3 ns rs t.msg=v at *
  generalize HX rs t.frm t.to=w at *
  generalize DI ns rs t=z at *
  generalize hgl:M4 (DI ns rs) Ste.line l=L at *
  by_cases hw:w=0
  .rw[if_neg (by simp[hw])]at hE;subst hE;by_cases hz:z=0
   .rw[if_neg (by simp[hz])]at hr;simp[i8,A6,k6,k26,k27,k28,A9,j0,hx,hT,hw,hI,hz];exact H0 hJ ⟨i+1,by omega,by simp[A6],⟨_,rfl⟩,hr⟩
   .rw[if_pos hz]at hr;simp[i8,A6,k6,k26,k27,k28,A9,j0,hx,hT,hw,hI,hz];exact hΦ _ _ _ (.inr ⟨rfl,by simp[A6,←hr],by simp[A6,←hr],by simp[←hr,hz]⟩)
  .rw[if_pos hw]at hE;rw[hE,if_pos hw]at hr;simp[i8,A6,k6,k26,k27,k28,A9,j0,hx,hT,hw];exact hΦ _ _ _ (.inr ⟨rfl,by simp[A6,←hr],by simp[A6,←hr],by simp[←hr,hw]⟩)
 .obtain⟨hh',hr⟩:=hr;rw[zf2z (by omega)]at hr;simp[i8,A6,k6,k26,k27,k28,A9];exact hΦ _ _ _ (.inl ⟨rfl,hr.symm,hh'⟩)
theorem UA (m:U8) (rs ns:List ByteArray) (vs:List Int) (m':U8) (l:List Gol) (C4:l.length<=1099511627776) (IH:∀s∈l,pc Q K8 [.agg [sl m 1 (rs.map .str),.vm (ns.map .str) (vs.map (.int .i64))],Be s]=some (.int .i64 (EB ns rs s))) (A:C6) (fr:Fr) (h:AH) (hh:∃B,h.boxes=A::[sl m 1 (rs.map .str),.vm (ns.map .str) (vs.map (.int .i64))]::B) (hl:fr.length=66) (h6:A2 fr 6=.ptr 1 0) (h51:A2 fr 51=sl m' 5 (l.map Be)) (h52:A2 fr 52=.int .i64 l.length) (h53:A2 fr 53=.int .i64 0) :
  C3 (lp (A4 (N5 Q) (B9 As) AJ) (fr,h)) λe fr' h'=>Kp AJ.wr fr fr'/\(e=.exit 2/\M4 (EB ns rs) Gol.line l=(0,0)\/e=.ret/\A2 fr' 2=.int .i64 (M4 (EB ns rs) Gol.line l).1/\A2 fr' 3=.int .i64 (M4 (EB ns rs) Gol.line l).2):=by
 refine C1 rfl fr (λn fr h'=>∃(i:Nat),i+n=l.length/\A2 fr 53=.int .i64 (i:Nat)/\(∃B,h'.boxes=A::[sl m 1 (rs.map .str),.vm (ns.map .str) (vs.map (.int .i64))]::B)/\M4 (EB ns rs) Gol.line (l.drop i)=M4 (EB ns rs) Gol.line l) ?_ l.length h ⟨0,by omega,h53,hh,rfl⟩;rintro J Φ hJ hΦ n E4 H1 K ⟨i,hi,k53,hr⟩;have A6:=K.1.trans hl;have k6:=B8 K 6 h6;have k51:=B8 K 51 h51;have k52:=B8 K 52 h52;clear K;by_cases A9:i<l.length
 .have j0:=C9 i (by omega);obtain⟨⟨B,hB⟩,hr⟩:=hr;obtain⟨bx,fams⟩:=H1;simp only at hB;subst hB;have hx:=E5 (f:=Be) (zf3z A9);have hI:=IH l[i] (zg4z A9);rw[zf1z A9]at hr;simp only[M4]at hr;generalize l[i]=t at *
  generalize EB ns rs t=z at *
  generalize hgl:M4 (EB ns rs) Gol.line l=L at *
  by_cases hz:z=0
  .rw[if_neg (by simp[hz])]at hr;simp[AJ,A6,k6,k51,k52,k53,A9,j0,hx,hI,hz];exact H0 hJ ⟨i+1,by omega,by simp[A6],⟨_,rfl⟩,hr⟩
  .rw[if_pos hz]at hr;simp[AJ,A6,k6,k51,k52,k53,A9,j0,hx,hI,hz];exact hΦ _ _ _ (.inr ⟨rfl,by simp[A6,←hr],by simp[A6,←hr]⟩)
 .obtain⟨hh',hr⟩:=hr;rw[zf2z (by omega)]at hr;simp[AJ,A6,k6,k51,k52,k53,A9];exact hΦ _ _ _ (.inl ⟨rfl,hr.symm⟩)
theorem HS (n:Nar):(B4 n).length=(J7 n).length:=by simp[B4,J7]
theorem NE (n:Nar) (F:Fine n) (hS:n.roles.length+n.fresh.length+n.tags.length<=1048576):pc Q As [D2 n]=some (.tup [.int .i64 (Bv n).1,.int .i64 (Bv n).2]):=by
 have hV:=UZ n F;have hD:=UW n hS;have l1:=F.stepsL;have l2:=F.goalsL;have fs:=F.steps;have fg:=F.goals;have hT:∀t:Tm,t.size<=1099511627776->pc Q D8 [XI n.rm n,I1 t]=some (.int .i64 (Z3 (B4 n) n.roles t)):=λt ht=>Xu n.rm n.roles (B4 n) (J7 n) (by omega) (HS n) _ t (zg8z _) ht;have hG:∀g:Gol,Tm.sizes g.data<=1099511627776->pc Q K8 [XI n.rm n,Be g]=some (.int .i64 (EB (B4 n) n.roles g)):=λg hg=>dQ n.rm n.roles (B4 n) (J7 n) (by omega) (HS n) g hg;have hE:Bv n=if JB n≠0 then (0,JB n)else if GZ n≠0 then (0,GZ n)
  else if M4 (DI (B4 n) n.roles) Ste.line n.steps≠(0,0)then M4 (DI (B4 n) n.roles) Ste.line n.steps else M4 (EB (B4 n) n.roles) Gol.line n.goals:=rfl
 have hN:GZ n=0->pc Q X1 [D2 n]=some (XI n.rm n):=Ki n hS;unfold XI at hT hG hN;generalize Bv n=z at *
 generalize JB n=e1 at *
 generalize GZ n=e2 at *
 generalize B4 n=ns at *
 generalize J7 n=vs at *
 clear F;obtain⟨name,rm,roles,fm,fresh,tm,tags,sm,steps,gm,goals⟩:=n;simp only at *
 have q1:=UB rm roles ns vs (by omega) sm steps l1 (λs hs=>hT _ (fs s hs).2.2) [.str name,sl rm 1 (roles.map .str),sl fm 3 (fresh.map Gq),sl tm 1 (tags.map .str),sl sm 7 (steps.map Q2),sl gm 5 (goals.map Be)];have q2:=UA rm roles ns vs gm goals l2 (λg hg=>hG g (fg g hg).2.2) [.str name,sl rm 1 (roles.map .str),sl fm 3 (fresh.map Gq),sl tm 1 (tags.map .str),sl sm 7 (steps.map Q2),sl gm 5 (goals.map Be)];clear hT hG;generalize M4 (DI ns roles) Ste.line steps=L1 at *
 generalize M4 (EB ns roles) Gol.line goals=L2 at *
 refine Bu Do λfr hl h0=>?_;simp[Do,D2]at hl h0;simp only[D2]at hV hD hN;by_cases z1:e1=0
 .rw[if_neg (by simp[z1])]at hE;by_cases z2:e2=0
  .rw[if_neg (by simp[z2])]at hE;have hN:=hN z2;generalize hU:ns.map AV.str=U at *
   generalize hW:vs.map (AV.int .i64)=W at *
   simp[Do,hl,h0,hV,z1,hD,z2,hN];refine C3.mono (q1 _ _ ?_ ?_ ?_ ?_ ?_ ?_) ?_<;>first|(simp[hl];done)|skip
   rintro e E4 ⟨bx,fams⟩ ⟨K,⟨rfl,hz,B,hB⟩|⟨rfl,k2,k3,hz⟩⟩
   .simp only at hB;subst hB;have M9:E4.length=66:=K.1.trans (by simp[hl]);have EO:A2 E4 1=.ptr 0 0:=B8 K 1 (by simp[hl]);have ij:A2 E4 6=.ptr 1 0:=B8 K 6 (by simp[hl]);clear K;rw[if_neg (by simp[hz])]at hE;simp[M9,EO,ij];refine C3.mono (q2 _ _ ?_ ?_ ?_ ?_ ?_ ?_) ?_<;>first|(simp[M9,EO,ij];done)|skip
    rintro e T9 h2 ⟨K,⟨rfl,hz⟩|⟨rfl,k2,k3⟩⟩
    .have M3:T9.length=66:=K.1.trans (by simp[M9]);clear K;simp[M3,hE,hz]
    .simp[k2,k3,hE]
   .rw[if_pos hz]at hE;simp[k2,k3,hE]
  .rw[if_pos z2]at hE;simp[Do,hl,h0,hV,z1,hD,z2,hE]
 .rw[if_pos z1]at hE;simp[Do,hl,h0,hV,z1,hE]
def W6 (ns:List ByteArray) (vs:List Int) (a:ByteArray):Int:=if ns.any (V4 a)=true then vs.getD (idx (V4 a) ns).toNat 0 else 0
mutual
def ED (f:ByteArray->Int):Tm->Tm
 | .mk k nm s _ l=>.mk k nm (if k=2 then f nm else s) (false,false) (a7 f l)
def a7 (f:ByteArray->Int):List Tm->List Tm
 | []=>[]
 |t::l=>ED f t::a7 f l
end
mutual
def Hw:Tm->Tm
 | .mk k nm s _ l=>.mk k nm s (false,false) (AR l)
def AR:List Tm->List Tm
 | []=>[]
 |t::l=>Hw t::AR l
end
theorem EU (f:ByteArray->Int) (l:Hg):a7 f l=l.map (ED f):=by
 induction l with
 |nil=>rfl
 |cons t l ih=>simp[a7,ih]
theorem Ef (l:Hg):AR l=l.map Hw:=by
 induction l with
 |nil=>rfl
 |cons t l ih=>simp[AR,ih]
theorem eO (ns:List ByteArray) (vs:List Int) (hkv:ns.length=vs.length) (h:AH) (a:R7) :
  Eh true false (.int .i64 0) h (.vm (ns.map .str) (vs.map (.int .i64))) (.str a)=some (.int .i64 (W6 ns vs a),h):=by
 cases hk:ns.any (V4 a)with
 |false=>simp[Eh,LY,w9,Iu a ns 0 hk,W6,hk]
 |true =>
  have hge:=(FS (V4 a) ns 0).2 hk;have A9:=Iv (V4 a) ns 0;have hi:(j9 (V4 a) 0 ns).toNat<vs.length:=by omega
  simp[Eh,LY,w9,Kv a ns 0 hk,hi,W6,hk,idx]
theorem Wz (ns:List ByteArray) (vs:List Int) (hkv:ns.length=vs.length) (r x0 x2 x3:AV) (nm:R7) (h:AH) (hb:h.boxes[0]?=some [x0,.str nm,x2,x3]) :
  ∃w h',rc Q T0 [.ptr 0 0,.pv [r,.vm (ns.map .str) (vs.map (.int .i64))]] h=some (w,h')/\w=.tup []/\h'={h with boxes:=h.boxes.set 0 [x0,.str nm,.int .i64 (W6 ns vs nm),x3]}:=by
 have hM:=eO ns vs hkv h nm;have A9:=Q6 hb;refine tu FH λfr hl h0 h1=>?_;simp[FH]at hl h0 h1;simp[FH,hl,h0,h1,hb,hM]
def VW (r:AV) (ns:List ByteArray) (vs:List Int):AV:=.fn T0 [.pv [r,.vm (ns.map .str) (vs.map (.int .i64))]]
@[simp] theorem qq (h:AH) (am:Bool) (r:AV) (ns:List ByteArray) (vs:List Int):frz h am (VW r ns vs)=some (VW r ns vs):=rfl
@[simp] theorem mh (h:AH) (r:AV) (ns:List ByteArray) (vs:List Int):tame h (VW r ns vs)=true:=rfl
def zT:AV:=.agg [.int .i64 0,.str (bs []),.int .i64 0,.vs true 0 []]
theorem Rw (by':AV) (f:ByteArray->Int) (m:U8) (l:Hg) (C4:l.length<=1099511627776) (hby:∀h am,frz h am by'=some by') (hby2:∀h,tame h by'=true) (IH:∀t∈l,∃t',pc Q E6 [I1 t,by']=some (I1 t')/\Hw t'=ED f t) (A C:C6) (fr:Fr) (h:AH) (hh:h=⟨[A,C],[⟨zf8z l.length zT,4,true⟩]⟩) (hl:fr.length=36) (h1:A2 fr 1=by') (h5:A2 fr 5=.sl 0 l.length 0 l.length) (h19:A2 fr 19=sl m 4 (D1 l)) (h20:A2 fr 20=.int .i64 l.length) (h21:A2 fr 21=.int .i64 0) :
  C3 (lp (A4 (N5 Q) (B9 E6) Ak) (fr,h)) λe fr' h'=>Kp Ak.wr fr fr'/\e=.exit 0/\∃B done,h'=⟨A::C::B,[⟨D1 done,4,true⟩]⟩/\AR done=a7 f l/\done.length=l.length:=by
 refine C1 rfl fr (λn fr h'=>∃(i:Nat),i+n=l.length/\A2 fr 21=.int .i64 (i:Nat)/\(∃B done,h'=⟨A::C::B,[⟨D1 done++zf8z (l.length-i) zT,4,true⟩]⟩/\AR done=a7 f (l.take i)/\done.length=i)) ?_ l.length h ⟨0,by omega,h21,⟨[],[],by simp[hh,D1],by simp[AR,a7],rfl⟩⟩;rintro J Φ hJ hΦ n E4 H1 K ⟨i,hi,k21,hr⟩;have A6:=K.1.trans hl;have k1:=B8 K 1 h1;have k5:=B8 K 5 h5;have k19:=B8 K 19 h19;have k20:=B8 K 20 h20;clear K;by_cases A9:i<l.length
 .have j0:=C9 i (by omega);obtain⟨B,done,rfl,hd,Gr⟩:=hr;have hx:=Et A9;obtain⟨t',hI,ht⟩:=IH l[i] (zg4z A9);have e1:l.length-i=(l.length-(i+1))+1:=by omega
  have e2:AR (done++[t'])=a7 f (l.take (i+1)):=by
   rw[zf0z A9,Ef,zf7z,←Ef,hd,EU,EU,zf7z,zf6z,zf9z,zf6z,zf9z,ht]
  have e3:(D1 done++zf8z (l.length-i) zT).set i (I1 t')=D1 (done++[t'])++zf8z (l.length-(i+1)) zT:=by
   rw[e1,zg7z,List.set_append_right _ _ (by simp[Gr]),Il];simp[Gr]
  have e4:(D1 done++zf8z (l.length-i) zT)[i]?=some zT:=by
   rw[e1,zg7z,List.getElem?_append_right (by simp[Gr])];simp[Gr]
  have e5:(D1 done++zf8z (l.length-i) zT).length=l.length:=by simp[Gr];omega
  clear ht hd;generalize l[i]=t at *
  generalize D1 done++zf8z (l.length-i) zT=X at *
  have e6:(AV.agg [.int .i64 t'.kind,.str t'.name,.int .i64 t'.sort,sl t'.cm 4 (D1 t'.kids)])=I1 t':=kf t';obtain⟨_,e7⟩:=List.getElem?_eq_some_iff.1 e4;simp[Ak,A6,k1,k5,k19,k20,k21,A9,j0,hx,hI,hby,hby2,e7,e5,zT,AV.reform];exact H0 hJ ⟨i+1,by omega,by simp[A6],⟨_,done++[t'],by rw[e3],e2,by simp[Gr]⟩⟩
 .obtain⟨B,done,rfl,hd,Gr⟩:=hr;have e:i=l.length:=by omega
  subst e;rw[List.take_length]at hd;simp[Ak,A6,k1,k5,k19,k20,k21,A9];exact hΦ _ _ _ ⟨rfl,B,done,by simp,hd,Gr⟩
theorem Ou (r:AV) (hr:r.flat=true) (ns:List ByteArray) (vs:List Int) (hkv:ns.length=vs.length):∀(n:Nat) (t:Tm),t.size<=n->t.size<=1099511627776->N9 t=0->∃t',pc Q E6 [I1 t,VW r ns vs]=some (I1 t')/\Hw t'=ED (W6 ns vs) t:=by
 intro n
 induction n with
 |zero=>intro t h;have:=t.size_pos;omega
 |succ n ih =>
  intro t hn hb T6;obtain⟨k,nm,s,m,kids⟩:=t;have L4:Tm.size (.mk k nm s m kids)=1+Tm.sizes kids:=rfl;have C4:=Tm.length_le kids;obtain⟨hne1,hne2⟩:=Dz T6;have hnb:=(JC hne1).2.1;have IW:=Rw (VW r ns vs) (W6 ns vs) m kids (by omega) (λ_ _=>rfl) (λ_=>rfl) (λt ht=>ih t (by have:=Tm.size_le ht;omega) (by have:=Tm.size_le ht;omega) (Z0 hne2 t ht))
  suffices h:∃v,pc Q E6 [I1 (.mk k nm s m kids),VW r ns vs]=some v/\∃t',v=I1 t'/\Hw t'=ED (W6 ns vs) (.mk k nm s m kids) by
   obtain⟨v,h1,t',rfl,h2⟩:=h;exact⟨t',h1,h2⟩
  refine Ud Du λΨ hΨ fr hl h0 h1=>?_;simp[Du,I1]at hl h0 h1;by_cases hk:k=2
  .have hkd:kids=[]:=List.eq_nil_of_length_eq_zero (hnb (.inr hk));have hS:=λ(h:AH) (hb:h.boxes[0]?=some [.int .i64 k,.str nm,.int .i64 s,sl m 4 (D1 kids)])=>Wz ns vs hkv r _ _ _ nm h hb;obtain⟨w,h',q1,q2,q3⟩:=hS ⟨[[.int .i64 k,.str nm,.int .i64 s,sl m 4 (D1 kids)],[.int .i64 0,.str (bs []),.int .i64 0,.vs true 0 []]],[]⟩ rfl;simp only[zg1z]at q3;subst q2 q3;simp[Du,hl,h0,h1,VW,A7 hk,q1];exact hΨ _ ⟨.mk k nm (W6 ns vs nm) m kids,rfl,by subst hkd;simp[Hw,AR,ED,a7,hk]⟩
  .have r1:(kids.length:Int)*56<=(I0:Int)/\kids.length<=maxLen:=by simp only[I0,maxLen];omega
   simp[Du,hl,h0,h1,A0 hk,r1];refine C3.mono (IW [.int .i64 k,.str nm,.int .i64 s,sl m 4 (D1 kids)] [.int .i64 0,.str (bs []),.int .i64 0,.vs true 0 []] _ _ ?_ ?_ ?_ ?_ ?_ ?_ ?_) ?_<;>first|(simp[hl,h1];done)|rfl|skip
   rintro e E4 h1 ⟨K,rfl,B,done,rfl,hd,Gr⟩;have M9:E4.length=36:=K.1.trans (by simp[hl]);have IX:A2 E4 2=.ptr 0 0:=B8 K 2 (by simp[hl]);have IY:A2 E4 4=.ptr 1 0:=B8 K 4 (by simp[hl]);have ot:A2 E4 5=.sl 0 kids.length 0 kids.length:=B8 K 5 (by simp[hl]);clear K;have e1:List.take kids.length (D1 done)=D1 done:=zf5z (by simp[Gr]);simp[M9,IX,IY,ot,e1,Gr];exact hΨ _ ⟨.mk k nm s (false,true) done,rfl,by simp[Hw,ED,hk,hd]⟩
end Go.Abs.Q
