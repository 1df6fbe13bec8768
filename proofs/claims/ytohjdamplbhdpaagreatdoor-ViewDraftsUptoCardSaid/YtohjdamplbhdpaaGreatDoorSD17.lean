/- A part of the proof. -/
import Derived.Test.YtohjdamplbhdpaaGreatDoorSD16
set_option linter.all false
open List renaming take_succ_eq_append_getElem->oD,drop_eq_getElem_cons->xX,drop_eq_nil_of_le->xY,getElem?_eq_getElem->xZ,append_assoc->xa,take_of_length_le->xb,map_cons->xc,map_append->xd,replicate->xe,map_nil->xf,append_nil->xg,set_cons_zero->xh,set_cons_succ->xi,getElem_mem->xk,nil_append->xl,take_zero->xm,replicate_succ->xn
open Function renaming comp_def->xj
open Nat renaming le_refl->xo
namespace Go.Abs.Q
open Go.Proofs
attribute [local simp] D1 D4 fin I2 G0 K7 I3 N4 O5
theorem Vw {α β:Type} (f:α->β) {l:List α} {i:Nat} (h:i<l.length):(l.map f).take (i+1)=(l.map f).take i++[f l[i]]:=by
 rw[oD (by simpa using h)];simp
theorem dD (m m0:J0) (rs seen:List ByteArray) (hrs:rs.length<=1048576) (l:List Fre) (C2:seen.length+l.length<=1048576) (a0 a2 a3 a4 a5:AV) (fr:Fr) (h:AH) (hh:∃v B,h.boxes=[a0,sl m0 1 (rs.map .str),a2,a3,a4,a5]::[v]::B/\Mq 1 (seen.map .str) v h) (hl:fr.length=64) (h1:A0 fr 1=.ptr 0 0) (h4:A0 fr 4=.fn J5 [.ptr 1 0]) (h30:A0 fr 30=sl m 3 (l.map Gq)) (h31:A0 fr 31=.int .i64 l.length) (h32:A0 fr 32=.int .i64 0) :
  C8 (lp (A1 (Q8 Q) (G8 Q3) R3) (fr,h)) λe D3 h'=>Kp R3.wr fr D3/\(e=.exit 2/\V8 rs seen (l.map λf=>(f.name,some f.role))=0/\(∃v B,h'.boxes=[a0,sl m0 1 (rs.map .str),a2,a3,a4,a5]::[v]::B/\Mq 1 ((seen++l.map Fre.name).map .str) v h')\/e=.ret/\A0 D3 2=.int .i64 (V8 rs seen (l.map λf=>(f.name,some f.role)))/\V8 rs seen (l.map λf=>(f.name,some f.role))≠0):=by
 refine C3 rfl fr (λn fr h'=>∃(i:Nat),i+n=l.length/\A0 fr 32=.int .i64 (i:Nat)/\(∃v B,h'.boxes=[a0,sl m0 1 (rs.map .str),a2,a3,a4,a5]::[v]::B/\Mq 1 ((seen++(l.map Fre.name).take i).map .str) v h')/\V8 rs (seen++(l.map Fre.name).take i) ((l.drop i).map λf=>(f.name,some f.role))=V8 rs seen (l.map λf=>(f.name,some f.role))) ?_ l.length h ⟨0,by omega,h32,by simpa using hh,by simp⟩;rintro J Φ hJ hΦ n H0 H1 K ⟨i,hi,k32,hr⟩;have B5:=K.1.trans hl;have k1:=A5 K 1 h1;have k4:=A5 K 4 h4;have k30:=A5 K 30 h30;have k31:=A5 K 31 h31;clear K;by_cases A7:i<l.length
 .have V9:=E6 i (by omega);obtain⟨⟨v,B,hB,hg⟩,hr⟩:=hr;have hx:=H8 (f:=Gq) (xZ A7);have hC:=Dv m0 rs l[i].role hrs;obtain⟨bx,fams⟩:=H1;simp only at hB;subst hB;obtain⟨w,h',hN,hw2,hz⟩:=Vo ⟨[a0,sl m0 1 (rs.map .str),a2,a3,a4,a5]::[v]::(B++[(Gq l[i]).cells]),fams⟩ _ v rfl (FN hg rfl) (by simp;omega) l[i].name true;subst hw2;rw[xX A7,xc]at hr;rw[To]at hr;by_cases Rg:Hr (seen++(l.map Fre.name).take i) l[i].name true=0
  .obtain⟨v',hb',DF⟩:=hz Rg;rw[if_neg (by simp[Rg])]at hr;simp only[xi,xh]at hb';simp only[Oe]at hN hb';cases hq:rs.any (BR l[i].role)with
   |true =>
    rw[hq]at hC hr;rw[if_neg (by simp)]at hr;simp[R3,B5,k1,k4,k30,k31,k32,A7,V9,hx,hN,Rg,hb',hC];exact O9 hJ ⟨i+1,by omega,by simp[B5],⟨v',_,hb',by rw[Vw _ A7,←xa];exact FN DF rfl⟩,by rw[Vw _ A7,←xa];exact hr⟩
   |false =>
    rw[hq]at hC hr;rw[if_pos rfl]at hr;simp[R3,B5,k1,k4,k30,k31,k32,A7,hx,hN,Rg,hb',hC];exact hΦ _ _ _ (.inr ⟨rfl,by rw[←hr];simp[B5],by rw[←hr];omega⟩)
  .rw[if_pos Rg]at hr;simp only[Oe]at hN;simp[R3,B5,k4,k30,k31,k32,A7,hx,hN,Rg];exact hΦ _ _ _ (.inr ⟨rfl,by simp[B5,hr],by rw[←hr];exact Rg⟩)
 .obtain⟨hh',hr⟩:=hr;rw[xY (by omega)]at hr;rw[xb (by simp;omega)]at hr hh';simp only[xf,V8]at hr;simp[R3,B5,k31,k32,A7];exact hΦ _ _ _ (.inl ⟨rfl,hr.symm,hh'⟩)
theorem Xh (n:Nar) (hS:n.roles.length+n.fresh.length+n.tags.length<=1048576):pc Q Q3 [X7 n]=some (.int .i64 (Hf n)):=by
 have hE:Hf n=if V8 n.roles [] (n.roles.map λa=>(a,none))≠0 then V8 n.roles [] (n.roles.map λa=>(a,none))
   else if V8 n.roles n.roles (n.fresh.map λf=>(f.name,some f.role))≠0 then V8 n.roles n.roles (n.fresh.map λf=>(f.name,some f.role))
   else V8 n.roles (n.roles++n.fresh.map Fre.name) (n.tags.map λa=>(a,none)):=by
  unfold Hf TE;rw[Lq,Lq];have e1:(n.roles.map λa=>((a,none):ByteArray×Option ByteArray)).map (·.1)=n.roles:=by simp[xj]
  have e2:(n.fresh.map λf=>((f.name,some f.role):ByteArray×Option ByteArray)).map (·.1)=n.fresh.map Fre.name:=by simp[xj]
  rw[xd,e1,e2,xl];split<;>simp_all
 generalize Hf n=z at *
 obtain⟨name,rm,roles,fm,fresh,tm,tags,sm,steps,gm,goals⟩:=n;simp only at hE hS;refine N0 Gg λfr hl h0=>?_;simp[Gg,X7]at hl h0;simp[Gg,hl,h0];refine C8.mono (dE rm roles [] roles (by simp;omega) [.str name,sl rm 1 (roles.map .str),sl fm 3 (fresh.map Gq),sl tm 1 (tags.map .str),sl sm 7 (steps.map Ci),sl gm 5 (goals.map DP)] _ _ ?_ ?_ ?_ ?_ ?_ ?_) ?_<;>first|(simp[hl];done)|skip
 .exact⟨_,_,rfl,OJ _ _⟩
 rintro e H0 h1 ⟨K,⟨rfl,hz,hh⟩|⟨rfl,k2,hz⟩⟩
 .have M7:H0.length=64:=K.1.trans (by simp[hl]);have GB:A0 H0 1=.ptr 0 0:=A5 K 1 (by simp[hl]);have MC:A0 H0 4=.fn J5 [.ptr 1 0]:=A5 K 4 (by simp[hl]);clear K;rw[if_neg (by simp[hz])]at hE;rw[xl]at hh;have hh0:=hh;obtain⟨v,B,hB,hg⟩:=hh;simp[M7,GB,hB];refine C8.mono (dD fm rm roles roles (by omega) fresh (by omega) _ _ _ _ _ _ h1 hh0 ?_ ?_ ?_ ?_ ?_ ?_) ?_<;>first|(simp[M7,GB,MC];done)|skip
  rintro e Cq h2 ⟨K,⟨rfl,hz,hh⟩|⟨rfl,k2,hz⟩⟩
  .have FT:Cq.length=64:=K.1.trans (by simp[M7]);have k1fr2:A0 Cq 1=.ptr 0 0:=A5 K 1 (by simp[GB]);have k4fr2:A0 Cq 4=.fn J5 [.ptr 1 0]:=A5 K 4 (by simp[MC]);clear K;rw[if_neg (by simp[hz])]at hE;have hh0:=hh;obtain⟨v,B,hB,hg⟩:=hh;simp[FT,k1fr2,hB];refine C8.mono (dC tm roles (roles++fresh.map Fre.name) tags (by simp;omega) _ _ h2 hh0 ?_ ?_ ?_ ?_ ?_) ?_<;>first|(simp[FT,k4fr2];done)|skip
   rintro e fr3 h3 ⟨K,⟨rfl,hz,hh⟩|⟨rfl,k2,hz⟩⟩
   .have hlfr3:fr3.length=64:=K.1.trans (by simp[FT]);clear K;rw[hz]at hE;simp[hlfr3,hE]
   .simp[k2,hE]
  .rw[if_pos hz]at hE;simp[k2,hE]
 .rw[if_pos hz]at hE;simp[k2,hE]
end Go.Abs.Q
namespace Go.Abs.Q
open Go.Proofs
attribute [local simp] D1 D4 fin I2 G0
theorem Qq (h:AH) (b:Nat) (ks vs:E5) (hb:h.boxes[b]?=some [.mbox ks vs]):y5 h true (.mp b)=some (.vm ks vs):=by simp[y5,hb]
@[simp] theorem oy (ks vs:E5):CG [.mbox ks vs]=true:=rfl
theorem Lr {rs seen:List ByteArray} {a:H6} {r:List (ByteArray×Option ByteArray)} (h:V8 rs seen ((a,none)::r)=0):seen.any (BR a)=false/\V8 rs (seen++[a]) r=0:=by
 rw[PY]at h;by_cases hz:Hr seen a false=0
 .rw[if_neg (by simp[hz])]at h;refine⟨?_,h⟩;unfold Hr at hz;cases hs:seen.any (BR a)with
  |false=>rfl
  |true =>
   rw[hs]at hz;split at hz<;>simp at hz
 .rw[if_pos hz]at h;exact absurd h hz
theorem RU {rs seen:List ByteArray} {a x:H6} {r:List (ByteArray×Option ByteArray)} (h:V8 rs seen ((a,some x)::r)=0):seen.any (BR a)=false/\rs.any (BR x)=true/\V8 rs (seen++[a]) r=0:=by
 rw[To]at h;by_cases hz:Hr seen a true=0
 .rw[if_neg (by simp[hz])]at h;have h2:seen.any (BR a)=false:=by
   unfold Hr at hz;cases hs:seen.any (BR a)with
   |false=>rfl
   |true =>
    rw[hs]at hz;split at hz
    .simp at hz
    .split at hz<;>simp at hz
  cases hx:rs.any (BR x)with
  |false=>rw[hx,if_pos rfl]at h;omega
  |true=>rw[hx,if_neg (by simp)]at h;exact⟨h2,rfl,h⟩
 .rw[if_pos hz]at h;exact absurd h hz
theorem gP (m:J0) (rs seen:List ByteArray) (so:List Int) (l:List ByteArray) (C2:l.length<=1048576) (hd:V8 rs seen (l.map λa=>(a,none))=0) (A C:E5) (t0:AV) (B:List (List AV)) (fr:Fr) (h:AH) (hh:h.boxes=A::C::[.mbox (seen.map .str) (so.map (.int .i64))]::[t0,.mp 2]::B) (hl:fr.length=51) (h3:A0 fr 3=.ptr 3 0) (h15:A0 fr 15=sl m 1 (l.map .str)) (h16:A0 fr 16=.int .i64 l.length) (h17:A0 fr 17=.int .i64 0) :
  C8 (lp (A1 (Q8 Q) (G8 x9) Cl) (fr,h)) λe D3 h'=>Kp Cl.wr fr D3/\e=.exit 0/\h'.boxes=A::C::[.mbox ((seen++l).map .str) ((so++l.map λ_=>(1:Int)).map (.int .i64))]::[t0,.mp 2]::B:=by
 refine C3 rfl fr (λn fr h'=>∃(i:Nat),i+n=l.length/\A0 fr 17=.int .i64 (i:Nat)/\h'.boxes=A::C::[.mbox ((seen++l.take i).map .str) ((so++(l.take i).map λ_=>(1:Int)).map (.int .i64))]::[t0,.mp 2]::B/\V8 rs (seen++l.take i) ((l.drop i).map λa=>(a,none))=0) ?_ l.length h ⟨0,by omega,h17,by rw[hh,xm,xf,xg,xg],by simpa using hd⟩;rintro J Φ hJ hΦ n H0 H1 K ⟨i,hi,k17,hr⟩;have B5:=K.1.trans hl;have k3:=A5 K 3 h3;have k15:=A5 K 15 h15;have k16:=A5 K 16 h16;clear K;by_cases A7:i<l.length
 .have V9:=E6 i (by omega);obtain⟨hB,hr⟩:=hr;obtain⟨bx,fams⟩:=H1;simp only at hB;subst hB;have hx:=H8 (f:=AV.str) (xZ A7);rw[xX A7,xc]at hr;obtain⟨q1,q2⟩:=Lr hr;have hM:=VV ⟨A::C::[.mbox ((seen++l.take i).map .str) ((so++(l.take i).map λ_=>(1:Int)).map (.int .i64))]::[t0,.mp 2]::B,fams⟩ 2 _ _ l[i] 1 rfl q1;have e1:(seen++l.take i++[l[i]])=seen++l.take (i+1):=by rw[oD A7,xa]
  have e2:(so++(l.take i).map λ_=>(1:Int)).map (AV.int .i64)++[.int .i64 1]=(so++(l.take (i+1)).map λ_=>(1:Int)).map (AV.int .i64):=by
   rw[oD A7];simp only[xd,xc,xf,xa]
  rw[e1,e2]at hM;rw[e1]at q2;simp only[xi,xh]at hM;generalize (seen++l.take i).map AV.str=U at *
  generalize (so++(l.take i).map λ_=>(1:Int)).map (AV.int .i64)=V at *
  generalize hU:(seen++l.take (i+1)).map AV.str=U' at *
  generalize hV:(so++(l.take (i+1)).map λ_=>(1:Int)).map (AV.int .i64)=V' at *
  simp[Cl,B5,k3,k15,k16,k17,A7,V9,hx,hM];exact O9 hJ ⟨i+1,by omega,by simp[B5],by rw[hU,hV],q2⟩
 .obtain⟨hB,hr⟩:=hr;rw[xY (by omega)]at hr;rw[xb (by omega)]at hB;simp[Cl,B5,k16,k17,A7];exact hΦ _ _ _ ⟨rfl,hB⟩
theorem gN (m:J0) (rs seen:List ByteArray) (so:List Int) (l:List ByteArray) (C2:l.length<=1048576) (hd:V8 rs seen (l.map λa=>(a,none))=0) (A C:E5) (t0:AV) (B:List (List AV)) (fr:Fr) (h:AH) (hh:h.boxes=A::C::[.mbox (seen.map .str) (so.map (.int .i64))]::[t0,.mp 2]::B) (hl:fr.length=51) (h3:A0 fr 3=.ptr 3 0) (h40:A0 fr 40=sl m 1 (l.map .str)) (h41:A0 fr 41=.int .i64 l.length) (h42:A0 fr 42=.int .i64 0) :
  C8 (lp (A1 (Q8 Q) (G8 x9) Cj) (fr,h)) λe D3 h'=>Kp Cj.wr fr D3/\e=.exit 4/\h'.boxes=A::C::[.mbox ((seen++l).map .str) ((so++l.map λ_=>(5:Int)).map (.int .i64))]::[t0,.mp 2]::B:=by
 refine C3 rfl fr (λn fr h'=>∃(i:Nat),i+n=l.length/\A0 fr 42=.int .i64 (i:Nat)/\h'.boxes=A::C::[.mbox ((seen++l.take i).map .str) ((so++(l.take i).map λ_=>(5:Int)).map (.int .i64))]::[t0,.mp 2]::B/\V8 rs (seen++l.take i) ((l.drop i).map λa=>(a,none))=0) ?_ l.length h ⟨0,by omega,h42,by rw[hh,xm,xf,xg,xg],by simpa using hd⟩;rintro J Φ hJ hΦ n H0 H1 K ⟨i,hi,k42,hr⟩;have B5:=K.1.trans hl;have k3:=A5 K 3 h3;have k40:=A5 K 40 h40;have k41:=A5 K 41 h41;clear K;by_cases A7:i<l.length
 .have V9:=E6 i (by omega);obtain⟨hB,hr⟩:=hr;obtain⟨bx,fams⟩:=H1;simp only at hB;subst hB;have hx:=H8 (f:=AV.str) (xZ A7);rw[xX A7,xc]at hr;obtain⟨q1,q2⟩:=Lr hr;have hM:=VV ⟨A::C::[.mbox ((seen++l.take i).map .str) ((so++(l.take i).map λ_=>(5:Int)).map (.int .i64))]::[t0,.mp 2]::B,fams⟩ 2 _ _ l[i] 5 rfl q1;have e1:(seen++l.take i++[l[i]])=seen++l.take (i+1):=by rw[oD A7,xa]
  have e2:(so++(l.take i).map λ_=>(5:Int)).map (AV.int .i64)++[.int .i64 5]=(so++(l.take (i+1)).map λ_=>(5:Int)).map (AV.int .i64):=by
   rw[oD A7];simp only[xd,xc,xf,xa]
  rw[e1,e2]at hM;rw[e1]at q2;simp only[xi,xh]at hM;generalize (seen++l.take i).map AV.str=U at *
  generalize (so++(l.take i).map λ_=>(5:Int)).map (AV.int .i64)=V at *
  generalize hU:(seen++l.take (i+1)).map AV.str=U' at *
  generalize hV:(so++(l.take (i+1)).map λ_=>(5:Int)).map (AV.int .i64)=V' at *
  simp[Cj,B5,k3,k40,k41,k42,A7,V9,hx,hM];exact O9 hJ ⟨i+1,by omega,by simp[B5],by rw[hU,hV],q2⟩
 .obtain⟨hB,hr⟩:=hr;rw[xY (by omega)]at hr;rw[xb (by omega)]at hB;simp[Cj,B5,k41,k42,A7];exact hΦ _ _ _ ⟨rfl,hB⟩
theorem gO (m:J0) (rs seen:List ByteArray) (so:List Int) (l:List Fre) (C2:l.length<=1048576) (hd:V8 rs seen (l.map λf=>(f.name,some f.role))=0) (A C:E5) (t0:AV) (fr:Fr) (h:AH) (hh:h.boxes=A::C::[.mbox (seen.map .str) (so.map (.int .i64))]::[t0,.mp 2]::[]) (hl:fr.length=51) (h3:A0 fr 3=.ptr 3 0) (h26:A0 fr 26=sl m 3 (l.map Gq)) (h27:A0 fr 27=.int .i64 l.length) (h28:A0 fr 28=.int .i64 0) :
  C8 (lp (A1 (Q8 Q) (G8 x9) Ck) (fr,h)) λe D3 h'=>Kp Ck.wr fr D3/\e=.exit 2/\∃B,h'.boxes=A::C::[.mbox ((seen++l.map Fre.name).map .str) ((so++l.map Fre.sort).map (.int .i64))]::[t0,.mp 2]::B:=by
 refine C3 rfl fr (λn fr h'=>∃(i:Nat),i+n=l.length/\A0 fr 28=.int .i64 (i:Nat)/\(∃B,h'.boxes=A::C::[.mbox ((seen++(l.map Fre.name).take i).map .str) ((so++(l.map Fre.sort).take i).map (.int .i64))]::[t0,.mp 2]::B)/\V8 rs (seen++(l.map Fre.name).take i) ((l.drop i).map λf=>(f.name,some f.role))=0) ?_ l.length h ⟨0,by omega,h28,⟨[],by rw[hh,xm,xm,xg,xg]⟩,by simpa using hd⟩;rintro J Φ hJ hΦ n H0 H1 K ⟨i,hi,k28,hr⟩;have B5:=K.1.trans hl;have k3:=A5 K 3 h3;have k26:=A5 K 26 h26;have k27:=A5 K 27 h27;clear K;by_cases A7:i<l.length
 .have V9:=E6 i (by omega);obtain⟨⟨B,hB⟩,hr⟩:=hr;obtain⟨bx,fams⟩:=H1;simp only at hB;subst hB;have hx:=H8 (f:=Gq) (xZ A7);rw[xX A7,xc]at hr;obtain⟨q1,-,q2⟩:=RU hr;have hM:=VV ⟨A::C::[.mbox ((seen++(l.map Fre.name).take i).map .str) ((so++(l.map Fre.sort).take i).map (.int .i64))]::[t0,.mp 2]::(B++[(Gq l[i]).cells]),fams⟩ 2 _ _ l[i].name l[i].sort rfl q1;have e1:(seen++(l.map Fre.name).take i++[l[i].name])=seen++(l.map Fre.name).take (i+1):=by rw[Vw _ A7,xa]
  have e2:(so++(l.map Fre.sort).take i).map (AV.int .i64)++[.int .i64 l[i].sort]=(so++(l.map Fre.sort).take (i+1)).map (AV.int .i64):=by
   rw[Vw _ A7];simp only[xd,xc,xf,xa]
  rw[e1,e2]at hM;rw[e1]at q2;simp only[xi,xh,Oe]at hM;generalize (seen++(l.map Fre.name).take i).map AV.str=U at *
  generalize (so++(l.map Fre.sort).take i).map (AV.int .i64)=V at *
  generalize hU:(seen++(l.map Fre.name).take (i+1)).map AV.str=U' at *
  generalize hV:(so++(l.map Fre.sort).take (i+1)).map (AV.int .i64)=V' at *
  simp[Ck,B5,k3,k26,k27,k28,A7,V9,hx,hM];exact O9 hJ ⟨i+1,by omega,by simp[B5],⟨_,by rw[hU,hV]⟩,q2⟩
 .obtain⟨⟨B,hB⟩,hr⟩:=hr;rw[xY (by omega)]at hr;rw[xb (by simp;omega),xb (by simp;omega)]at hB;simp[Ck,B5,k27,k28,A7];exact hΦ _ _ _ ⟨rfl,B,hB⟩
theorem cL {n:Nar} (hd:Hf n=0):V8 n.roles [] (n.roles.map λa=>(a,none))=0/\V8 n.roles n.roles (n.fresh.map λf=>(f.name,some f.role))=0/\V8 n.roles (n.roles++n.fresh.map Fre.name) (n.tags.map λa=>(a,none))=0:=by
 have e1:(n.roles.map λa=>((a,none):ByteArray×Option ByteArray)).map (·.1)=n.roles:=by simp[xj]
 have e2:(n.fresh.map λf=>((f.name,some f.role):ByteArray×Option ByteArray)).map (·.1)=n.fresh.map Fre.name:=by simp[xj]
 unfold Hf TE at hd;rw[Lq,Lq,xd,e1,e2,xl,xl]at hd;by_cases d1:V8 n.roles [] (n.roles.map λa=>(a,none))=0
 .rw[if_neg (c:=V8 n.roles [] (n.roles.map λa=>(a,none))≠0) (by simp[d1])]at hd;by_cases d2:V8 n.roles n.roles (n.fresh.map λf=>(f.name,some f.role))=0
  .rw[if_neg (by simp[d2])]at hd;exact⟨d1,d2,hd⟩
  .rw[if_pos d2]at hd;exact absurd hd d2
 .simp[d1]at hd
theorem NZ (n:Nar) (hS:n.roles.length+n.fresh.length+n.tags.length<=1048576) (hd:Hf n=0):pc Q x9 [X7 n]=some (Zv n.rm n):=by
 obtain⟨d1,d2,hd⟩:=cL hd;unfold Zv B4 D6;obtain⟨name,rm,roles,fm,fresh,tm,tags,sm,steps,gm,goals⟩:=n;simp only at hd d1 d2 hS ⊢;generalize hU:(roles++fresh.map Fre.name++tags).map AV.str=U;generalize hV:((roles.map λ_=>(1:Int))++fresh.map Fre.sort++tags.map λ_=>(5:Int)).map (AV.int .i64)=V;refine N0 Jl λfr hl h0=>?_;simp[Jl,X7]at hl h0;simp[Jl,hl,h0,D0,E7];refine C8.mono (gP rm roles [] [] roles (by omega) d1 [.str name,sl rm 1 (roles.map .str),sl fm 3 (fresh.map Gq),sl tm 1 (tags.map .str),sl sm 7 (steps.map Ci),sl gm 5 (goals.map DP)] [.vs true 0 [],.nilm] (sl rm 1 (roles.map .str)) [] _ _ ?_ ?_ ?_ ?_ ?_ ?_) ?_<;>first|(simp[hl];done)|skip
 rintro e H0 ⟨bx,fams⟩ ⟨K,rfl,hB⟩;simp only at hB;subst hB;have M7:H0.length=51:=K.1.trans (by simp[hl]);have GB:A0 H0 1=.ptr 0 0:=A5 K 1 (by simp[hl]);have FH:A0 H0 2=.ptr 1 0:=A5 K 2 (by simp[hl]);have QI:A0 H0 3=.ptr 3 0:=A5 K 3 (by simp[hl]);clear K;simp[M7,GB];refine C8.mono (gO fm roles roles (roles.map λ_=>1) fresh (by omega) d2 [.str name,sl rm 1 (roles.map .str),sl fm 3 (fresh.map Gq),sl tm 1 (tags.map .str),sl sm 7 (steps.map Ci),sl gm 5 (goals.map DP)] [.vs true 0 [],.nilm] (sl rm 1 (roles.map .str)) _ _ ?_ ?_ ?_ ?_ ?_ ?_) ?_<;>first|(simp[M7,QI];done)|skip
 rintro e Cq ⟨bx,fams⟩ ⟨K,rfl,B,hB⟩;simp only at hB;subst hB;have FT:Cq.length=51:=K.1.trans (by simp[M7]);have k1fr2:A0 Cq 1=.ptr 0 0:=A5 K 1 (by simp[GB]);have k2fr2:A0 Cq 2=.ptr 1 0:=A5 K 2 (by simp[FH]);have k3fr2:A0 Cq 3=.ptr 3 0:=A5 K 3 (by simp[QI]);clear K;simp[FT,k1fr2];refine C8.mono (gN tm roles (roles++fresh.map Fre.name) ((roles.map λ_=>1)++fresh.map Fre.sort) tags (by omega) hd [.str name,sl rm 1 (roles.map .str),sl fm 3 (fresh.map Gq),sl tm 1 (tags.map .str),sl sm 7 (steps.map Ci),sl gm 5 (goals.map DP)] [.vs true 0 [],.nilm] (sl rm 1 (roles.map .str)) B _ _ ?_ ?_ ?_ ?_ ?_ ?_) ?_<;>first|(simp[FT,k3fr2];done)|skip
 rintro e fr3 ⟨bx,fams⟩ ⟨K,rfl,hB⟩;simp only at hB;rw[hU,hV]at hB;subst hB;have hlfr3:fr3.length=51:=K.1.trans (by simp[FT]);have k1fr3:A0 fr3 1=.ptr 0 0:=A5 K 1 (by simp[k1fr2]);have k2fr3:A0 fr3 2=.ptr 1 0:=A5 K 2 (by simp[k2fr2]);have k3fr3:A0 fr3 3=.ptr 3 0:=A5 K 3 (by simp[k3fr2]);clear K;have hF:∀(A C T:List AV) (B:List (List AV)) (f:List Fam),y5 ⟨A::C::[.mbox U V]::T::B,f⟩ true (.mp 2)=some (.vm U V):=λ_ _ _ _ _=>Qq _ 2 U V rfl;simp[hlfr3,k2fr3,k3fr3,hF]
theorem ZN (m:J0) (rs ns:List ByteArray) (vs:List Int) (m':J0) (l:I1) (C2:l.length<=1099511627776) (IH:∀t∈l,pc Q H9 [.agg [sl m 1 (rs.map .str),.vm (ns.map .str) (vs.map (.int .i64))],B8 t]=some (.int .i64 (Af ns rs t))) (b1:E5) (fr:Fr) (h:AH) (hh:h.boxes=[[sl m 1 (rs.map .str),.vm (ns.map .str) (vs.map (.int .i64))],b1]) (hl:fr.length=46) (h2:A0 fr 2=.ptr 0 0) (h33:A0 fr 33=sl m' 4 (A4 l)) (h34:A0 fr 34=.int .i64 l.length) (h35:A0 fr 35=.int .i64 0) :
  C8 (lp (A1 (Q8 Q) (G8 P6) P9) (fr,h)) λe D3 h'=>Kp P9.wr fr D3/\(e=.exit 0/\E8 (Af ns rs) l=0\/e=.ret/\A0 D3 4=.int .i64 (E8 (Af ns rs) l)):=by
 refine C3 rfl fr (λn fr h'=>∃(i:Nat),i+n=l.length/\A0 fr 35=.int .i64 (i:Nat)/\(∃B,h'.boxes=[sl m 1 (rs.map .str),.vm (ns.map .str) (vs.map (.int .i64))]::B)/\E8 (Af ns rs) (l.drop i)=E8 (Af ns rs) l) ?_ l.length h ⟨0,by omega,h35,⟨_,hh⟩,rfl⟩;rintro J Φ hJ hΦ n H0 H1 K ⟨i,hi,k35,hr⟩;have B5:=K.1.trans hl;have k2:=A5 K 2 h2;have k33:=A5 K 33 h33;have k34:=A5 K 34 h34;clear K;by_cases A7:i<l.length
 .have V9:=E6 i (by omega);obtain⟨⟨B,hB⟩,hr⟩:=hr;obtain⟨bx,fams⟩:=H1;simp only at hB;subst hB;have hx:=U2 A7;have hI:=IH l[i] (xk A7);rw[xX A7]at hr;simp only[E8]at hr;generalize l[i]=t at *
  generalize Af ns rs t=v at *
  by_cases hz:v=0
  .rw[if_neg (by simp[hz])]at hr;simp[P9,B5,k2,k33,k34,k35,A7,V9,hx,hI,hz];exact O9 hJ ⟨i+1,by omega,by simp[B5],⟨_,rfl⟩,hr⟩
  .rw[if_pos hz]at hr;simp[P9,B5,k2,k33,k34,k35,A7,hx,hI,hz];exact hΦ _ _ _ (.inr ⟨rfl,by simp[B5,hr]⟩)
 .obtain⟨_,hr⟩:=hr;rw[xY (by omega)]at hr;simp[P9,B5,k34,k35,A7];exact hΦ _ _ _ (.inl ⟨rfl,hr.symm⟩)
theorem gw (m:J0) (rs ns:List ByteArray) (vs:List Int) (hr:rs.length<=1048576) (hkv:ns.length=vs.length) (g:Gol) (hg:Tm.sizes g.data<=1099511627776) :
  pc Q P6 [.agg [sl m 1 (rs.map .str),.vm (ns.map .str) (vs.map (.int .i64))],DP g]=some (.int .i64 (MX ns rs g)):=by
 have C2:=Tm.length_le g.data;have Pc:=ZN m rs ns vs g.dm g.data (by omega) (λt ht=>bH m rs ns vs hr hkv _ t (xo _) (by have:=Tm.size_le ht;omega));have hC:=Dv m rs g.role hr;have hT:=gz m rs (ns.map .str) (vs.map (.int .i64)) hr g.role g.wth;have hE:MX ns rs g=if rs.any (BR g.role)=false then 13 else if He g=true/\Ma rs g.role g.wth≠0 then Ma rs g.role g.wth else E8 (Af ns rs) g.data:=rfl
 have hA:He g=(decide (g.kind=2)||decide (g.kind=3)):=rfl;generalize MX ns rs g=z at *
 generalize rs.any (BR g.role)=b at *
 generalize Ma rs g.role g.wth=w at *
 generalize He g=ab at *
 refine R9 P8 λfr hl h0 h1=>?_;simp[P8]at hl h0 h1;have key:∀(H0:Fr) (h:AH),z=E8 (Af ns rs) g.data->H0.length=46->A0 H0 2=.ptr 0 0->A0 H0 33=sl g.dm 4 (A4 g.data)->A0 H0 34=.int .i64 g.data.length->A0 H0 35=.int .i64 0->(∃b1,h.boxes=[[sl m 1 (rs.map .str),.vm (ns.map .str) (vs.map (.int .i64))],b1]) ->
   C8 (lp (A1 (Q8 Q) (G8 P6) P9) (H0,h)) (BL 0 (SQ (Q8 Q) (G8 P6) (.seq (.region false [⟨some 4,.mov (.c (.int .i64 0)),none⟩]) .ret) (iu [.tmp 4] (.int .i64 z)))):=by
  rintro H0 h rfl hl q2 q33 q34 q35 ⟨b1,hb⟩;refine C8.mono (Pc b1 H0 h hb hl q2 q33 q34 q35) ?_;rintro e Cq h2 ⟨K,⟨rfl,hz⟩|⟨rfl,k4⟩⟩
  .have JS:=K.1.trans hl;simp[JS,hz]
  .simp[k4]
 cases b with
 |false =>
  rw[if_pos rfl]at hE;simp[P8,hl,h0,h1,hC,hE]
 |true =>
  rw[if_neg (by simp)]at hE;have fin:ab=false\/w=0->z=E8 (Af ns rs) g.data:=by
   intro h;rw[if_neg (by rintro⟨a,b⟩;rcases h with h|h;simp[h]at a;exact b h)]at hE
   exact hE
  by_cases k2:g.kind=2
  .have ea:ab=true:=by simp[hA,k2]
   by_cases hw:w=0
   .simp[P8,hl,h0,h1,hC,J7 k2,hT,hw];exact key _ _ (fin (.inr hw)) (by simp[hl]) (by simp[hl]) (by simp[hl]) (by simp[hl]) (by simp[hl]) ⟨_,rfl⟩
   .rw[if_pos ⟨ea,hw⟩]at hE;simp[P8,hl,h0,h1,hC,J7 k2,hT,hw,hE]
  .by_cases k3:g.kind=3
   .have ea:ab=true:=by simp[hA,k3]
    by_cases hw:w=0
    .simp[P8,hl,h0,h1,hC,E3 k2,J7 k3,hT,hw];exact key _ _ (fin (.inr hw)) (by simp[hl]) (by simp[hl]) (by simp[hl]) (by simp[hl]) (by simp[hl]) ⟨_,rfl⟩
    .rw[if_pos ⟨ea,hw⟩]at hE;simp[P8,hl,h0,h1,hC,E3 k2,J7 k3,hT,hw,hE]
   .have ea:ab=false:=by simp[hA,k2,k3]
    simp[P8,hl,h0,h1,hC,E3 k2,E3 k3];exact key _ _ (fin (.inl ea)) (by simp[hl]) (by simp[hl]) (by simp[hl]) (by simp[hl]) (by simp[hl]) ⟨_,rfl⟩
theorem XJ (m:J0) (rs ns:List ByteArray) (vs:List Int) (hr:rs.length<=1048576) (m':J0) (l:List Ste) (C2:l.length<=1099511627776) (IH:∀s∈l,pc Q H9 [.agg [sl m 1 (rs.map .str),.vm (ns.map .str) (vs.map (.int .i64))],B8 s.msg]=some (.int .i64 (Af ns rs s.msg))) (A:E5) (fr:Fr) (h:AH) (hh:h.boxes=[A,[sl m 1 (rs.map .str),.vm (ns.map .str) (vs.map (.int .i64))]]) (hl:fr.length=66) (h6:A0 fr 6=.ptr 1 0) (h26:A0 fr 26=sl m' 7 (l.map Ci)) (h27:A0 fr 27=.int .i64 l.length) (h28:A0 fr 28=.int .i64 0) :
  C8 (lp (A1 (Q8 Q) (G8 Cs) r8) (fr,h)) λe D3 h'=>Kp r8.wr fr D3/\(e=.exit 0/\Ag (Is ns rs) Ste.line l=(0,0)/\(∃B,h'.boxes=A::[sl m 1 (rs.map .str),.vm (ns.map .str) (vs.map (.int .i64))]::B)\/e=.ret/\A0 D3 2=.int .i64 (Ag (Is ns rs) Ste.line l).1/\A0 D3 3=.int .i64 (Ag (Is ns rs) Ste.line l).2/\Ag (Is ns rs) Ste.line l≠(0,0)):=by
 refine C3 rfl fr (λn fr h'=>∃(i:Nat),i+n=l.length/\A0 fr 28=.int .i64 (i:Nat)/\(∃B,h'.boxes=A::[sl m 1 (rs.map .str),.vm (ns.map .str) (vs.map (.int .i64))]::B)/\Ag (Is ns rs) Ste.line (l.drop i)=Ag (Is ns rs) Ste.line l) ?_ l.length h ⟨0,by omega,h28,⟨_,hh⟩,rfl⟩;rintro J Φ hJ hΦ n H0 H1 K ⟨i,hi,k28,hr⟩;have B5:=K.1.trans hl;have k6:=A5 K 6 h6;have k26:=A5 K 26 h26;have k27:=A5 K 27 h27;clear K;by_cases A7:i<l.length
 .have V9:=E6 i (by omega);obtain⟨⟨B,hB⟩,hr⟩:=hr;obtain⟨bx,fams⟩:=H1;simp only at hB;subst hB;have hx:=H8 (f:=Ci) (xZ A7);have hI:=IH l[i] (xk A7);have hT:=gz m rs (ns.map .str) (vs.map (.int .i64)) (by omega) l[i].frm l[i].to;rw[xX A7]at hr;simp only[Ag]at hr;have hE:Is ns rs l[i]=if Ma rs l[i].frm l[i].to≠0 then Ma rs l[i].frm l[i].to else Af ns rs l[i].msg:=rfl
  generalize l[i]=t at *
  generalize Af ns rs t.msg=v at *
  generalize Ma rs t.frm t.to=w at *
  generalize Is ns rs t=z at *
  generalize hgl:Ag (Is ns rs) Ste.line l=L at *
  by_cases hw:w=0
  .rw[if_neg (by simp[hw])]at hE;subst hE;by_cases hz:z=0
   .rw[if_neg (by simp[hz])]at hr;simp[r8,B5,k6,k26,k27,k28,A7,V9,hx,hT,hw,hI,hz];exact O9 hJ ⟨i+1,by omega,by simp[B5],⟨_,rfl⟩,hr⟩
   .rw[if_pos hz]at hr;simp[r8,B5,k6,k26,k27,k28,A7,hx,hT,hw,hI,hz];exact hΦ _ _ _ (.inr ⟨rfl,by simp[B5,←hr],by simp[B5,←hr],by simp[←hr,hz]⟩)
  .rw[if_pos hw]at hE;rw[hE,if_pos hw]at hr;simp[r8,B5,k6,k26,k27,k28,A7,hx,hT,hw];exact hΦ _ _ _ (.inr ⟨rfl,by simp[B5,←hr],by simp[B5,←hr],by simp[←hr,hw]⟩)
 .obtain⟨hh',hr⟩:=hr;rw[xY (by omega)]at hr;simp[r8,B5,k27,k28,A7];exact hΦ _ _ _ (.inl ⟨rfl,hr.symm,hh'⟩)
theorem XI (m:J0) (rs ns:List ByteArray) (vs:List Int) (m':J0) (l:List Gol) (C2:l.length<=1099511627776) (IH:∀s∈l,pc Q P6 [.agg [sl m 1 (rs.map .str),.vm (ns.map .str) (vs.map (.int .i64))],DP s]=some (.int .i64 (MX ns rs s))) (A:E5) (fr:Fr) (h:AH) (hh:∃B,h.boxes=A::[sl m 1 (rs.map .str),.vm (ns.map .str) (vs.map (.int .i64))]::B) (hl:fr.length=66) (h6:A0 fr 6=.ptr 1 0) (h51:A0 fr 51=sl m' 5 (l.map DP)) (h52:A0 fr 52=.int .i64 l.length) (h53:A0 fr 53=.int .i64 0) :
  C8 (lp (A1 (Q8 Q) (G8 Cs) As) (fr,h)) λe D3 h'=>Kp As.wr fr D3/\(e=.exit 2/\Ag (MX ns rs) Gol.line l=(0,0)\/e=.ret/\A0 D3 2=.int .i64 (Ag (MX ns rs) Gol.line l).1/\A0 D3 3=.int .i64 (Ag (MX ns rs) Gol.line l).2):=by
 refine C3 rfl fr (λn fr h'=>∃(i:Nat),i+n=l.length/\A0 fr 53=.int .i64 (i:Nat)/\(∃B,h'.boxes=A::[sl m 1 (rs.map .str),.vm (ns.map .str) (vs.map (.int .i64))]::B)/\Ag (MX ns rs) Gol.line (l.drop i)=Ag (MX ns rs) Gol.line l) ?_ l.length h ⟨0,by omega,h53,hh,rfl⟩;rintro J Φ hJ hΦ n H0 H1 K ⟨i,hi,k53,hr⟩;have B5:=K.1.trans hl;have k6:=A5 K 6 h6;have k51:=A5 K 51 h51;have k52:=A5 K 52 h52;clear K;by_cases A7:i<l.length
 .have V9:=E6 i (by omega);obtain⟨⟨B,hB⟩,hr⟩:=hr;obtain⟨bx,fams⟩:=H1;simp only at hB;subst hB;have hx:=H8 (f:=DP) (xZ A7);have hI:=IH l[i] (xk A7);rw[xX A7]at hr;simp only[Ag]at hr;generalize l[i]=t at *
  generalize MX ns rs t=z at *
  generalize hgl:Ag (MX ns rs) Gol.line l=L at *
  by_cases hz:z=0
  .rw[if_neg (by simp[hz])]at hr;simp[As,B5,k6,k51,k52,k53,A7,V9,hx,hI,hz];exact O9 hJ ⟨i+1,by omega,by simp[B5],⟨_,rfl⟩,hr⟩
  .rw[if_pos hz]at hr;simp[As,B5,k6,k51,k52,k53,A7,hx,hI,hz];exact hΦ _ _ _ (.inr ⟨rfl,by simp[B5,←hr],by simp[B5,←hr]⟩)
 .obtain⟨hh',hr⟩:=hr;rw[xY (by omega)]at hr;simp[As,B5,k52,k53,A7];exact hΦ _ _ _ (.inl ⟨rfl,hr.symm⟩)
theorem Kk (n:Nar):(B4 n).length=(D6 n).length:=by simp[B4,D6]
theorem QT (n:Nar) (F:Fine n) (hS:n.roles.length+n.fresh.length+n.tags.length<=1048576):pc Q Cs [X7 n]=some (.tup [.int .i64 (Ae n).1,.int .i64 (Ae n).2]):=by
 have hV:=Xm n F;have hD:=Xh n hS;have l1:=F.stepsL;have l2:=F.goalsL;have fs:=F.steps;have fg:=F.goals;have hT:∀t:Tm,t.size<=1099511627776->pc Q H9 [Zv n.rm n,B8 t]=some (.int .i64 (Af (B4 n) n.roles t)):=λt ht=>bH n.rm n.roles (B4 n) (D6 n) (by omega) (Kk n) _ t (xo _) ht;have hG:∀g:Gol,Tm.sizes g.data<=1099511627776->pc Q P6 [Zv n.rm n,DP g]=some (.int .i64 (MX (B4 n) n.roles g)):=λg hg=>gw n.rm n.roles (B4 n) (D6 n) (by omega) (Kk n) g hg;have hE:Ae n=if NP n≠0 then (0,NP n)else if Hf n≠0 then (0,Hf n)
  else if Ag (Is (B4 n) n.roles) Ste.line n.steps≠(0,0)then Ag (Is (B4 n) n.roles) Ste.line n.steps else Ag (MX (B4 n) n.roles) Gol.line n.goals:=rfl
 have hN:Hf n=0->pc Q x9 [X7 n]=some (Zv n.rm n):=NZ n hS;unfold Zv at hT hG hN;generalize Ae n=z at *
 generalize NP n=e1 at *
 generalize Hf n=e2 at *
 generalize B4 n=ns at *
 generalize D6 n=vs at *
 clear F;obtain⟨name,rm,roles,fm,fresh,tm,tags,sm,steps,gm,goals⟩:=n;simp only at *
 have q1:=XJ rm roles ns vs (by omega) sm steps l1 (λs hs=>hT _ (fs s hs).2.2) [.str name,sl rm 1 (roles.map .str),sl fm 3 (fresh.map Gq),sl tm 1 (tags.map .str),sl sm 7 (steps.map Ci),sl gm 5 (goals.map DP)];have q2:=XI rm roles ns vs gm goals l2 (λg hg=>hG g (fg g hg).2.2) [.str name,sl rm 1 (roles.map .str),sl fm 3 (fresh.map Gq),sl tm 1 (tags.map .str),sl sm 7 (steps.map Ci),sl gm 5 (goals.map DP)];clear hT hG;generalize Ag (Is ns roles) Ste.line steps=L1 at *
 generalize Ag (MX ns roles) Gol.line goals=L2 at *
 refine N0 Ec λfr hl h0=>?_;simp[Ec,X7]at hl h0;simp only[X7]at hV hD hN;by_cases z1:e1=0
 .rw[if_neg (by simp[z1])]at hE;by_cases z2:e2=0
  .rw[if_neg (by simp[z2])]at hE;have hN:=hN z2;generalize hU:ns.map AV.str=U at *
   generalize hW:vs.map (AV.int .i64)=W at *
   simp[Ec,hl,h0,hV,z1,hD,z2,hN];refine C8.mono (q1 _ _ ?_ ?_ ?_ ?_ ?_ ?_) ?_<;>first|(simp[hl];done)|skip
   rintro e H0 ⟨bx,fams⟩ ⟨K,⟨rfl,hz,B,hB⟩|⟨rfl,k2,k3,hz⟩⟩
   .simp only at hB;subst hB;have M7:H0.length=66:=K.1.trans (by simp[hl]);have GB:A0 H0 1=.ptr 0 0:=A5 K 1 (by simp[hl]);have re:A0 H0 6=.ptr 1 0:=A5 K 6 (by simp[hl]);clear K;rw[if_neg (by simp[hz])]at hE;simp[M7,GB];refine C8.mono (q2 _ _ ?_ ?_ ?_ ?_ ?_ ?_) ?_<;>first|(simp[M7,re];done)|skip
    rintro e Cq h2 ⟨K,⟨rfl,hz⟩|⟨rfl,k2,k3⟩⟩
    .have FT:Cq.length=66:=K.1.trans (by simp[M7]);clear K;simp[FT,hE,hz]
    .simp[k2,k3,hE]
   .rw[if_pos hz]at hE;simp[k2,k3,hE]
  .rw[if_pos z2]at hE;simp[Ec,hl,h0,hV,z1,hD,z2,hE]
 .rw[if_pos z1]at hE;simp[Ec,hl,h0,hV,z1,hE]
def G3 (ns:List ByteArray) (vs:List Int) (a:ByteArray):Int:=if ns.any (BR a)=true then vs.getD (idx (BR a) ns).toNat 0 else 0
mutual
def U3 (f:ByteArray->Int):Tm->Tm
 | .mk k nm s _ l=>.mk k nm (if k=2 then f nm else s) (false,false) (AO f l)
def AO (f:ByteArray->Int):List Tm->List Tm
 | []=>[]
 |t::l=>U3 f t::AO f l
end
mutual
def D2:Tm->Tm
 | .mk k nm s _ l=>.mk k nm s (false,false) (H3 l)
def H3:List Tm->List Tm
 | []=>[]
 |t::l=>D2 t::H3 l
end
theorem KN (f:ByteArray->Int) (l:I1):AO f l=l.map (U3 f):=by
 induction l with
 |nil=>rfl
 |cons t l ih=>simp[AO,ih]
theorem E4 (l:I1):H3 l=l.map D2:=by
 induction l with
 |nil=>rfl
 |cons t l ih=>simp[H3,ih]
theorem io (ns:List ByteArray) (vs:List Int) (hkv:ns.length=vs.length) (h:AH) (a:H6) :
  En true false (.int .i64 0) h (.vm (ns.map .str) (vs.map (.int .i64))) (.str a)=some (.int .i64 (G3 ns vs a),h):=by
 cases hk:ns.any (BR a)with
 |false=>simp[En,Oi,CK,Kb a ns 0 hk,G3,hk]
 |true =>
  have hge:=(CH (BR a) ns 0).2 hk;have A7:=IE (BR a) ns 0;have hi:(R7 (BR a) 0 ns).toNat<vs.length:=by omega
  simp[En,Oi,CK,Nq a ns 0 hk,hi,G3,hk,idx]
theorem Zm (ns:List ByteArray) (vs:List Int) (hkv:ns.length=vs.length) (r x0 x2 x3:AV) (nm:H6) (h:AH) (hb:h.boxes[0]?=some [x0,.str nm,x2,x3]) :
  ∃w h',rc Q m6 [.ptr 0 0,.pv [r,.vm (ns.map .str) (vs.map (.int .i64))]] h=some (w,h')/\w=.tup []/\h'={h with boxes:=h.boxes.set 0 [x0,.str nm,.int .i64 (G3 ns vs nm),x3]}:=by
 have hM:=io ns vs hkv h nm;have A7:=J1 hb;refine FM Fp λfr hl h0 h1=>?_;simp[Fp]at hl h0 h1;simp[Fp,hl,h0,h1,hb,hM]
def Yi (r:AV) (ns:List ByteArray) (vs:List Int):AV:=.fn m6 [.pv [r,.vm (ns.map .str) (vs.map (.int .i64))]]
@[simp] theorem tz (h:AH) (am:Bool) (r:AV) (ns:List ByteArray) (vs:List Int):frz h am (Yi r ns vs)=some (Yi r ns vs):=rfl
@[simp] theorem qV (h:AH) (r:AV) (ns:List ByteArray) (vs:List Int):tame h (Yi r ns vs)=true:=rfl
def zT:AV:=.agg [.int .i64 0,.str (bs []),.int .i64 0,.vs true 0 []]
theorem VO (by':AV) (f:ByteArray->Int) (m:J0) (l:I1) (C2:l.length<=1099511627776) (hby:∀h am,frz h am by'=some by') (hby2:∀h,tame h by'=true) (IH:∀t∈l,∃t',pc Q I5 [B8 t,by']=some (B8 t')/\D2 t'=U3 f t) (A C:E5) (fr:Fr) (h:AH) (hh:h=⟨[A,C],[⟨xe l.length zT,4,true⟩]⟩) (hl:fr.length=36) (h1:A0 fr 1=by') (h5:A0 fr 5=.sl 0 l.length 0 l.length) (h19:A0 fr 19=sl m 4 (A4 l)) (h20:A0 fr 20=.int .i64 l.length) (h21:A0 fr 21=.int .i64 0) :
  C8 (lp (A1 (Q8 Q) (G8 I5) BN) (fr,h)) λe D3 h'=>Kp BN.wr fr D3/\e=.exit 0/\∃B done,h'=⟨A::C::B,[⟨A4 done,4,true⟩]⟩/\H3 done=AO f l/\done.length=l.length:=by
 refine C3 rfl fr (λn fr h'=>∃(i:Nat),i+n=l.length/\A0 fr 21=.int .i64 (i:Nat)/\(∃B done,h'=⟨A::C::B,[⟨A4 done++xe (l.length-i) zT,4,true⟩]⟩/\H3 done=AO f (l.take i)/\done.length=i)) ?_ l.length h ⟨0,by omega,h21,⟨[],[],by simp[hh,A4],by simp[H3,AO],rfl⟩⟩;rintro J Φ hJ hΦ n H0 H1 K ⟨i,hi,k21,hr⟩;have B5:=K.1.trans hl;have k1:=A5 K 1 h1;have k5:=A5 K 5 h5;have k19:=A5 K 19 h19;have k20:=A5 K 20 h20;clear K;by_cases A7:i<l.length
 .have V9:=E6 i (by omega);obtain⟨B,done,rfl,hd,EF⟩:=hr;have hx:=U2 A7;obtain⟨t',hI,ht⟩:=IH l[i] (xk A7);have e1:l.length-i=(l.length-(i+1))+1:=by omega
  have e2:H3 (done++[t'])=AO f (l.take (i+1)):=by
   rw[oD A7,E4,xd,←E4,hd,KN,KN,xd,xc,xf,xc,xf,ht]
  have e3:(A4 done++xe (l.length-i) zT).set i (B8 t')=A4 (done++[t'])++xe (l.length-(i+1)) zT:=by
   rw[e1,xn,List.set_append_right _ _ (by simp[EF]),EA];simp[EF]
  have e4:(A4 done++xe (l.length-i) zT)[i]?=some zT:=by
   rw[e1,xn,List.getElem?_append_right (by simp[EF])];simp[EF]
  have e5:(A4 done++xe (l.length-i) zT).length=l.length:=by simp[EF];omega
  clear ht hd;generalize l[i]=t at *
  generalize A4 done++xe (l.length-i) zT=X at *
  have e6:(AV.agg [.int .i64 t'.kind,.str t'.name,.int .i64 t'.sort,sl t'.cm 4 (A4 t'.kids)])=B8 t':=Vx t';obtain⟨_,e7⟩:=List.getElem?_eq_some_iff.1 e4;simp[BN,B5,k1,k5,k19,k20,k21,A7,V9,hx,hI,hby,hby2,e7,e5,zT,AV.reform];exact O9 hJ ⟨i+1,by omega,by simp[B5],⟨_,done++[t'],by rw[e3],e2,by simp[EF]⟩⟩
 .obtain⟨B,done,rfl,hd,EF⟩:=hr;have e:i=l.length:=by omega
  subst e;rw[List.take_length]at hd;simp[BN,B5,k20,k21];exact hΦ _ _ _ ⟨rfl,B,done,by simp,hd,EF⟩
theorem SJ (r:AV) (hr:r.flat=true) (ns:List ByteArray) (vs:List Int) (hkv:ns.length=vs.length):∀(n:Nat) (t:Tm),t.size<=n->t.size<=1099511627776->L0 t=0->∃t',pc Q I5 [B8 t,Yi r ns vs]=some (B8 t')/\D2 t'=U3 (G3 ns vs) t:=by
 intro n
 induction n with
 |zero=>intro t h;have:=t.size_pos;omega
 |succ n ih =>
  intro t hn hb M8;obtain⟨k,nm,s,m,kids⟩:=t;have K3:Tm.size (.mk k nm s m kids)=1+Tm.sizes kids:=rfl;have C2:=Tm.length_le kids;obtain⟨hne1,hne2⟩:=CP M8;have hnb:=(IM hne1).2.1;have Pc:=VO (Yi r ns vs) (G3 ns vs) m kids (by omega) (λ_ _=>rfl) (λ_=>rfl) (λt ht=>ih t (by have:=Tm.size_le ht;omega) (by have:=Tm.size_le ht;omega) (BJ hne2 t ht))
  suffices h:∃v,pc Q I5 [B8 (.mk k nm s m kids),Yi r ns vs]=some v/\∃t',v=B8 t'/\D2 t'=U3 (G3 ns vs) (.mk k nm s m kids) by
   obtain⟨v,h1,t',rfl,h2⟩:=h;exact⟨t',h1,h2⟩
  refine TT Ek λΨ hΨ fr hl h0 h1=>?_;simp[Ek,B8]at hl h0 h1;by_cases hk:k=2
  .have hkd:kids=[]:=List.eq_nil_of_length_eq_zero (hnb (.inr hk));have hS:=λ(h:AH) (hb:h.boxes[0]?=some [.int .i64 k,.str nm,.int .i64 s,sl m 4 (A4 kids)])=>Zm ns vs hkv r _ _ _ nm h hb;obtain⟨w,h',q1,q2,q3⟩:=hS ⟨[[.int .i64 k,.str nm,.int .i64 s,sl m 4 (A4 kids)],[.int .i64 0,.str (bs []),.int .i64 0,.vs true 0 []]],[]⟩ rfl;simp only[xh]at q3;subst q2 q3;simp[Ek,hl,h0,h1,Yi,J7 hk,q1];exact hΨ _ ⟨.mk k nm (G3 ns vs nm) m kids,rfl,by subst hkd;simp[D2,H3,U3,AO,hk]⟩
  .have r1:(kids.length:Int)*56<=(G5:Int)/\kids.length<=maxLen:=by simp only[G5,maxLen];omega
   simp[Ek,hl,h0,E3 hk,r1];refine C8.mono (Pc [.int .i64 k,.str nm,.int .i64 s,sl m 4 (A4 kids)] [.int .i64 0,.str (bs []),.int .i64 0,.vs true 0 []] _ _ ?_ ?_ ?_ ?_ ?_ ?_ ?_) ?_<;>first|(simp[hl,h1];done)|rfl|skip
   rintro e H0 h1 ⟨K,rfl,B,done,rfl,hd,EF⟩;have M7:H0.length=36:=K.1.trans (by simp[hl]);have FH:A0 H0 2=.ptr 0 0:=A5 K 2 (by simp[hl]);have MC:A0 H0 4=.ptr 1 0:=A5 K 4 (by simp[hl]);have rd:A0 H0 5=.sl 0 kids.length 0 kids.length:=A5 K 5 (by simp[hl]);clear K;have e1:List.take kids.length (A4 done)=A4 done:=xb (by simp[EF]);simp[M7,FH,MC,rd,e1,EF];exact hΨ _ ⟨.mk k nm s (false,true) done,rfl,by simp[D2,U3,hk,hd]⟩
end Go.Abs.Q
