/- A part of the proof. -/
import Derived.Test.YtjhgilockkmniaaGreatDoorSH24
set_option linter.all false
open List renaming take_succ_eq_append_getElem->zf0z,drop_eq_getElem_cons->zf1z,drop_eq_nil_of_le->zf2z,getElem?_eq_getElem->zf3z,append_assoc->zf4z,take_of_length_le->zf5z,map_cons->zf6z,map_append->zf7z,replicate->zf8z,map_nil->zf9z,append_nil->zg0z,set_cons_zero->zg1z,set_cons_succ->zg2z,getElem_mem->zg4z,nil_append->zg5z,take_zero->zg6z,replicate_succ->zg7z
open Function renaming comp_def->zg3z
open Nat renaming le_refl->zg8z
namespace Go.Abs.Q
open Go.Proofs
attribute [local simp] D3 D6 fin H4 G2 EP Co Bd Bc
theorem SU {α β:Type} (f:α->β) {l:List α} {i:Nat} (h:i<l.length):(l.map f).take (i+1)=(l.map f).take i++[f l[i]]:=by
 rw[zf0z (by simpa using h)];simp
theorem Ye (m m0:W8) (rs seen:List ByteArray) (hrs:rs.length<=1048576) (l:List Fre) (C4:seen.length+l.length<=1048576) (a0 a2 a3 a4 a5:AV) (fr:Fr) (h:AH) (hh:∃v B,h.boxes=[a0,sl m0 1 (rs.map .str),a2,a3,a4,a5]::[v]::B/\EQ 1 (seen.map .str) v h) (hl:fr.length=64) (h1:A2 fr 1=.ptr 0 0) (h4:A2 fr 4=.fn F5 [.ptr 1 0]) (h30:A2 fr 30=sl m 3 (l.map Hp)) (h31:A2 fr 31=.int .i64 l.length) (h32:A2 fr 32=.int .i64 0) :
  C3 (lp (A4 (M3 Q) (B8 L0) O9) (fr,h)) λe fr' h'=>Kp O9.wr fr fr'/\(e=.exit 2/\T0 rs seen (l.map λf=>(f.name,some f.role))=0/\(∃v B,h'.boxes=[a0,sl m0 1 (rs.map .str),a2,a3,a4,a5]::[v]::B/\EQ 1 ((seen++l.map Fre.name).map .str) v h')\/e=.ret/\A2 fr' 2=.int .i64 (T0 rs seen (l.map λf=>(f.name,some f.role)))/\T0 rs seen (l.map λf=>(f.name,some f.role))≠0):=by
 refine C1 rfl fr (λn fr h'=>∃(i:Nat),i+n=l.length/\A2 fr 32=.int .i64 (i:Nat)/\(∃v B,h'.boxes=[a0,sl m0 1 (rs.map .str),a2,a3,a4,a5]::[v]::B/\EQ 1 ((seen++(l.map Fre.name).take i).map .str) v h')/\T0 rs (seen++(l.map Fre.name).take i) ((l.drop i).map λf=>(f.name,some f.role))=T0 rs seen (l.map λf=>(f.name,some f.role))) ?_ l.length h ⟨0,by omega,h32,by simpa using hh,by simp⟩;rintro J Φ hJ hΦ n E3 H1 K ⟨i,hi,k32,hr⟩;have A6:=K.1.trans hl;have k1:=C0 K 1 h1;have k4:=C0 K 4 h4;have k30:=C0 K 30 h30;have k31:=C0 K 31 h31;clear K;by_cases A9:i<l.length
 .have Z0:=C8 i (by omega);obtain⟨⟨v,B,hB,hg⟩,hr⟩:=hr;have hx:=D5 (f:=Hp) (zf3z A9);have hC:=Cx m0 rs l[i].role hrs;obtain⟨bx,fams⟩:=H1;simp only at hB;subst hB;obtain⟨w,h',hN,hw2,hz⟩:=SG ⟨[a0,sl m0 1 (rs.map .str),a2,a3,a4,a5]::[v]::(B++[(Hp l[i]).cells]),fams⟩ _ v rfl (Fo hg rfl) (by simp;omega) l[i].name true;subst hw2;rw[zf1z A9,zf6z]at hr;rw[MB]at hr;by_cases OR:Iw (seen++(l.map Fre.name).take i) l[i].name true=0
  .obtain⟨v',hb',CN⟩:=hz OR;rw[if_neg (by simp[OR])]at hr;simp only[zg2z,zg1z]at hb';simp only[OI]at hN hb';cases hq:rs.any (U4 l[i].role)with
   |true =>
    rw[hq]at hC hr;rw[if_neg (by simp)]at hr;simp[O9,A6,k1,k4,k30,k31,k32,A9,Z0,hx,hN,OR,hb',hC];exact F7 hJ ⟨i+1,by omega,by simp[A6],⟨v',_,hb',by rw[SU _ A9,←zf4z];exact Fo CN rfl⟩,by rw[SU _ A9,←zf4z];exact hr⟩
   |false =>
    rw[hq]at hC hr;rw[if_pos rfl]at hr;simp[O9,A6,k1,k4,k30,k31,k32,A9,Z0,hx,hN,OR,hb',hC];exact hΦ _ _ _ (.inr ⟨rfl,by rw[←hr];simp[A6],by rw[←hr];omega⟩)
  .rw[if_pos OR]at hr;simp only[OI]at hN;simp[O9,A6,k1,k4,k30,k31,k32,A9,Z0,hx,hN,OR];exact hΦ _ _ _ (.inr ⟨rfl,by simp[A6,hr],by rw[←hr];exact OR⟩)
 .obtain⟨hh',hr⟩:=hr;rw[zf2z (by omega)]at hr;rw[zf5z (by simp;omega)]at hr hh';simp only[zf9z,T0]at hr;simp[O9,A6,k1,k4,k30,k31,k32,A9];exact hΦ _ _ _ (.inl ⟨rfl,hr.symm,hh'⟩)
theorem Tz (n:Nar) (hS:n.roles.length+n.fresh.length+n.tags.length<=1048576):pc Q L0 [D1 n]=some (.int .i64 (GS n)):=by
 have hE:GS n=if T0 n.roles [] (n.roles.map λa=>(a,none))≠0 then T0 n.roles [] (n.roles.map λa=>(a,none))
   else if T0 n.roles n.roles (n.fresh.map λf=>(f.name,some f.role))≠0 then T0 n.roles n.roles (n.fresh.map λf=>(f.name,some f.role))
   else T0 n.roles (n.roles++n.fresh.map Fre.name) (n.tags.map λa=>(a,none)):=by
  unfold GS Sw;rw[JX,JX];have e1:(n.roles.map λa=>((a,none):ByteArray×Option ByteArray)).map (·.1)=n.roles:=by simp[zg3z]
  have e2:(n.fresh.map λf=>((f.name,some f.role):ByteArray×Option ByteArray)).map (·.1)=n.fresh.map Fre.name:=by simp[zg3z]
  rw[zf7z,e1,e2,zg5z];split<;>simp_all
 generalize GS n=z at *
 obtain⟨name,rm,roles,fm,fresh,tm,tags,sm,steps,gm,goals⟩:=n;simp only at hE hS;refine BN FY λfr hl h0=>?_;simp[FY,D1]at hl h0;simp[FY,hl,h0];refine C3.mono (Yf rm roles [] roles (by simp;omega) [.str name,sl rm 1 (roles.map .str),sl fm 3 (fresh.map Hp),sl tm 1 (tags.map .str),sl sm 7 (steps.map P3),sl gm 5 (goals.map Bz)] _ _ ?_ ?_ ?_ ?_ ?_ ?_) ?_<;>first|(simp[hl];done)|skip
 .exact⟨_,_,rfl,FZ _ _⟩
 rintro e E3 h1 ⟨K,⟨rfl,hz,hh⟩|⟨rfl,k2,hz⟩⟩
 .have K1:E3.length=64:=K.1.trans (by simp[hl]);have EC:A2 E3 1=.ptr 0 0:=C0 K 1 (by simp[hl]);have IS:A2 E3 4=.fn F5 [.ptr 1 0]:=C0 K 4 (by simp[hl]);clear K;rw[if_neg (by simp[hz])]at hE;rw[zg5z]at hh;have hh0:=hh;obtain⟨v,B,hB,hg⟩:=hh;simp[K1,EC,IS,hB];refine C3.mono (Ye fm rm roles roles (by omega) fresh (by omega) _ _ _ _ _ _ h1 hh0 ?_ ?_ ?_ ?_ ?_ ?_) ?_<;>first|(simp[K1,EC,IS];done)|skip
  rintro e X2 h2 ⟨K,⟨rfl,hz,hh⟩|⟨rfl,k2,hz⟩⟩
  .have L3:X2.length=64:=K.1.trans (by simp[K1]);have k1fr2:A2 X2 1=.ptr 0 0:=C0 K 1 (by simp[K1,EC]);have k4fr2:A2 X2 4=.fn F5 [.ptr 1 0]:=C0 K 4 (by simp[K1,IS]);clear K;rw[if_neg (by simp[hz])]at hE;have hh0:=hh;obtain⟨v,B,hB,hg⟩:=hh;simp[L3,k1fr2,k4fr2,hB];refine C3.mono (Yd tm roles (roles++fresh.map Fre.name) tags (by simp;omega) _ _ h2 hh0 ?_ ?_ ?_ ?_ ?_) ?_<;>first|(simp[L3,k1fr2,k4fr2];done)|skip
   rintro e fr3 h3 ⟨K,⟨rfl,hz,hh⟩|⟨rfl,k2,hz⟩⟩
   .have hlfr3:fr3.length=64:=K.1.trans (by simp[L3]);clear K;rw[hz]at hE;simp[hlfr3,hE]
   .simp[k2,hE]
  .rw[if_pos hz]at hE;simp[k2,hE]
 .rw[if_pos hz]at hE;simp[k2,hE]
end Go.Abs.Q
namespace Go.Abs.Q
open Go.Proofs
attribute [local simp] D3 D6 fin H4 G2
theorem NY (h:AH) (b:Nat) (ks vs:C6) (hb:h.boxes[b]?=some [.mbox ks vs]):uE h true (.mp b)=some (.vm ks vs):=by simp[uE,hb]
@[simp] theorem kX (ks vs:C6):AZ [.mbox ks vs]=true:=rfl
theorem JY {rs seen:List ByteArray} {a:Q1} {r:List (ByteArray×Option ByteArray)} (h:T0 rs seen ((a,none)::r)=0):seen.any (U4 a)=false/\T0 rs (seen++[a]) r=0:=by
 rw[IN]at h;by_cases hz:Iw seen a false=0
 .rw[if_neg (by simp[hz])]at h;refine⟨?_,h⟩;unfold Iw at hz;cases hs:seen.any (U4 a)with
  |false=>rfl
  |true =>
   rw[hs]at hz;split at hz<;>simp at hz
 .rw[if_pos hz]at h;exact absurd h hz
theorem Ny {rs seen:List ByteArray} {a x:Q1} {r:List (ByteArray×Option ByteArray)} (h:T0 rs seen ((a,some x)::r)=0):seen.any (U4 a)=false/\rs.any (U4 x)=true/\T0 rs (seen++[a]) r=0:=by
 rw[MB]at h;by_cases hz:Iw seen a true=0
 .rw[if_neg (by simp[hz])]at h;have h2:seen.any (U4 a)=false:=by
   unfold Iw at hz;cases hs:seen.any (U4 a)with
   |false=>rfl
   |true =>
    rw[hs]at hz;split at hz
    .simp at hz
    .split at hz<;>simp at hz
  cases hx:rs.any (U4 x)with
  |false=>rw[hx,if_pos rfl]at h;omega
  |true=>rw[hx,if_neg (by simp)]at h;exact⟨h2,rfl,h⟩
 .rw[if_pos hz]at h;exact absurd h hz
theorem bp (m:W8) (rs seen:List ByteArray) (so:List Int) (l:List ByteArray) (C4:l.length<=1048576) (hd:T0 rs seen (l.map λa=>(a,none))=0) (A C:C6) (t0:AV) (B:List (List AV)) (fr:Fr) (h:AH) (hh:h.boxes=A::C::[.mbox (seen.map .str) (so.map (.int .i64))]::[t0,.mp 2]::B) (hl:fr.length=51) (h3:A2 fr 3=.ptr 3 0) (h15:A2 fr 15=sl m 1 (l.map .str)) (h16:A2 fr 16=.int .i64 l.length) (h17:A2 fr 17=.int .i64 0) :
  C3 (lp (A4 (M3 Q) (B8 W2) Bx) (fr,h)) λe fr' h'=>Kp Bx.wr fr fr'/\e=.exit 0/\h'.boxes=A::C::[.mbox ((seen++l).map .str) ((so++l.map λ_=>(1:Int)).map (.int .i64))]::[t0,.mp 2]::B:=by
 refine C1 rfl fr (λn fr h'=>∃(i:Nat),i+n=l.length/\A2 fr 17=.int .i64 (i:Nat)/\h'.boxes=A::C::[.mbox ((seen++l.take i).map .str) ((so++(l.take i).map λ_=>(1:Int)).map (.int .i64))]::[t0,.mp 2]::B/\T0 rs (seen++l.take i) ((l.drop i).map λa=>(a,none))=0) ?_ l.length h ⟨0,by omega,h17,by rw[hh,zg6z,zf9z,zg0z,zg0z],by simpa using hd⟩;rintro J Φ hJ hΦ n E3 H1 K ⟨i,hi,k17,hr⟩;have A6:=K.1.trans hl;have k3:=C0 K 3 h3;have k15:=C0 K 15 h15;have k16:=C0 K 16 h16;clear K;by_cases A9:i<l.length
 .have Z0:=C8 i (by omega);obtain⟨hB,hr⟩:=hr;obtain⟨bx,fams⟩:=H1;simp only at hB;subst hB;have hx:=D5 (f:=AV.str) (zf3z A9);rw[zf1z A9,zf6z]at hr;obtain⟨q1,q2⟩:=JY hr;have hM:=Rl ⟨A::C::[.mbox ((seen++l.take i).map .str) ((so++(l.take i).map λ_=>(1:Int)).map (.int .i64))]::[t0,.mp 2]::B,fams⟩ 2 _ _ l[i] 1 rfl q1;have e1:(seen++l.take i++[l[i]])=seen++l.take (i+1):=by rw[zf0z A9,zf4z]
  have e2:(so++(l.take i).map λ_=>(1:Int)).map (AV.int .i64)++[.int .i64 1]=(so++(l.take (i+1)).map λ_=>(1:Int)).map (AV.int .i64):=by
   rw[zf0z A9];simp only[zf7z,zf6z,zf9z,zf4z]
  rw[e1,e2]at hM;rw[e1]at q2;simp only[zg2z,zg1z]at hM;generalize (seen++l.take i).map AV.str=U at *
  generalize (so++(l.take i).map λ_=>(1:Int)).map (AV.int .i64)=V at *
  generalize hU:(seen++l.take (i+1)).map AV.str=U' at *
  generalize hV:(so++(l.take (i+1)).map λ_=>(1:Int)).map (AV.int .i64)=V' at *
  simp[Bx,A6,k3,k15,k16,k17,A9,Z0,hx,hM];exact F7 hJ ⟨i+1,by omega,by simp[A6],by rw[hU,hV],q2⟩
 .obtain⟨hB,hr⟩:=hr;rw[zf2z (by omega)]at hr;rw[zf5z (by omega)]at hB;simp[Bx,A6,k3,k15,k16,k17,A9];exact hΦ _ _ _ ⟨rfl,hB⟩
theorem bn (m:W8) (rs seen:List ByteArray) (so:List Int) (l:List ByteArray) (C4:l.length<=1048576) (hd:T0 rs seen (l.map λa=>(a,none))=0) (A C:C6) (t0:AV) (B:List (List AV)) (fr:Fr) (h:AH) (hh:h.boxes=A::C::[.mbox (seen.map .str) (so.map (.int .i64))]::[t0,.mp 2]::B) (hl:fr.length=51) (h3:A2 fr 3=.ptr 3 0) (h40:A2 fr 40=sl m 1 (l.map .str)) (h41:A2 fr 41=.int .i64 l.length) (h42:A2 fr 42=.int .i64 0) :
  C3 (lp (A4 (M3 Q) (B8 W2) Bv) (fr,h)) λe fr' h'=>Kp Bv.wr fr fr'/\e=.exit 4/\h'.boxes=A::C::[.mbox ((seen++l).map .str) ((so++l.map λ_=>(5:Int)).map (.int .i64))]::[t0,.mp 2]::B:=by
 refine C1 rfl fr (λn fr h'=>∃(i:Nat),i+n=l.length/\A2 fr 42=.int .i64 (i:Nat)/\h'.boxes=A::C::[.mbox ((seen++l.take i).map .str) ((so++(l.take i).map λ_=>(5:Int)).map (.int .i64))]::[t0,.mp 2]::B/\T0 rs (seen++l.take i) ((l.drop i).map λa=>(a,none))=0) ?_ l.length h ⟨0,by omega,h42,by rw[hh,zg6z,zf9z,zg0z,zg0z],by simpa using hd⟩;rintro J Φ hJ hΦ n E3 H1 K ⟨i,hi,k42,hr⟩;have A6:=K.1.trans hl;have k3:=C0 K 3 h3;have k40:=C0 K 40 h40;have k41:=C0 K 41 h41;clear K;by_cases A9:i<l.length
 .have Z0:=C8 i (by omega);obtain⟨hB,hr⟩:=hr;obtain⟨bx,fams⟩:=H1;simp only at hB;subst hB;have hx:=D5 (f:=AV.str) (zf3z A9);rw[zf1z A9,zf6z]at hr;obtain⟨q1,q2⟩:=JY hr;have hM:=Rl ⟨A::C::[.mbox ((seen++l.take i).map .str) ((so++(l.take i).map λ_=>(5:Int)).map (.int .i64))]::[t0,.mp 2]::B,fams⟩ 2 _ _ l[i] 5 rfl q1;have e1:(seen++l.take i++[l[i]])=seen++l.take (i+1):=by rw[zf0z A9,zf4z]
  have e2:(so++(l.take i).map λ_=>(5:Int)).map (AV.int .i64)++[.int .i64 5]=(so++(l.take (i+1)).map λ_=>(5:Int)).map (AV.int .i64):=by
   rw[zf0z A9];simp only[zf7z,zf6z,zf9z,zf4z]
  rw[e1,e2]at hM;rw[e1]at q2;simp only[zg2z,zg1z]at hM;generalize (seen++l.take i).map AV.str=U at *
  generalize (so++(l.take i).map λ_=>(5:Int)).map (AV.int .i64)=V at *
  generalize hU:(seen++l.take (i+1)).map AV.str=U' at *
  generalize hV:(so++(l.take (i+1)).map λ_=>(5:Int)).map (AV.int .i64)=V' at *
  simp[Bv,A6,k3,k40,k41,k42,A9,Z0,hx,hM];exact F7 hJ ⟨i+1,by omega,by simp[A6],by rw[hU,hV],q2⟩
 .obtain⟨hB,hr⟩:=hr;rw[zf2z (by omega)]at hr;rw[zf5z (by omega)]at hB;simp[Bv,A6,k3,k40,k41,k42,A9];exact hΦ _ _ _ ⟨rfl,hB⟩
theorem bo (m:W8) (rs seen:List ByteArray) (so:List Int) (l:List Fre) (C4:l.length<=1048576) (hd:T0 rs seen (l.map λf=>(f.name,some f.role))=0) (A C:C6) (t0:AV) (fr:Fr) (h:AH) (hh:h.boxes=A::C::[.mbox (seen.map .str) (so.map (.int .i64))]::[t0,.mp 2]::[]) (hl:fr.length=51) (h3:A2 fr 3=.ptr 3 0) (h26:A2 fr 26=sl m 3 (l.map Hp)) (h27:A2 fr 27=.int .i64 l.length) (h28:A2 fr 28=.int .i64 0) :
  C3 (lp (A4 (M3 Q) (B8 W2) Bw) (fr,h)) λe fr' h'=>Kp Bw.wr fr fr'/\e=.exit 2/\∃B,h'.boxes=A::C::[.mbox ((seen++l.map Fre.name).map .str) ((so++l.map Fre.sort).map (.int .i64))]::[t0,.mp 2]::B:=by
 refine C1 rfl fr (λn fr h'=>∃(i:Nat),i+n=l.length/\A2 fr 28=.int .i64 (i:Nat)/\(∃B,h'.boxes=A::C::[.mbox ((seen++(l.map Fre.name).take i).map .str) ((so++(l.map Fre.sort).take i).map (.int .i64))]::[t0,.mp 2]::B)/\T0 rs (seen++(l.map Fre.name).take i) ((l.drop i).map λf=>(f.name,some f.role))=0) ?_ l.length h ⟨0,by omega,h28,⟨[],by rw[hh,zg6z,zg6z,zg0z,zg0z]⟩,by simpa using hd⟩;rintro J Φ hJ hΦ n E3 H1 K ⟨i,hi,k28,hr⟩;have A6:=K.1.trans hl;have k3:=C0 K 3 h3;have k26:=C0 K 26 h26;have k27:=C0 K 27 h27;clear K;by_cases A9:i<l.length
 .have Z0:=C8 i (by omega);obtain⟨⟨B,hB⟩,hr⟩:=hr;obtain⟨bx,fams⟩:=H1;simp only at hB;subst hB;have hx:=D5 (f:=Hp) (zf3z A9);rw[zf1z A9,zf6z]at hr;obtain⟨q1,-,q2⟩:=Ny hr;have hM:=Rl ⟨A::C::[.mbox ((seen++(l.map Fre.name).take i).map .str) ((so++(l.map Fre.sort).take i).map (.int .i64))]::[t0,.mp 2]::(B++[(Hp l[i]).cells]),fams⟩ 2 _ _ l[i].name l[i].sort rfl q1;have e1:(seen++(l.map Fre.name).take i++[l[i].name])=seen++(l.map Fre.name).take (i+1):=by rw[SU _ A9,zf4z]
  have e2:(so++(l.map Fre.sort).take i).map (AV.int .i64)++[.int .i64 l[i].sort]=(so++(l.map Fre.sort).take (i+1)).map (AV.int .i64):=by
   rw[SU _ A9];simp only[zf7z,zf6z,zf9z,zf4z]
  rw[e1,e2]at hM;rw[e1]at q2;simp only[zg2z,zg1z,OI]at hM;generalize (seen++(l.map Fre.name).take i).map AV.str=U at *
  generalize (so++(l.map Fre.sort).take i).map (AV.int .i64)=V at *
  generalize hU:(seen++(l.map Fre.name).take (i+1)).map AV.str=U' at *
  generalize hV:(so++(l.map Fre.sort).take (i+1)).map (AV.int .i64)=V' at *
  simp[Bw,A6,k3,k26,k27,k28,A9,Z0,hx,hM];exact F7 hJ ⟨i+1,by omega,by simp[A6],⟨_,by rw[hU,hV]⟩,q2⟩
 .obtain⟨⟨B,hB⟩,hr⟩:=hr;rw[zf2z (by omega)]at hr;rw[zf5z (by simp;omega),zf5z (by simp;omega)]at hB;simp[Bw,A6,k3,k26,k27,k28,A9];exact hΦ _ _ _ ⟨rfl,B,hB⟩
theorem YF {n:Nar} (hd:GS n=0):T0 n.roles [] (n.roles.map λa=>(a,none))=0/\T0 n.roles n.roles (n.fresh.map λf=>(f.name,some f.role))=0/\T0 n.roles (n.roles++n.fresh.map Fre.name) (n.tags.map λa=>(a,none))=0:=by
 have e1:(n.roles.map λa=>((a,none):ByteArray×Option ByteArray)).map (·.1)=n.roles:=by simp[zg3z]
 have e2:(n.fresh.map λf=>((f.name,some f.role):ByteArray×Option ByteArray)).map (·.1)=n.fresh.map Fre.name:=by simp[zg3z]
 unfold GS Sw at hd;rw[JX,JX,zf7z,e1,e2,zg5z,zg5z]at hd;by_cases d1:T0 n.roles [] (n.roles.map λa=>(a,none))=0
 .rw[if_neg (c:=T0 n.roles [] (n.roles.map λa=>(a,none))≠0) (by simp[d1])]at hd;by_cases d2:T0 n.roles n.roles (n.fresh.map λf=>(f.name,some f.role))=0
  .rw[if_neg (by simp[d2])]at hd;exact⟨d1,d2,hd⟩
  .rw[if_pos d2]at hd;exact absurd hd d2
 .simp[d1]at hd
theorem Ka (n:Nar) (hS:n.roles.length+n.fresh.length+n.tags.length<=1048576) (hd:GS n=0):pc Q W2 [D1 n]=some (We n.rm n):=by
 obtain⟨d1,d2,hd⟩:=YF hd;unfold We B7 R6;obtain⟨name,rm,roles,fm,fresh,tm,tags,sm,steps,gm,goals⟩:=n;simp only at hd d1 d2 hS ⊢;generalize hU:(roles++fresh.map Fre.name++tags).map AV.str=U;generalize hV:((roles.map λ_=>(1:Int))++fresh.map Fre.sort++tags.map λ_=>(5:Int)).map (AV.int .i64)=V;refine BN II λfr hl h0=>?_;simp[II,D1]at hl h0;simp[II,hl,h0,F4,P2];refine C3.mono (bp rm roles [] [] roles (by omega) d1 [.str name,sl rm 1 (roles.map .str),sl fm 3 (fresh.map Hp),sl tm 1 (tags.map .str),sl sm 7 (steps.map P3),sl gm 5 (goals.map Bz)] [.vs true 0 [],.nilm] (sl rm 1 (roles.map .str)) [] _ _ ?_ ?_ ?_ ?_ ?_ ?_) ?_<;>first|(simp[hl];done)|skip
 rintro e E3 ⟨bx,fams⟩ ⟨K,rfl,hB⟩;simp only at hB;subst hB;have K1:E3.length=51:=K.1.trans (by simp[hl]);have EC:A2 E3 1=.ptr 0 0:=C0 K 1 (by simp[hl]);have IR:A2 E3 2=.ptr 1 0:=C0 K 2 (by simp[hl]);have OU:A2 E3 3=.ptr 3 0:=C0 K 3 (by simp[hl]);clear K;simp[K1,EC,IR,OU];refine C3.mono (bo fm roles roles (roles.map λ_=>1) fresh (by omega) d2 [.str name,sl rm 1 (roles.map .str),sl fm 3 (fresh.map Hp),sl tm 1 (tags.map .str),sl sm 7 (steps.map P3),sl gm 5 (goals.map Bz)] [.vs true 0 [],.nilm] (sl rm 1 (roles.map .str)) _ _ ?_ ?_ ?_ ?_ ?_ ?_) ?_<;>first|(simp[K1,EC,IR,OU];done)|skip
 rintro e X2 ⟨bx,fams⟩ ⟨K,rfl,B,hB⟩;simp only at hB;subst hB;have L3:X2.length=51:=K.1.trans (by simp[K1]);have k1fr2:A2 X2 1=.ptr 0 0:=C0 K 1 (by simp[K1,EC]);have k2fr2:A2 X2 2=.ptr 1 0:=C0 K 2 (by simp[K1,IR]);have k3fr2:A2 X2 3=.ptr 3 0:=C0 K 3 (by simp[K1,OU]);clear K;simp[L3,k1fr2,k2fr2,k3fr2];refine C3.mono (bn tm roles (roles++fresh.map Fre.name) ((roles.map λ_=>1)++fresh.map Fre.sort) tags (by omega) hd [.str name,sl rm 1 (roles.map .str),sl fm 3 (fresh.map Hp),sl tm 1 (tags.map .str),sl sm 7 (steps.map P3),sl gm 5 (goals.map Bz)] [.vs true 0 [],.nilm] (sl rm 1 (roles.map .str)) B _ _ ?_ ?_ ?_ ?_ ?_ ?_) ?_<;>first|(simp[L3,k1fr2,k2fr2,k3fr2];done)|skip
 rintro e fr3 ⟨bx,fams⟩ ⟨K,rfl,hB⟩;simp only at hB;rw[hU,hV]at hB;subst hB;have hlfr3:fr3.length=51:=K.1.trans (by simp[L3]);have k1fr3:A2 fr3 1=.ptr 0 0:=C0 K 1 (by simp[L3,k1fr2]);have k2fr3:A2 fr3 2=.ptr 1 0:=C0 K 2 (by simp[L3,k2fr2]);have k3fr3:A2 fr3 3=.ptr 3 0:=C0 K 3 (by simp[L3,k3fr2]);clear K;have hF:∀(A C T:List AV) (B:List (List AV)) (f:List Fam),uE ⟨A::C::[.mbox U V]::T::B,f⟩ true (.mp 2)=some (.vm U V):=λ_ _ _ _ _=>NY _ 2 U V rfl;simp[hlfr3,k1fr3,k2fr3,k3fr3,hF]
theorem Vw (m:W8) (rs ns:List ByteArray) (vs:List Int) (m':W8) (l:Hm) (C4:l.length<=1099511627776) (IH:∀t∈l,pc Q D8 [.agg [sl m 1 (rs.map .str),.vm (ns.map .str) (vs.map (.int .i64))],H2 t]=some (.int .i64 (Y5 ns rs t))) (b1:C6) (fr:Fr) (h:AH) (hh:h.boxes=[[sl m 1 (rs.map .str),.vm (ns.map .str) (vs.map (.int .i64))],b1]) (hl:fr.length=46) (h2:A2 fr 2=.ptr 0 0) (h33:A2 fr 33=sl m' 4 (D0 l)) (h34:A2 fr 34=.int .i64 l.length) (h35:A2 fr 35=.int .i64 0) :
  C3 (lp (A4 (M3 Q) (B8 J8) N3) (fr,h)) λe fr' h'=>Kp N3.wr fr fr'/\(e=.exit 0/\B9 (Y5 ns rs) l=0\/e=.ret/\A2 fr' 4=.int .i64 (B9 (Y5 ns rs) l)):=by
 refine C1 rfl fr (λn fr h'=>∃(i:Nat),i+n=l.length/\A2 fr 35=.int .i64 (i:Nat)/\(∃B,h'.boxes=[sl m 1 (rs.map .str),.vm (ns.map .str) (vs.map (.int .i64))]::B)/\B9 (Y5 ns rs) (l.drop i)=B9 (Y5 ns rs) l) ?_ l.length h ⟨0,by omega,h35,⟨_,hh⟩,rfl⟩;rintro J Φ hJ hΦ n E3 H1 K ⟨i,hi,k35,hr⟩;have A6:=K.1.trans hl;have k2:=C0 K 2 h2;have k33:=C0 K 33 h33;have k34:=C0 K 34 h34;clear K;by_cases A9:i<l.length
 .have Z0:=C8 i (by omega);obtain⟨⟨B,hB⟩,hr⟩:=hr;obtain⟨bx,fams⟩:=H1;simp only at hB;subst hB;have hx:=Eh A9;have hI:=IH l[i] (zg4z A9);rw[zf1z A9]at hr;simp only[B9]at hr;generalize l[i]=t at *
  generalize Y5 ns rs t=v at *
  by_cases hz:v=0
  .rw[if_neg (by simp[hz])]at hr;simp[N3,A6,k2,k33,k34,k35,A9,Z0,hx,hI,hz];exact F7 hJ ⟨i+1,by omega,by simp[A6],⟨_,rfl⟩,hr⟩
  .rw[if_pos hz]at hr;simp[N3,A6,k2,k33,k34,k35,A9,Z0,hx,hI,hz];exact hΦ _ _ _ (.inr ⟨rfl,by simp[A6,hr]⟩)
 .obtain⟨_,hr⟩:=hr;rw[zf2z (by omega)]at hr;simp[N3,A6,k2,k33,k34,k35,A9];exact hΦ _ _ _ (.inl ⟨rfl,hr.symm⟩)
theorem cc (m:W8) (rs ns:List ByteArray) (vs:List Int) (hr:rs.length<=1048576) (hkv:ns.length=vs.length) (g:Gol) (hg:Tm.sizes g.data<=1099511627776) :
  pc Q J8 [.agg [sl m 1 (rs.map .str),.vm (ns.map .str) (vs.map (.int .i64))],Bz g]=some (.int .i64 (Dq ns rs g)):=by
 have C4:=Tm.length_le g.data;have IQ:=Vw m rs ns vs g.dm g.data (by omega) (λt ht=>XR m rs ns vs hr hkv _ t (zg8z _) (by have:=Tm.size_le ht;omega));have hC:=Cx m rs g.role hr;have hT:=cd m rs (ns.map .str) (vs.map (.int .i64)) hr g.role g.wth;have hE:Dq ns rs g=if rs.any (U4 g.role)=false then 13 else if HX g=true/\Hz rs g.role g.wth≠0 then Hz rs g.role g.wth else B9 (Y5 ns rs) g.data:=rfl
 have hA:HX g=(decide (g.kind=2)||decide (g.kind=3)):=rfl;generalize Dq ns rs g=z at *
 generalize rs.any (U4 g.role)=b at *
 generalize Hz rs g.role g.wth=w at *
 generalize HX g=ab at *
 refine Ez N2 λfr hl h0 h1=>?_;simp[N2]at hl h0 h1;have key:∀(E3:Fr) (h:AH),z=B9 (Y5 ns rs) g.data->E3.length=46->A2 E3 2=.ptr 0 0->A2 E3 33=sl g.dm 4 (D0 g.data)->A2 E3 34=.int .i64 g.data.length->A2 E3 35=.int .i64 0->(∃b1,h.boxes=[[sl m 1 (rs.map .str),.vm (ns.map .str) (vs.map (.int .i64))],b1]) ->
   C3 (lp (A4 (M3 Q) (B8 J8) N3) (E3,h)) (BL 0 (SQ (M3 Q) (B8 J8) (.seq (.region false [⟨some 4,.mov (.c (.int .i64 0)),none⟩]) .ret) (VH [.tmp 4] (.int .i64 z)))):=by
  rintro E3 h rfl hl q2 q33 q34 q35 ⟨b1,hb⟩;refine C3.mono (IQ b1 E3 h hb hl q2 q33 q34 q35) ?_;rintro e X2 h2 ⟨K,⟨rfl,hz⟩|⟨rfl,k4⟩⟩
  .have If:=K.1.trans hl;simp[If,hz]
  .simp[k4]
 cases b with
 |false =>
  rw[if_pos rfl]at hE;simp[N2,hl,h0,h1,hC,hE]
 |true =>
  rw[if_neg (by simp)]at hE;have fin:ab=false\/w=0->z=B9 (Y5 ns rs) g.data:=by
   intro h;rw[if_neg (by rintro⟨a,b⟩;rcases h with h|h;simp[h]at a;exact b h)]at hE
   exact hE
  by_cases k2:g.kind=2
  .have ea:ab=true:=by simp[hA,k2]
   by_cases hw:w=0
   .simp[N2,hl,h0,h1,hC,A7 k2,hT,hw];exact key _ _ (fin (.inr hw)) (by simp[hl]) (by simp[hl]) (by simp[hl]) (by simp[hl]) (by simp[hl]) ⟨_,rfl⟩
   .rw[if_pos ⟨ea,hw⟩]at hE;simp[N2,hl,h0,h1,hC,A7 k2,hT,hw,hE]
  .by_cases k3:g.kind=3
   .have ea:ab=true:=by simp[hA,k3]
    by_cases hw:w=0
    .simp[N2,hl,h0,h1,hC,A0 k2,A7 k3,hT,hw];exact key _ _ (fin (.inr hw)) (by simp[hl]) (by simp[hl]) (by simp[hl]) (by simp[hl]) (by simp[hl]) ⟨_,rfl⟩
    .rw[if_pos ⟨ea,hw⟩]at hE;simp[N2,hl,h0,h1,hC,A0 k2,A7 k3,hT,hw,hE]
   .have ea:ab=false:=by simp[hA,k2,k3]
    simp[N2,hl,h0,h1,hC,A0 k2,A0 k3];exact key _ _ (fin (.inl ea)) (by simp[hl]) (by simp[hl]) (by simp[hl]) (by simp[hl]) (by simp[hl]) ⟨_,rfl⟩
theorem Td (m:W8) (rs ns:List ByteArray) (vs:List Int) (hr:rs.length<=1048576) (m':W8) (l:List Ste) (C4:l.length<=1099511627776) (IH:∀s∈l,pc Q D8 [.agg [sl m 1 (rs.map .str),.vm (ns.map .str) (vs.map (.int .i64))],H2 s.msg]=some (.int .i64 (Y5 ns rs s.msg))) (A:C6) (fr:Fr) (h:AH) (hh:h.boxes=[A,[sl m 1 (rs.map .str),.vm (ns.map .str) (vs.map (.int .i64))]]) (hl:fr.length=66) (h6:A2 fr 6=.ptr 1 0) (h26:A2 fr 26=sl m' 7 (l.map P3)) (h27:A2 fr 27=.int .i64 l.length) (h28:A2 fr 28=.int .i64 0) :
  C3 (lp (A4 (M3 Q) (B8 j8) b8) (fr,h)) λe fr' h'=>Kp b8.wr fr fr'/\(e=.exit 0/\M4 (DN ns rs) Ste.line l=(0,0)/\(∃B,h'.boxes=A::[sl m 1 (rs.map .str),.vm (ns.map .str) (vs.map (.int .i64))]::B)\/e=.ret/\A2 fr' 2=.int .i64 (M4 (DN ns rs) Ste.line l).1/\A2 fr' 3=.int .i64 (M4 (DN ns rs) Ste.line l).2/\M4 (DN ns rs) Ste.line l≠(0,0)):=by
 refine C1 rfl fr (λn fr h'=>∃(i:Nat),i+n=l.length/\A2 fr 28=.int .i64 (i:Nat)/\(∃B,h'.boxes=A::[sl m 1 (rs.map .str),.vm (ns.map .str) (vs.map (.int .i64))]::B)/\M4 (DN ns rs) Ste.line (l.drop i)=M4 (DN ns rs) Ste.line l) ?_ l.length h ⟨0,by omega,h28,⟨_,hh⟩,rfl⟩;rintro J Φ hJ hΦ n E3 H1 K ⟨i,hi,k28,hr⟩;have A6:=K.1.trans hl;have k6:=C0 K 6 h6;have k26:=C0 K 26 h26;have k27:=C0 K 27 h27;clear K;by_cases A9:i<l.length
 .have Z0:=C8 i (by omega);obtain⟨⟨B,hB⟩,hr⟩:=hr;obtain⟨bx,fams⟩:=H1;simp only at hB;subst hB;have hx:=D5 (f:=P3) (zf3z A9);have hI:=IH l[i] (zg4z A9);have hT:=cd m rs (ns.map .str) (vs.map (.int .i64)) (by omega) l[i].frm l[i].to;rw[zf1z A9]at hr;simp only[M4]at hr;have hE:DN ns rs l[i]=if Hz rs l[i].frm l[i].to≠0 then Hz rs l[i].frm l[i].to else Y5 ns rs l[i].msg:=rfl
  generalize l[i]=t at *
  generalize Y5 ns rs t.msg=v at *
  generalize Hz rs t.frm t.to=w at *
  generalize DN ns rs t=z at *
  generalize hgl:M4 (DN ns rs) Ste.line l=L at *
  by_cases hw:w=0
  .rw[if_neg (by simp[hw])]at hE;subst hE;by_cases hz:z=0
   .rw[if_neg (by simp[hz])]at hr;simp[b8,A6,k6,k26,k27,k28,A9,Z0,hx,hT,hw,hI,hz];exact F7 hJ ⟨i+1,by omega,by simp[A6],⟨_,rfl⟩,hr⟩
   .rw[if_pos hz]at hr;simp[b8,A6,k6,k26,k27,k28,A9,Z0,hx,hT,hw,hI,hz];exact hΦ _ _ _ (.inr ⟨rfl,by simp[A6,←hr],by simp[A6,←hr],by simp[←hr,hz]⟩)
  .rw[if_pos hw]at hE;rw[hE,if_pos hw]at hr;simp[b8,A6,k6,k26,k27,k28,A9,Z0,hx,hT,hw];exact hΦ _ _ _ (.inr ⟨rfl,by simp[A6,←hr],by simp[A6,←hr],by simp[←hr,hw]⟩)
 .obtain⟨hh',hr⟩:=hr;rw[zf2z (by omega)]at hr;simp[b8,A6,k6,k26,k27,k28,A9];exact hΦ _ _ _ (.inl ⟨rfl,hr.symm,hh'⟩)
theorem Tc (m:W8) (rs ns:List ByteArray) (vs:List Int) (m':W8) (l:List Gol) (C4:l.length<=1099511627776) (IH:∀s∈l,pc Q J8 [.agg [sl m 1 (rs.map .str),.vm (ns.map .str) (vs.map (.int .i64))],Bz s]=some (.int .i64 (Dq ns rs s))) (A:C6) (fr:Fr) (h:AH) (hh:∃B,h.boxes=A::[sl m 1 (rs.map .str),.vm (ns.map .str) (vs.map (.int .i64))]::B) (hl:fr.length=66) (h6:A2 fr 6=.ptr 1 0) (h51:A2 fr 51=sl m' 5 (l.map Bz)) (h52:A2 fr 52=.int .i64 l.length) (h53:A2 fr 53=.int .i64 0) :
  C3 (lp (A4 (M3 Q) (B8 j8) y9) (fr,h)) λe fr' h'=>Kp y9.wr fr fr'/\(e=.exit 2/\M4 (Dq ns rs) Gol.line l=(0,0)\/e=.ret/\A2 fr' 2=.int .i64 (M4 (Dq ns rs) Gol.line l).1/\A2 fr' 3=.int .i64 (M4 (Dq ns rs) Gol.line l).2):=by
 refine C1 rfl fr (λn fr h'=>∃(i:Nat),i+n=l.length/\A2 fr 53=.int .i64 (i:Nat)/\(∃B,h'.boxes=A::[sl m 1 (rs.map .str),.vm (ns.map .str) (vs.map (.int .i64))]::B)/\M4 (Dq ns rs) Gol.line (l.drop i)=M4 (Dq ns rs) Gol.line l) ?_ l.length h ⟨0,by omega,h53,hh,rfl⟩;rintro J Φ hJ hΦ n E3 H1 K ⟨i,hi,k53,hr⟩;have A6:=K.1.trans hl;have k6:=C0 K 6 h6;have k51:=C0 K 51 h51;have k52:=C0 K 52 h52;clear K;by_cases A9:i<l.length
 .have Z0:=C8 i (by omega);obtain⟨⟨B,hB⟩,hr⟩:=hr;obtain⟨bx,fams⟩:=H1;simp only at hB;subst hB;have hx:=D5 (f:=Bz) (zf3z A9);have hI:=IH l[i] (zg4z A9);rw[zf1z A9]at hr;simp only[M4]at hr;generalize l[i]=t at *
  generalize Dq ns rs t=z at *
  generalize hgl:M4 (Dq ns rs) Gol.line l=L at *
  by_cases hz:z=0
  .rw[if_neg (by simp[hz])]at hr;simp[y9,A6,k6,k51,k52,k53,A9,Z0,hx,hI,hz];exact F7 hJ ⟨i+1,by omega,by simp[A6],⟨_,rfl⟩,hr⟩
  .rw[if_pos hz]at hr;simp[y9,A6,k6,k51,k52,k53,A9,Z0,hx,hI,hz];exact hΦ _ _ _ (.inr ⟨rfl,by simp[A6,←hr],by simp[A6,←hr]⟩)
 .obtain⟨hh',hr⟩:=hr;rw[zf2z (by omega)]at hr;simp[y9,A6,k6,k51,k52,k53,A9];exact hΦ _ _ _ (.inl ⟨rfl,hr.symm⟩)
theorem HH (n:Nar):(B7 n).length=(R6 n).length:=by simp[B7,R6]
theorem Jn (n:Nar) (F:Fine n) (hS:n.roles.length+n.fresh.length+n.tags.length<=1048576):pc Q j8 [D1 n]=some (.tup [.int .i64 (AQ n).1,.int .i64 (AQ n).2]):=by
 have hV:=UD n F;have hD:=Tz n hS;have l1:=F.stepsL;have l2:=F.goalsL;have fs:=F.steps;have fg:=F.goals;have hT:∀t:Tm,t.size<=1099511627776->pc Q D8 [We n.rm n,H2 t]=some (.int .i64 (Y5 (B7 n) n.roles t)):=λt ht=>XR n.rm n.roles (B7 n) (R6 n) (by omega) (HH n) _ t (zg8z _) ht;have hG:∀g:Gol,Tm.sizes g.data<=1099511627776->pc Q J8 [We n.rm n,Bz g]=some (.int .i64 (Dq (B7 n) n.roles g)):=λg hg=>cc n.rm n.roles (B7 n) (R6 n) (by omega) (HH n) g hg;have hE:AQ n=if JN n≠0 then (0,JN n)else if GS n≠0 then (0,GS n)
  else if M4 (DN (B7 n) n.roles) Ste.line n.steps≠(0,0)then M4 (DN (B7 n) n.roles) Ste.line n.steps else M4 (Dq (B7 n) n.roles) Gol.line n.goals:=rfl
 have hN:GS n=0->pc Q W2 [D1 n]=some (We n.rm n):=Ka n hS;unfold We at hT hG hN;generalize AQ n=z at *
 generalize JN n=e1 at *
 generalize GS n=e2 at *
 generalize B7 n=ns at *
 generalize R6 n=vs at *
 clear F;obtain⟨name,rm,roles,fm,fresh,tm,tags,sm,steps,gm,goals⟩:=n;simp only at *
 have q1:=Td rm roles ns vs (by omega) sm steps l1 (λs hs=>hT _ (fs s hs).2.2) [.str name,sl rm 1 (roles.map .str),sl fm 3 (fresh.map Hp),sl tm 1 (tags.map .str),sl sm 7 (steps.map P3),sl gm 5 (goals.map Bz)];have q2:=Tc rm roles ns vs gm goals l2 (λg hg=>hG g (fg g hg).2.2) [.str name,sl rm 1 (roles.map .str),sl fm 3 (fresh.map Hp),sl tm 1 (tags.map .str),sl sm 7 (steps.map P3),sl gm 5 (goals.map Bz)];clear hT hG;generalize M4 (DN ns roles) Ste.line steps=L1 at *
 generalize M4 (Dq ns roles) Gol.line goals=L2 at *
 refine BN Dd λfr hl h0=>?_;simp[Dd,D1]at hl h0;simp only[D1]at hV hD hN;by_cases z1:e1=0
 .rw[if_neg (by simp[z1])]at hE;by_cases z2:e2=0
  .rw[if_neg (by simp[z2])]at hE;have hN:=hN z2;generalize hU:ns.map AV.str=U at *
   generalize hW:vs.map (AV.int .i64)=W at *
   simp[Dd,hl,h0,hV,z1,hD,z2,hN];refine C3.mono (q1 _ _ ?_ ?_ ?_ ?_ ?_ ?_) ?_<;>first|(simp[hl];done)|skip
   rintro e E3 ⟨bx,fams⟩ ⟨K,⟨rfl,hz,B,hB⟩|⟨rfl,k2,k3,hz⟩⟩
   .simp only at hB;subst hB;have K1:E3.length=66:=K.1.trans (by simp[hl]);have EC:A2 E3 1=.ptr 0 0:=C0 K 1 (by simp[hl]);have gy:A2 E3 6=.ptr 1 0:=C0 K 6 (by simp[hl]);clear K;rw[if_neg (by simp[hz])]at hE;simp[K1,EC,gy];refine C3.mono (q2 _ _ ?_ ?_ ?_ ?_ ?_ ?_) ?_<;>first|(simp[K1,EC,gy];done)|skip
    rintro e X2 h2 ⟨K,⟨rfl,hz⟩|⟨rfl,k2,k3⟩⟩
    .have L3:X2.length=66:=K.1.trans (by simp[K1]);clear K;simp[L3,hE,hz]
    .simp[k2,k3,hE]
   .rw[if_pos hz]at hE;simp[k2,k3,hE]
  .rw[if_pos z2]at hE;simp[Dd,hl,h0,hV,z1,hD,z2,hE]
 .rw[if_pos z1]at hE;simp[Dd,hl,h0,hV,z1,hE]
def Bj (ns:List ByteArray) (vs:List Int) (a:ByteArray):Int:=if ns.any (U4 a)=true then vs.getD (idx (U4 a) ns).toNat 0 else 0
mutual
def HM (f:ByteArray->Int):Tm->Tm
 | .mk k nm s _ l=>.mk k nm (if k=2 then f nm else s) (false,false) (BS f l)
def BS (f:ByteArray->Int):List Tm->List Tm
 | []=>[]
 |t::l=>HM f t::BS f l
end
mutual
def Km:Tm->Tm
 | .mk k nm s _ l=>.mk k nm s (false,false) (Cr l)
def Cr:List Tm->List Tm
 | []=>[]
 |t::l=>Km t::Cr l
end
theorem EK (f:ByteArray->Int) (l:Hm):BS f l=l.map (HM f):=by
 induction l with
 |nil=>rfl
 |cons t l ih=>simp[BS,ih]
theorem EV (l:Hm):Cr l=l.map Km:=by
 induction l with
 |nil=>rfl
 |cons t l ih=>simp[Cr,ih]
theorem dg (ns:List ByteArray) (vs:List Int) (hkv:ns.length=vs.length) (h:AH) (a:Q1) :
  EW true false (.int .i64 0) h (.vm (ns.map .str) (vs.map (.int .i64))) (.str a)=some (.int .i64 (Bj ns vs a),h):=by
 cases hk:ns.any (U4 a)with
 |false=>simp[EW,LR,s6,Io a ns 0 hk,Bj,hk]
 |true =>
  have hge:=(FF (U4 a) ns 0).2 hk;have A9:=Ip (U4 a) ns 0;have hi:(i6 (U4 a) 0 ns).toNat<vs.length:=by omega
  simp[EW,LR,s6,Kq a ns 0 hk,hi,Bj,hk,idx]
theorem WW (ns:List ByteArray) (vs:List Int) (hkv:ns.length=vs.length) (r x0 x2 x3:AV) (nm:Q1) (h:AH) (hb:h.boxes[0]?=some [x0,.str nm,x2,x3]) :
  ∃w h',rc Q S0 [.ptr 0 0,.pv [r,.vm (ns.map .str) (vs.map (.int .i64))]] h=some (w,h')/\w=.tup []/\h'={h with boxes:=h.boxes.set 0 [x0,.str nm,.int .i64 (Bj ns vs nm),x3]}:=by
 have hM:=dg ns vs hkv h nm;have A9:=P5 hb;refine sq Eu λfr hl h0 h1=>?_;simp[Eu]at hl h0 h1;simp[Eu,hl,h0,h1,hb,hM]
def Uv (r:AV) (ns:List ByteArray) (vs:List Int):AV:=.fn S0 [.pv [r,.vm (ns.map .str) (vs.map (.int .i64))]]
@[simp] theorem qC (h:AH) (am:Bool) (r:AV) (ns:List ByteArray) (vs:List Int):frz h am (Uv r ns vs)=some (Uv r ns vs):=rfl
@[simp] theorem lw (h:AH) (r:AV) (ns:List ByteArray) (vs:List Int):tame h (Uv r ns vs)=true:=rfl
def zT:AV:=.agg [.int .i64 0,.str (bs []),.int .i64 0,.vs true 0 []]
theorem Rc (by':AV) (f:ByteArray->Int) (m:W8) (l:Hm) (C4:l.length<=1099511627776) (hby:∀h am,frz h am by'=some by') (hby2:∀h,tame h by'=true) (IH:∀t∈l,∃t',pc Q E5 [H2 t,by']=some (H2 t')/\Km t'=HM f t) (A C:C6) (fr:Fr) (h:AH) (hh:h=⟨[A,C],[⟨zf8z l.length zT,4,true⟩]⟩) (hl:fr.length=36) (h1:A2 fr 1=by') (h5:A2 fr 5=.sl 0 l.length 0 l.length) (h19:A2 fr 19=sl m 4 (D0 l)) (h20:A2 fr 20=.int .i64 l.length) (h21:A2 fr 21=.int .i64 0) :
  C3 (lp (A4 (M3 Q) (B8 E5) AW) (fr,h)) λe fr' h'=>Kp AW.wr fr fr'/\e=.exit 0/\∃B done,h'=⟨A::C::B,[⟨D0 done,4,true⟩]⟩/\Cr done=BS f l/\done.length=l.length:=by
 refine C1 rfl fr (λn fr h'=>∃(i:Nat),i+n=l.length/\A2 fr 21=.int .i64 (i:Nat)/\(∃B done,h'=⟨A::C::B,[⟨D0 done++zf8z (l.length-i) zT,4,true⟩]⟩/\Cr done=BS f (l.take i)/\done.length=i)) ?_ l.length h ⟨0,by omega,h21,⟨[],[],by simp[hh,D0],by simp[Cr,BS],rfl⟩⟩;rintro J Φ hJ hΦ n E3 H1 K ⟨i,hi,k21,hr⟩;have A6:=K.1.trans hl;have k1:=C0 K 1 h1;have k5:=C0 K 5 h5;have k19:=C0 K 19 h19;have k20:=C0 K 20 h20;clear K;by_cases A9:i<l.length
 .have Z0:=C8 i (by omega);obtain⟨B,done,rfl,hd,Gi⟩:=hr;have hx:=Eh A9;obtain⟨t',hI,ht⟩:=IH l[i] (zg4z A9);have e1:l.length-i=(l.length-(i+1))+1:=by omega
  have e2:Cr (done++[t'])=BS f (l.take (i+1)):=by
   rw[zf0z A9,EV,zf7z,←EV,hd,EK,EK,zf7z,zf6z,zf9z,zf6z,zf9z,ht]
  have e3:(D0 done++zf8z (l.length-i) zT).set i (H2 t')=D0 (done++[t'])++zf8z (l.length-(i+1)) zT:=by
   rw[e1,zg7z,List.set_append_right _ _ (by simp[Gi]),Ic];simp[Gi]
  have e4:(D0 done++zf8z (l.length-i) zT)[i]?=some zT:=by
   rw[e1,zg7z,List.getElem?_append_right (by simp[Gi])];simp[Gi]
  have e5:(D0 done++zf8z (l.length-i) zT).length=l.length:=by simp[Gi];omega
  clear ht hd;generalize l[i]=t at *
  generalize D0 done++zf8z (l.length-i) zT=X at *
  have e6:(AV.agg [.int .i64 t'.kind,.str t'.name,.int .i64 t'.sort,sl t'.cm 4 (D0 t'.kids)])=H2 t':=jx t';obtain⟨_,e7⟩:=List.getElem?_eq_some_iff.1 e4;simp[AW,A6,k1,k5,k19,k20,k21,A9,Z0,hx,hI,hby,hby2,e7,e5,zT,AV.reform];exact F7 hJ ⟨i+1,by omega,by simp[A6],⟨_,done++[t'],by rw[e3],e2,by simp[Gi]⟩⟩
 .obtain⟨B,done,rfl,hd,Gi⟩:=hr;have e:i=l.length:=by omega
  subst e;rw[List.take_length]at hd;simp[AW,A6,k1,k5,k19,k20,k21,A9];exact hΦ _ _ _ ⟨rfl,B,done,by simp,hd,Gi⟩
theorem Og (r:AV) (hr:r.flat=true) (ns:List ByteArray) (vs:List Int) (hkv:ns.length=vs.length):∀(n:Nat) (t:Tm),t.size<=n->t.size<=1099511627776->N0 t=0->∃t',pc Q E5 [H2 t,Uv r ns vs]=some (H2 t')/\Km t'=HM (Bj ns vs) t:=by
 intro n
 induction n with
 |zero=>intro t h;have:=t.size_pos;omega
 |succ n ih =>
  intro t hn hb S6;obtain⟨k,nm,s,m,kids⟩:=t;have K3:Tm.size (.mk k nm s m kids)=1+Tm.sizes kids:=rfl;have C4:=Tm.length_le kids;obtain⟨hne1,hne2⟩:=Do S6;have hnb:=(Iv hne1).2.1;have IQ:=Rc (Uv r ns vs) (Bj ns vs) m kids (by omega) (λ_ _=>rfl) (λ_=>rfl) (λt ht=>ih t (by have:=Tm.size_le ht;omega) (by have:=Tm.size_le ht;omega) (Y3 hne2 t ht))
  suffices h:∃v,pc Q E5 [H2 (.mk k nm s m kids),Uv r ns vs]=some v/\∃t',v=H2 t'/\Km t'=HM (Bj ns vs) (.mk k nm s m kids) by
   obtain⟨v,h1,t',rfl,h2⟩:=h;exact⟨t',h1,h2⟩
  refine MN Dj λΨ hΨ fr hl h0 h1=>?_;simp[Dj,H2]at hl h0 h1;by_cases hk:k=2
  .have hkd:kids=[]:=List.eq_nil_of_length_eq_zero (hnb (.inr hk));have hS:=λ(h:AH) (hb:h.boxes[0]?=some [.int .i64 k,.str nm,.int .i64 s,sl m 4 (D0 kids)])=>WW ns vs hkv r _ _ _ nm h hb;obtain⟨w,h',q1,q2,q3⟩:=hS ⟨[[.int .i64 k,.str nm,.int .i64 s,sl m 4 (D0 kids)],[.int .i64 0,.str (bs []),.int .i64 0,.vs true 0 []]],[]⟩ rfl;simp only[zg1z]at q3;subst q2 q3;simp[Dj,hl,h0,h1,Uv,A7 hk,q1];exact hΨ _ ⟨.mk k nm (Bj ns vs nm) m kids,rfl,by subst hkd;simp[Km,Cr,HM,BS,hk]⟩
  .have r1:(kids.length:Int)*56<=(G3:Int)/\kids.length<=maxLen:=by simp only[G3,maxLen];omega
   simp[Dj,hl,h0,h1,A0 hk,r1];refine C3.mono (IQ [.int .i64 k,.str nm,.int .i64 s,sl m 4 (D0 kids)] [.int .i64 0,.str (bs []),.int .i64 0,.vs true 0 []] _ _ ?_ ?_ ?_ ?_ ?_ ?_ ?_) ?_<;>first|(simp[hl,h1];done)|rfl|skip
   rintro e E3 h1 ⟨K,rfl,B,done,rfl,hd,Gi⟩;have K1:E3.length=36:=K.1.trans (by simp[hl]);have IR:A2 E3 2=.ptr 0 0:=C0 K 2 (by simp[hl]);have IS:A2 E3 4=.ptr 1 0:=C0 K 4 (by simp[hl]);have nQ:A2 E3 5=.sl 0 kids.length 0 kids.length:=C0 K 5 (by simp[hl]);clear K;have e1:List.take kids.length (D0 done)=D0 done:=zf5z (by simp[Gi]);simp[K1,IR,IS,nQ,e1,Gi];exact hΨ _ ⟨.mk k nm s (false,true) done,rfl,by simp[Km,HM,hk,hd]⟩
end Go.Abs.Q
