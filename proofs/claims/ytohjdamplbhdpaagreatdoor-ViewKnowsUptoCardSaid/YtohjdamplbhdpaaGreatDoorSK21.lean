/- A part of the proof. -/
import Derived.Test.YtohjdamplbhdpaaGreatDoorSK20
set_option linter.all false
open List renaming getD_eq_getElem?_getD->A0A,getElem?_eq_getElem->A0C,getElem?_eq_some_iff->A0G,getElem_mem->A0H,getElem!_eq_getElem?_getD->A0I,eq_nil_of_length_eq_zero->A0J,all_eq_true->A0L,mem_of_getElem?->A0O,getElem?_map->A0R,map_append->A0T,range->A0U,map_cons->A0W,map_nil->A0Y,mem_map->A0Z
open Nat renaming le_refl->A0B,mul_comm->A0M,zero_le->A0S,le_of_eq->A0a
open Array renaming range->A0D,getD_eq_getD_getElem?->A0E,getElem?_eq_getElem->A0F,getElem?_append_left->A0K,getElem_toList->A0N
open Int renaming lt_or_gt_of_ne->A0P,lt_or_le->A0Q,le_total->A0X,not_lt->A0b
open Option renaming map_some->A0V
namespace Go.Abs.Q
open Go.Proofs
attribute [local simp] D9 E4 fin I8 G6 P7 M4 R4 R3
theorem cu (m:J3) (l:I6) (B8:l.length<=1099511627776) (IH:∀t∈l,∃t',pc Q Y9 [B7 t]=some (B7 t')/\E8 t'=E8 t) (x0 x1 x2:AV) (C:G1) (fr:Fr) (h:AH) (hh:h.boxes=[[x0,x1,x2,.vs true 0 []],C]) (hl:fr.length=24) (h1:A0 fr 1=.ptr 0 0) (h9:A0 fr 9=sl m 4 (A4 l)) (h10:A0 fr 10=.int .i64 l.length) (h11:A0 fr 11=.int .i64 0) :
  B9 (lp (A3 (L5 Q) (E5 Y9) FX) (fr,h)) λe C6 h'=>Kp FX.wr fr C6/\e=.exit 0/\∃(B:List (List AV)) (v:AV) (done:List Tm),h'.boxes=[x0,x1,x2,v]::C::B/\GT 4 (A4 done) v h'/\H2 done=H2 l:=by
 refine B5 rfl fr (λn fr h'=>∃(i:Nat),i+n=l.length/\A0 fr 11=.int .i64 (i:Nat)/\(∃(B:List (List AV)) (v:AV) (done:List Tm),h'.boxes=[x0,x1,x2,v]::C::B/\GT 4 (A4 done) v h'/\H2 done=H2 (l.take i)/\done.length=i)) ?_ l.length h ⟨0,by omega,h11,[],_,[],hh,Gu _ _,by simp[H2],rfl⟩;rintro J Φ hJ hΦ n E1 H1 K ⟨i,hi,k11,hr⟩;have A6:=K.1.trans hl;have k1:=A9 K 1 h1;have k9:=A9 K 9 h9;have k10:=A9 K 10 h10;clear K;by_cases A7:i<l.length
 .have Q6:=D1 i (by omega);obtain⟨B,v,done,hB,hg,hd,DX⟩:=hr;obtain⟨bx,fams⟩:=H1;simp only at hB;subst hB;have hx:=N6 A7;obtain⟨t',hI,ht⟩:=IH l[i] (A0H A7);obtain⟨v',⟨bx',fams'⟩,ha,f7,Qz⟩:=Gv (c:=E5 Y9) (bytes:=56) (x:=B7 t') (h:=⟨[x0,x1,x2,v]::C::(B++[(B7 l[i]).cells]),fams⟩) (GU hg rfl) rfl (true,true) (by simp;omega) (by simp;omega);have e2:H2 (done++[t'])=H2 (l.take (i+1)):=by
   rw[List.take_succ_eq_append_getElem A7,E3,A0T,←E3,hd,E3,E3,A0T,A0W,A0Y,A0W,A0Y,ht]
  have hg2:GT 4 (A4 (done++[t'])) v' ⟨bx',fams'⟩:=by rw[o8];exact f7
  clear ht hd;generalize l[i]=t at *
  simp only at Qz;subst Qz;simp only[L0]at ha;obtain⟨c1,c2,-⟩:=y7 f7;simp[FX,A6,k1,k9,k10,k11,A7,Q6,hx,hI,A5,ha,c1,c2];exact G8 hJ ⟨i+1,by omega,by simp[A6],_,v',done++[t'],rfl,GU hg2 rfl,e2,by simp[DX]⟩
 .obtain⟨B,v,done,hB,hg,hd,DX⟩:=hr;obtain⟨bx,fams⟩:=H1;simp only at hB;subst hB;rw[List.take_of_length_le (by omega)]at hd;simp[FX,A6,k10,k11,A7];exact hΦ _ _ _ ⟨rfl,B,v,done,rfl,hg,hd⟩
theorem Ut:∀(n:Nat) (t:Tm),t.size<=n->t.size<=1099511627776->∃t',pc Q Y9 [B7 t]=some (B7 t')/\E8 t'=E8 t:=by
 intro n
 induction n with
 |zero=>intro t h;have:=t.size_pos;omega
 |succ n ih =>
  intro t hn hb;obtain⟨k,nm,s,m,kids⟩:=t;have I9:Tm.size (.mk k nm s m kids)=1+Tm.sizes kids:=rfl;have B8:=Tm.length_le kids;have KB:=cu m kids (by omega) (λt ht=>ih t (by have:=Tm.size_le ht;omega) (by have:=Tm.size_le ht;omega));clear ih
  suffices h:∃v,pc Q Y9 [B7 (.mk k nm s m kids)]=some v/\∃t',v=B7 t'/\E8 t'=E8 (.mk k nm s m kids) by
   obtain⟨v,h1,t',rfl,h2⟩:=h;exact⟨t',h1,h2⟩
  refine HL OH λΨ hΨ fr hl h0=>?_;simp[OH,B7]at hl h0;simp[OH,hl,h0];refine B9.mono (KB (.int .i64 k) (.str nm) (.int .i64 s) [.int .i64 0,.str (bs []),.int .i64 0,.vs true 0 []] _ _ ?_ ?_ ?_ ?_ ?_ ?_) ?_<;>first|(simp[hl];done)|skip
  rintro e E1 ⟨bx,fams⟩ ⟨K,rfl,B,v,done,hB,hg,hd⟩;simp only at hB;subst hB;have J5:E1.length=24:=K.1.trans (by simp[hl]);have Ey:A0 E1 1=.ptr 0 0:=A9 K 1 (by simp[hl]);have GG:A0 E1 2=.ptr 1 0:=A9 K 2 (by simp[hl]);clear K;obtain⟨mm,hz⟩:=OZ hg;obtain⟨c1,c2,c3⟩:=y7 hg;simp[J5,Ey,GG,hz];exact hΨ _ ⟨.mk k nm s mm done,rfl,by simp[E8,hd]⟩
theorem ky (fr:Fr) (h:AH) (hl:fr.length=32) (h9:A0 fr 9=.int .i64 0) (h10:A0 fr 10=.int .i64 0) :
  B9 (lp (A3 (L5 Q) (E5 Pv) MS) (fr,h)) λe C6 h'=>Kp MS.wr fr C6/\e=.exit 0/\h'=h:=by
 refine B5 rfl fr (λn C6 h'=>C6=fr/\h'=h) ?_ 0 h ⟨rfl,rfl⟩;rintro J Φ hJ hΦ n E1 H1 K ⟨rfl,rfl⟩;simp[MS,hl,h9,h10];exact hΦ _ _ _ ⟨rfl,rfl⟩
theorem ru (m:J3) (t:Tm) (hb:t.size<=1099511627776):∃t',pc Q Pv [B7 t,sl m 1 []]=some (.tup [B7 t',.int .i64 0])/\E8 t'=E8 t:=by
 obtain⟨t',hC,hE⟩:=Ut _ t (A0B _) hb;refine⟨t',?_,hE⟩;refine O2 Sk λfr hl h0 h1=>?_;simp[Sk]at hl h0 h1;simp[Sk,hl,h0,h1];refine B9.mono (ky _ _ ?_ ?_ ?_) ?_<;>first|(simp[hl];done)|skip
 rintro e E1 Ei ⟨K,rfl,rfl⟩;have J5:E1.length=32:=K.1.trans (by simp[hl]);have GG:A0 E1 2=.ptr 0 0:=A9 K 2 (by simp[hl]);have LC:A0 E1 4=.ptr 1 0:=A9 K 4 (by simp[hl]);clear K;simp[J5,GG,LC,hC]
theorem Wn (t:Tm) (hb:t.size<=1099511627776):∃t',pc Q HC [B7 t]=some (B7 t')/\E8 t'=E8 t:=by
 obtain⟨t',hA,hE⟩:=ru (true,false) t hb;refine⟨t',?_,hE⟩;refine M2 KR λfr hl h0=>?_;simp[KR]at hl h0;simp[KR,hl,h0,hA]
theorem ar (t:Tm) (nm:I3):pc Q Hd [B7 t,.str nm]=some (.bool (decide (t.kind=3)&&decide (t.name=nm))):=by
 refine O2 Pc λfr hl h0 h1=>?_;simp[Pc]at hl h0 h1;simp +contextual (maxSteps:=10000000) [Pc,hl,h0,h1]
theorem Hq:∀(n:Nat) (t:Tm),t.size<=n->(E8 t).size=t.size:=by
 intro n
 induction n with
 |zero=>intro t h;have:=t.size_pos;omega
 |succ n ih =>
  intro t hn;obtain⟨k,nm,s,m,l⟩:=t;have I9:Tm.size (.mk k nm s m l)=1+Tm.sizes l:=rfl;have:∀l:List Tm,Tm.sizes l<=n->Tm.sizes (H2 l)=Tm.sizes l:=by
   intro l
   induction l with
   |nil=>intro _;rfl
   |cons a l ihl =>
    intro h;simp only[Tm.sizes]at h;simp only[H2,Tm.sizes,ih a (by omega),ihl (by omega)]
  rw[E8,Tm.size,this l (by omega),I9]
theorem Jp:∀(l:I6),Tm.sizes (H2 l)=Tm.sizes l
 | []=>rfl
 |t::l=>by simp only[H2,Tm.sizes,Hq _ t (A0B _),Jp l]
theorem Ua (l:List UInt8):Op.bytesLess l l=false:=by
 induction l with
 |nil=>rfl
 |cons a l ih=>simp[Op.bytesLess,ih]
theorem gT (a:Int):GX a a=0:=by simp[GX]
theorem gR (a:I3):T4 a a=0:=by simp[T4,Ua]
theorem Xe:∀(n:Nat) (a b:Tm),a.size<=n->E8 a=E8 b->H7 a b=0:=by
 intro n
 induction n with
 |zero=>intro t _ h;have:=t.size_pos;omega
 |succ n ih =>
  intro a b hn he;obtain⟨k,nm,s,m,l⟩:=a;obtain⟨k',nm',s',m',l'⟩:=b;have I9:Tm.size (.mk k nm s m l)=1+Tm.sizes l:=rfl;simp only[E8,Tm.mk.injEq]at he;obtain⟨rfl,rfl,rfl,_,hl⟩:=he;have h1:Tm.sizes l=Tm.sizes l':=by rw[←Jp l,hl,Jp]
  have h2:l.length=l'.length:=by
   have:=congrArg List.length hl;simpa[E3]using this
  have:∀l l':List Tm,Tm.sizes l<=n->H2 l=H2 l'->HY l l'=0:=by
   intro l
   induction l with
   |nil=>intro l' _ h;exact Pk l'
   |cons a l ihl =>
    intro l' hs h;cases l' with
    |nil=>simp[H2]at h
    |cons b l' =>
     simp only[H2,List.cons.injEq]at h;simp only[Tm.sizes]at hs;simp[HY,nz,ih a b (by omega) h.1,ihl l' (by omega) h.2]
  simp[H7,nz,gT,gR,h1,h2,this l l' (by omega) hl]
theorem ed:∀(l l':I6),H2 l=H2 l'->Qd l l'=true
 | [],[],_=>rfl
 | [],b::l',h=>by simp[H2]at h
 |a::l,[],h=>by simp[H2]at h
 |a::l,b::l',h=>by
  simp only[H2,List.cons.injEq]at h;simp[Qd,KZ,Xe _ a b (A0B _) h.1,ed l l' h.2]
end Go.Abs.Q
namespace Go.Abs
open Go.Proofs Go.Shelf Go.RowKit Go.Lib Go.Sort
variable {P:Program} {ρ:Ren}
set_option maxHeartbeats 2000000 in
theorem kc (L:SlLaysF0.n20 P ρ) (p:Option Addr) (cap:Nat) (fv:Value) (w:World) :
  Calls P (ρ.f 20) #[.slice p 1 cap,.int .i64 0,.int .i64 1,fv] w λe w'=>e=.returned (.tuple #[])/\w'=w:=by
 have mixed:=L.mixed;have t0:=L.t0;have a0:=L.a0;have z0:=L.z0;have v0:=L.v0;have t3:=L.t3;have a3:=L.a3;have z3:=L.z3;have v3:=L.v3;have t4:=L.t4;have a4:=L.a4;have z4:=L.z4;have v4:=L.v4;have t22:=L.t22;have a22:=L.a22;have z22:=L.z22;have v22:=L.v22;have t25:=L.t25;have a25:=L.a25;have z25:=L.z25;have v25:=L.v25;obtain⟨_,_,FG⟩:=L.f20
 go_enter FG,SlBodyF.n20_ntmps ρ
 go_wp2
 refine wp_loop_rounds 1 ?_;rw[rounds_succ]
 go_wp2
 go_end0
 exact⟨rfl,rfl⟩
set_option maxHeartbeats 2000000 in
theorem mG (L:SlLaysF0.n14 P ρ) (p:Option Addr) (cap:Nat) (L5:Int) (fv:Value) (w:World) :
  Calls P (ρ.f 14) #[.slice p 1 cap,.int .i64 0,.int .i64 1,.int .i64 L5,fv] w λe w'=>e=.returned (.tuple #[])/\w'=w:=by
 have mixed:=L.mixed;have t0:=L.t0;have a0:=L.a0;have z0:=L.z0;have v0:=L.v0;have t3:=L.t3;have a3:=L.a3;have z3:=L.z3;have v3:=L.v3;have t4:=L.t4;have a4:=L.a4;have z4:=L.z4;have v4:=L.v4;have t5:=L.t5;have a5:=L.a5;have z5:=L.z5;have v5:=L.v5;have t9:=L.t9;have a9:=L.a9;have z9:=L.z9;have v9:=L.v9;have t22:=L.t22;have a22:=L.a22;have z22:=L.z22;have v22:=L.v22;have t25:=L.t25;have a25:=L.a25;have z25:=L.z25;have v25:=L.v25;have t39:=L.t39;have a39:=L.a39;have z39:=L.z39;have v39:=L.v39;have t45:=L.t45;have a45:=L.a45;have z45:=L.z45;have v45:=L.v45;have t46:=L.t46;have a46:=L.a46;have z46:=L.z46;have v46:=L.v46;have t50:=L.t50;have a50:=L.a50;have z50:=L.z50;have v50:=L.v50;have t53:=L.t53;have a53:=L.a53;have z53:=L.z53;have v53:=L.v53;have t55:=L.t55;have a55:=L.a55;have z55:=L.z55;have v55:=L.v55;have t66:=L.t66;have a66:=L.a66;have z66:=L.z66;have v66:=L.v66;have t70:=L.t70;have a70:=L.a70;have z70:=L.z70;have v70:=L.v70;have t76:=L.t76;have a76:=L.a76;have z76:=L.z76;have v76:=L.v76;have t77:=L.t77;have a77:=L.a77;have z77:=L.z77;have v77:=L.v77;have e20:∀args w,(callFunc (ρ.f 20) args).run P w=.ok (.enter (ρ.f 20) args) w:=L.f20.enters rfl;have hi:=λW=>kc (P:=P) (ρ:=ρ) {L with} p cap fv W
 obtain⟨_,_,FG⟩:=L.f14
 go_enter FG,SlBodyF.n14_ntmps ρ
 go_wp2
 refine wp_loop_rounds 1 ?_;rw[rounds_succ]
 go_wp2_with (go_at_fn (ρ.f 20);refine(hi _).mono ?_;rintro e w' ⟨rfl,rfl⟩)
 (try simp only[Exit.inBlock,Exit.then]);refine bodyPost_ret (results_none rfl _ _ _) rfl ?_
 exact⟨rfl,rfl⟩
set_option maxHeartbeats 2000000 in
theorem jY (L:SlLaysF0.n6 P ρ) (p:Option Addr) (cap:Nat) (fv:Value) (w:World) :
  Calls P (ρ.f 6) #[.slice p 1 cap,fv] w λe w'=>e=.returned (.tuple #[])/\w'=w:=by
 have mixed:=L.mixed;have t0:=L.t0;have a0:=L.a0;have z0:=L.z0;have v0:=L.v0;have t3:=L.t3;have a3:=L.a3;have z3:=L.z3;have v3:=L.v3;have t4:=L.t4;have a4:=L.a4;have z4:=L.z4;have v4:=L.v4;have t5:=L.t5;have a5:=L.a5;have z5:=L.z5;have v5:=L.v5;have t9:=L.t9;have a9:=L.a9;have z9:=L.z9;have v9:=L.v9;have t22:=L.t22;have a22:=L.a22;have z22:=L.z22;have v22:=L.v22;have t25:=L.t25;have a25:=L.a25;have z25:=L.z25;have v25:=L.v25;have t39:=L.t39;have a39:=L.a39;have z39:=L.z39;have v39:=L.v39;have t45:=L.t45;have a45:=L.a45;have z45:=L.z45;have v45:=L.v45;have t46:=L.t46;have a46:=L.a46;have z46:=L.z46;have v46:=L.v46;have t50:=L.t50;have a50:=L.a50;have z50:=L.z50;have v50:=L.v50;have t53:=L.t53;have a53:=L.a53;have z53:=L.z53;have v53:=L.v53;have t55:=L.t55;have a55:=L.a55;have z55:=L.z55;have v55:=L.v55;have t66:=L.t66;have a66:=L.a66;have z66:=L.z66;have v66:=L.v66;have t70:=L.t70;have a70:=L.a70;have z70:=L.z70;have v70:=L.v70;have t76:=L.t76;have a76:=L.a76;have z76:=L.z76;have v76:=L.v76;have t77:=L.t77;have a77:=L.a77;have z77:=L.z77;have v77:=L.v77;have e14:∀args w,(callFunc (ρ.f 14) args).run P w=.ok (.enter (ρ.f 14) args) w:=L.f14.enters rfl;have e15:∀args w,(callFunc (ρ.f 15) args).run P w=.ok (.enter (ρ.f 15) args) w:=enters_of L.f15 (by kernel_rfl) rfl;have hp:=λL5 W=>mG (P:=P) (ρ:=ρ) {L with} p cap L5 fv W
 have hl:∀W,Calls P (ρ.f 15) #[.int .u64 1] W λe w'=>e=.returned (.int .i64 (Lib.bitLen 1:Nat))/\w'=W:=λW=>by
  have h:=Any.bits_Len (SlLaysF0.n15.bits (P:=P) (ρ:=ρ) {L with}) 1 W (by omega) (by omega)
  exact h
 obtain⟨_,_,FG⟩:=L.f6
 go_enter FG,SlBodyF.n6_ntmps ρ
 go_wp2_with (first|(go_at_fn (ρ.f 15);refine(hl _).mono ?_;rintro e w' ⟨rfl,rfl⟩)|(go_at_fn (ρ.f 14);refine(hp _ _).mono ?_;rintro e w' ⟨rfl,rfl⟩))
 go_end0
 exact⟨rfl,rfl⟩
end Go.Abs
namespace Go.Abs
open Go.RowKit (Below)
open Go.Proofs (ltOf CmpLays sortWorldK)
open Go.Shelf (Ren)
section
variable {P:Program} {O:Orc} {E:Env}
theorem OB {g:FuncId} {caps xs:G1} (h:SortOk O g caps xs):(Dm O g caps xs).toList.Perm (A0U xs.length)/\Go.Sort.SortedIn (ltOf (gP O g caps xs)) 0 xs.length (Dm O g caps xs):=by
 have hs:(A0D xs.length).size=xs.length:=by simp
 have:=Go.Sort.pdq_sorts (ltOf (gP O g caps xs)) h.swo (A0D xs.length) 0 xs.length (Lib.bitLen xs.length) true true (A0S _) (by rw[hs];exact A0B _) (Or.inl rfl);refine⟨?_,this.2⟩;obtain⟨h1,h2,h3⟩:=this.1;have e1:∀d:Array Nat,d.size=xs.length->d.extract 0 xs.length=d:=λd hd=>by rw[←hd];simp
 rw[e1 _ hs,e1 _ (h1.trans hs)]at h3;unfold Dm;simpa using h3
theorem Rs {g:FuncId} {caps xs:G1} (h:SortOk O g caps xs):(Dm O g caps xs).size=xs.length:=by
 have:=(OB h).1.length_eq;simpa using this
theorem eD {g:FuncId} {caps xs:G1} (h:SortOk O g caps xs) {i:Nat} (hi:i<(Dm O g caps xs).size):(Dm O g caps xs)[i]! < xs.length:=by
 have hm:(Dm O g caps xs)[i]!∈(Dm O g caps xs).toList:=by
  rw[getElem!_pos _ i hi];exact Array.getElem_mem_toList hi
 have:=(OB h).1.mem_iff.1 hm;simpa using this
def KY (cur:Array Value) (off K n i:Nat):List Value:=(A0U K).map λc=>cur.getD (off+Y2 n i*K+c) undef
theorem ZU {cur:Array Value} {off K n i:Nat}:(KY cur off K n i).length=K:=by simp[KY]
theorem UM {cur:Array Value} {off K n i c:Nat} (hc:c<K):(KY cur off K n i)[c]?=some (cur.getD (off+Y2 n i*K+c) undef):=by simp[KY,hc]
theorem Ls.enc {cur:Array Value} {off K n i:Nat} {x:AV} (hi:i<n) (h:Ls E cur (off+i*K) K x):(∀v∈KY cur off K n i,v.oneCell'=true)/\Cg E.w E.ok x.cells (KY cur off K n i):=by
 have GF:Y2 n i=i:=by unfold Y2;rw[if_pos hi]
 obtain⟨h1,h2⟩:=h;have key:∀c,c<K->∃y,x.cells[c]?=some y/\(cur.getD (off+i*K+c) undef).oneCell'=true/\PV E.w E.ok y (cur.getD (off+i*K+c) undef):=by
  intro c hc;have A7:c<x.cells.length:=by omega
  obtain⟨v,e1,e2,e3⟩:=h2 c _ (A0C A7);refine⟨_,A0C A7,?_⟩;have:cur.getD (off+i*K+c) undef=v:=by rw[A0E,e1];rfl
  rw[this];exact⟨e2,e3⟩
 constructor
 .intro v hv;unfold KY at hv;rw[A0Z]at hv;obtain⟨c,hc,rfl⟩:=hv;rw[GF];obtain⟨_,_,k,_⟩:=key c (by simpa using hc);exact k
 .refine SE (by rw[ZU];exact h1.symm) λc y u hy hu=>?_;have hc:c<K:=by have:=(A0G.1 hy).1;omega
  rw[UM hc,GF]at hu;cases hu;obtain⟨y',e1,_,e3⟩:=key c hc;rw[hy]at e1;cases e1;exact e3
theorem Ul {k:Nat} {f:Fam} (hf:E.h.fams[k]?=some f) (hw:f.wr=true) (hS:SR E) {b o:Nat} (ho:E.ok b o):b≠(E.im k).b:=by
 intro e;rcases ho with ⟨h1,_⟩|⟨_,_,_,h4⟩
 .have:=(hS.fams k f hf).base;omega
 .have:=(h4 k f hf e.symm).1;rw[hw]at this;cases this
theorem VT {enc:Nat->List Value} {K blk off m:Nat} {dk:Array Nat} {os:Array Obj} {w:World} {b o:Nat} (hb:b<w.heap.size) (P1:b≠blk):Ig w (sortWorldK enc K w blk off m dk os) b o:=by
 have hh:(sortWorldK enc K w blk off m dk os).heap[b]?=w.heap[b]?:=by
  unfold sortWorldK Go.Sort.grow;show ((Go.Sort.putRowK enc K (Go.Sort.ahead w m) blk off dk).heap++os)[b]?=_;have I9:(Go.Sort.putRowK enc K (Go.Sort.ahead w m) blk off dk).heap.size=w.heap.size:=Go.Sort.size_putRowK _ _ _ _ _ _;rw[A0K (by rw[I9];exact hb)];unfold Go.Sort.putRowK Go.Sort.putRow Go.Sort.mapBlock;simp only[Array.getElem?_modify];rw[if_neg (λe=>P1 e.symm)];rfl
 exact JU hh
theorem eE {ρ:Ren} (L:Go.Proofs.SlLaysF0.n6 P ρ) (hen:Program.enterable P (ρ.f 6)=true) (K:Nat) (aE:∀w,(isAgg (ρ.t 24)).run P w=.ok true w) (zE:∀w,(Go.sizeOf (ρ.t 24)).run P w=.ok K w)
  (hP:OL P O) (args:List AV) (h:AH) (r:AV) (h':AH) (he:(XD K).run O args h=some (r,h')):Program.enterable P (ρ.f 6)=true /\
  ∀(E:Env) (vs:Array Value),SR E->E.h=h->Au E args vs.toList ->
   Calls P (ρ.f 6) vs E.w λe w'=>∃u E',e=.returned u/\w'=E'.w/\Ext E E'/\SR E'/\E'.h=h'/\VR E' r u:=by
 refine⟨hen,λE vs hS hh hv=>?_⟩;subst hh;change Jd K O args E.h=some (r,h')at he;unfold Jd at he;split at he
 .rename_i k n off len g caps;split at he
  .rename_i f hf;split at he
   .rename_i hc;obtain⟨c1,rfl,c3,c4,c5,c6,c7,c8,c9,Cq⟩:=hc;cases he;subst c1;subst c3;obtain⟨vs⟩:=vs;simp only[Au]at hv;obtain⟨v0,_,rfl,hv0,v1,_,rfl,hv1,rfl⟩:=hv;simp only[VR]at hv0 hv1;obtain⟨a,cap,f',rfl,hf',⟨_,_⟩,hv0⟩:=hv0;rw[hf]at hf';cases hf';obtain⟨us,rfl,TU⟩:=hv1;obtain⟨l1,_,l3,_,l5⟩:=hv0 rfl;have Ql:(E.im k).lo=0:=by omega
    have hfam:=hS.fams k f hf;have AY:=hfam.room;have hcap:cap=(E.im k).cap:=by omega
    have ha:a=some ⟨(E.im k).b,(E.im k).o,none⟩:=by
     have:=l5 (by omega);rw[Ql]at this;simpa using this
    subst ha;obtain⟨cur,t,hcur,Cl,Rw⟩:=hfam.cells;rw[Ql]at Rw;have hel':∀(i:Nat) (x:AV),f.xs[i]?=some x->Ls E cur ((E.im k).o+i*K) K x:=λi x hx=>by
     have:=Rw i x (A0S _) hx;rw[c7]at this;simpa using this
    rw[c7]at Cl;generalize hn:f.xs.length=n at *
    have hblk:=hS.im_lt (A0G.1 hf).1;generalize hb:(E.im k).b=blk at *
    generalize ho:(E.im k).o=off at *
    have hnK:off+n*K<=cur.size:=by
     have:n*K<=(E.im k).cap*K:=Nat.mul_le_mul_right _ (by omega);omega
    have hget:∀i,i<n->∃x,f.xs[i]?=some x:=λi hi=>⟨_,A0C (by omega)⟩;have henc:∀i,(∀v∈KY cur off K n i,v.oneCell'=true)/\∃cs,f.xs.getD (Y2 n i) C3=.agg cs/\Cg E.w E.ok cs (KY cur off K n i):=by
     intro i;obtain⟨x,hx⟩:=hget (Y2 n i) (Hn c4);have e1:KY cur off K n i=KY cur off K n (Y2 n i):=by
      unfold KY;have:Y2 n (Y2 n i)=Y2 n i:=by
       have:=Hn (i:=i) c4;show (if Y2 n i<n then Y2 n i else 0)=_
       rw[if_pos this]
      rw[this]
     obtain⟨k1,k2⟩:=(hel' _ x hx).enc (Hn c4);rw[e1];refine⟨k1,?_⟩;have hag:x.isAgg=true:=A0L.1 c9 x (A0O hx);have hgd:f.xs.getD (Y2 n i) C3=x:=by rw[A0A,hx];rfl
     rw[hgd];cases x<;>simp only[AV.isAgg]at hag<;>try (cases hag;done)
     exact⟨_,rfl,k2⟩
    have hfr:E.w.heap[blk]?=some (.cells cur t (0,0)):=hcur;have hH:Go.Sort.HoldsK (KY cur off K n) K E.w blk off (A0D n):=by
     intro j hj;rw[Go.Sort.size_flatK]at hj;have hK:0<K:=by
                rcases Nat.eq_zero_or_pos K with h|h;· subst h;simp at hj
                .exact h
     have hjs:j<n*K:=by simpa using hj
     have hdiv:j / K<n:=Nat.div_lt_of_lt_mul (by rw[A0M];exact hjs);have hmod:j % K<K:=Nat.mod_lt _ hK;have hjj:j / K*K+j % K=j:=by rw[A0M];exact Nat.div_add_mod j K
     rw[Go.Sort.get_flatK _ _ _ _ hj];have e1:(A0D n)[j / K]! = j / K:=by rw[getElem!_pos _ _ (by simpa using hdiv)];simp
     rw[e1];have e2:(KY cur off K n (j / K))[j % K]! = cur.getD (off+j) undef:=by
      have:=UM (cur:=cur) (off:=off) (n:=n) (i:=j / K) hmod;rw[show Y2 n (j / K)=j / K from by unfold Y2;rw[if_pos hdiv],Nat.add_assoc,hjj]at this;rw[A0I,this];rfl
     rw[e2];refine⟨?_,by unfold World.frozen?;rw[hfr];simp⟩;rw[cell_of_row _ _ _ _ _ _ hfr,A0E,A0F (by omega)];rfl
    have hcmp:CmpLays P g us (KY cur off K n) K (gP O g caps f.xs) blk off (A0D n).size E.w:=by
     intro m os dk hdk x y;obtain⟨_,csx,ex,px⟩:=henc x;obtain⟨_,csy,ey,py⟩:=henc y;obtain⟨c,hc⟩:=Cq.ans (Y2 n x) (Y2 n y) (by rw[hn];exact Hn c4) (by rw[hn];exact Hn c4);have hcf:gP O g caps f.xs x y=c:=by unfold gP Xd;rw[hn,hc]
     rw[hcf];rw[ex,ey]at hc;obtain⟨_,hcalls⟩:=hP g _ _ hc;have Gx:∀b o,E.ok b o->E.ok b o/\Ig E.w (sortWorldK (KY cur off K n) K E.w blk off m dk os) b o:=λb o hbo =>
      ⟨hbo,VT (Ra hS hbo) (by rw[←hb];exact Ul hf c6 hS hbo)⟩
     have hcp:Cg E.w E.ok caps us.toList:=by
      refine SE (Gw TU).1 λj z u hz hu=>?_;obtain⟨u',hu',hvr⟩:=(Gw TU).2 hz;rw[hu]at hu';cases hu';exact Tf hvr (A0L.1 c8 z (A0O hz))
     have hpv:Cg (sortWorldK (KY cur off K n) K E.w blk off m dk os) E.ok ([.agg csx,.agg csy]++caps) (#[Value.agg (KY cur off K n x).toArray,Value.agg (KY cur off K n y).toArray]++us).toList:=by
      refine Y0 Gx _ _ ?_;simp only[Array.toList_append,List.cons_append,List.nil_append,Cg,PV];exact⟨_,_,rfl,⟨_,rfl,(henc x).1,px⟩,_,_,rfl,⟨_,rfl,(henc y).1,py⟩,hcp⟩
     refine(hcalls _ E.ok _ (λb o hbo=>Nat.lt_of_lt_of_le (Ra hS hbo) (Go.Proofs.size_sortWorldK_c _ _ _ _ _ _ _ _)) hpv).mono λe w' ⟨u,h1,h2,h3⟩=>?_;simp only[PV]at h3;subst h3;exact⟨h1,cf h2⟩
    have hcalls:=Go.Proofs.AnyQ.slices_SortFunc_eq L K aE zE (KY cur off K n) (λ_=>ZU) (λx=>(henc x).1) (gP O g caps f.xs) Cq.swo g us blk off cap (A0D n) E.w
     (λargs w=>ZV (hP g _ _ (Cq.ans 0 0 (by omega) (by omega)).choose_spec).1 args w) hcmp hH hblk.2 (by simpa using c5)
    rw[show (A0D n).size=n from by simp]at hcalls;refine hcalls.mono λe w' ⟨h1,m,os,h2⟩=>?_;have hidx:Go.Sort.pdq (ltOf (gP O g caps f.xs)) (A0D n) 0 n (Lib.bitLen n) true true=Dm O g caps f.xs:=by unfold Dm;rw[hn]
    rw[hidx]at h2;have I9:=Rs Cq;rw[hn]at I9;generalize hd:Dm O g caps f.xs=d at *
    have A7:∀i,i<n->d[i]! < n:=λi hi=>by have:=eD Cq (i:=i) (by rw[hd];omega);rw[hd]at this;omega
    have hA:Bl E.w.heap.size E.w (Go.Sort.ahead E.w m):=⟨⟨rfl,rfl,rfl,A0B _,λ_ _=>rfl⟩,Nat.le_add_right _ _⟩;have x1:=Az hS hA;have s1:=Ff hS hA;have hcur1:({E with w:=Go.Sort.ahead E.w m}:Env).w.heap[(({E with w:=Go.Sort.ahead E.w m}:Env).im k).b]?=some (.cells cur t (0,0)):=by
     show E.w.heap[(E.im k).b]?=_;rw[hb];exact hcur
    have hf1:({E with w:=Go.Sort.ahead E.w m}:Env).h.fams[k]?=some f:=hf
    have hfl:f.xs.length=({f with xs:=d.toList.map λi=>f.xs.getD i C3}:Fam).xs.length:=by simp;omega
    have x2:=JA s1 hf1 (us:=Go.Sort.putCells id off (Go.Sort.flatK (KY cur off K n) K d) cur) (f':={f with xs:=d.toList.map λi=>f.xs.getD i C3}) hcur1 rfl rfl (A0a hfl) (λhw=>by rw[c6]at hw;cases hw)
    have s2:=NM s1 hf1 (us:=Go.Sort.putCells id off (Go.Sort.flatK (KY cur off K n) K d) cur) (f':={f with xs:=d.toList.map λi=>f.xs.getD i C3}) hcur1 rfl rfl (A0a hfl) (λhw=>by rw[c6]at hw;cases hw)
     (by rw[←hfl];show f.xs.length<=(E.im k).lo+(E.im k).cap;omega) Vy (by
      intro i x _ hx;show Ls _ _ ((E.im k).o+(i-(E.im k).lo)*f.sz) f.sz x;rw[Ql,ho,c7,Nat.sub_zero];simp only[A0R]at hx;have hi:i<n:=by
       rcases Nat.lt_or_ge i n with h|h
       .exact h
       .rw[List.getElem?_eq_none (by simp;omega)]at hx;cases hx
      have hdi:d.toList[i]?=some d[i]!:=by
       rw[getElem!_pos _ i (by omega)];simp[A0F (show i<d.size by omega)]
      rw[hdi]at hx;simp only[A0V,Option.some.injEq]at hx;obtain⟨x',hx'⟩:=hget _ (A7 i hi);have je:x'=x:=by rw[←hx,A0A,hx'];rfl
      subst je;obtain⟨g1,g2⟩:=(hel' _ _ hx').ext x1;refine⟨g1,λc y hy=>?_⟩;have hcK:c<K:=by have:=(A0G.1 hy).1;omega
      obtain⟨v,e1,e2,e3⟩:=g2 c y hy;refine⟨v,?_,e2,e3⟩;have hik:i*K+c<n*K:=CC hi hcK;have hK0:0<K:=by omega
      rw[Xo,A0F (show off+i*K+c<cur.size by omega),A0V,if_pos ⟨by omega,by rw[Go.Sort.size_flatK,I9];omega⟩];rw[show off+i*K+c-off=i*K+c from by omega,Go.Sort.get_flatK _ _ _ _ (by rw[I9];exact hik)];have q1:(i*K+c) / K=i:=by rw[A0M,Nat.mul_add_div hK0,Nat.div_eq_of_lt hcK,Nat.add_zero]
      have q2:(i*K+c) % K=c:=by rw[A0M,Nat.mul_add_mod,Nat.mod_eq_of_lt hcK]
      rw[q1,q2];have:=UM (cur:=cur) (off:=off) (n:=n) (i:=d[i]!) hcK;rw[show Y2 n d[i]! = d[i]! from by unfold Y2;rw[if_pos (A7 i hi)]]at this;rw[A0I,this];simp only[Option.getD_some];rw[A0E,e1];rfl)
    generalize hE2:({E with w:=Go.Sort.ahead E.w m}:Env).setFam k (Go.Sort.putCells id off (Go.Sort.flatK (KY cur off K n) K d) cur) {f with xs:=d.toList.map λi=>f.xs.getD i C3}=E2 at x2 s2
    have hw2:E2.w=Go.Sort.putRowK (KY cur off K n) K (Go.Sort.ahead E.w m) blk off d:=by
     rw[←hE2];show (Go.Sort.ahead E.w m).setRow (E.im k).b _=_;rw[hb];exact(Sa (w:=Go.Sort.ahead E.w m) hcur).symm
    have hB3:Bl E2.w.heap.size E2.w (Go.Sort.grow E2.w os):=by
     refine⟨⟨rfl,rfl,rfl,?_,λi hi=>?_⟩,A0B _⟩
     .simp[Go.Sort.grow]
     .show (E2.w.heap++os)[i]?=_;rw[A0K hi]
    refine⟨.tuple #[],{E2 with w:=Go.Sort.grow E2.w os},h1,?_,(x1.trans x2).trans (Az s2 hB3),Ff s2 hB3,?_,Dv _⟩
    .rw[h2];show _=Go.Sort.grow E2.w os;rw[hw2];rfl
    .show E2.h=_;rw[←hE2];rfl
   .cases he
  .cases he
 .rename_i q z xs g caps;split at he
  .rename_i h0;cases he;obtain⟨vs⟩:=vs;simp only[Au]at hv;obtain⟨v0,_,rfl,hv0,v1,_,rfl,hv1,rfl⟩:=hv;simp only[VR,PV]at hv0;obtain⟨a,len,cap,rfl,hl,_⟩:=hv0;have A6:len=0\/len=1:=by omega
   rcases A6 with A6|A6
   .subst A6;refine(Go.Proofs.AnyF.slices_SortFunc_none L a cap v1 E.w).mono λe w' ⟨h1,h2⟩=>?_;exact⟨_,E,h1,h2,Ext.refl E,hS,rfl,Dv _⟩
   .subst A6;refine(jY L a cap v1 E.w).mono λe w' ⟨h1,h2⟩=>?_;exact⟨_,E,h1,h2,Ext.refl E,hS,rfl,Dv _⟩
  .cases he
 .cases he
end
end Go.Abs
namespace Go.Abs.Q
open Go.Proofs
def T3 (x y z:Int):Prop:=(x<=0->y<=0->z<=0/\(z=0->x=0/\y=0))/\(0<=x->0<=y->0<=z/\(z=0->x=0/\y=0))
theorem WF {x y z x' y' z':Int} (h:T3 x y z) (h':x=0->y=0->T3 x' y' z'):T3 (nz x x') (nz y y') (nz z z'):=by
 unfold T3 nz at *
 by_cases hx:x=0
 .by_cases hy:y=0
  .have hz:z=0:=by
    have h1:=(h.1 (by omega) (by omega)).1;have h2:=(h.2 (by omega) (by omega)).1;omega
   rw[if_pos hx,if_pos hy,if_pos hz];exact h' hx hy
  .rw[if_pos hx,if_neg hy];have hz:z≠0:=by
    intro hz;rcases A0P hy with hl|hl
    .exact hy ((h.1 (by omega) (by omega)).2 hz).2
    .exact hy ((h.2 (by omega) (by omega)).2 hz).2
   rw[if_neg hz];refine⟨λ_ hy'=>⟨(h.1 (by omega) hy').1,λe=>absurd e hz⟩,λ_ hy'=>⟨(h.2 (by omega) hy').1,λe=>absurd e hz⟩⟩
 .rw[if_neg hx];by_cases hy:y=0
  .rw[if_pos hy];have hz:z≠0:=by
    intro hz;rcases A0P hx with hl|hl
    .exact hx ((h.1 (by omega) (by omega)).2 hz).1
    .exact hx ((h.2 (by omega) (by omega)).2 hz).1
   rw[if_neg hz];refine⟨λhx' _=>⟨(h.1 hx' (by omega)).1,λe=>absurd e hz⟩,λhx' _=>⟨(h.2 hx' (by omega)).1,λe=>absurd e hz⟩⟩
  .rw[if_neg hy];refine⟨λa b=>?_,λa b=>?_⟩
   .have hz:z≠0:=λhz=>hx ((h.1 a b).2 hz).1;rw[if_neg hz];exact h.1 a b
   .have hz:z≠0:=λhz=>hx ((h.2 a b).2 hz).1;rw[if_neg hz];exact h.2 a b
theorem XU (a b c:Int):T3 (GX a b) (GX b c) (GX a c):=by
 unfold T3 GX;by_cases h1:a<b<;>by_cases h2:b<c<;>by_cases h3:a<c<;>by_cases h4:b<a<;>by_cases h5:c<b<;>by_cases h6:c<a<;>simp[h1,h2,h3,h4,h5,h6]<;>omega
theorem Nk:∀{a b c:List UInt8},Op.bytesLess a b=true->Op.bytesLess b c=true->Op.bytesLess a c=true
 | [],_,[],h,k=>by cases ‹List UInt8›<;>simp[Op.bytesLess]at h k
 | [],_,_::_,_,_=>rfl
 |x::a,[],c,h,_=>by simp[Op.bytesLess]at h
 |x::a,y::b,[],_,k=>by simp[Op.bytesLess]at k
 |x::a,y::b,z::c,h,k=>by
  have ih:=@Nk a b c;simp only[Op.bytesLess,Bool.or_eq_true,decide_eq_true_eq,Bool.and_eq_true,beq_iff_eq]at h k ⊢;rcases h with h|⟨rfl,h⟩
  .rcases k with k|⟨rfl,k⟩
   .exact .inl (UInt8.lt_trans h k)
   .exact .inl h
  .rcases k with k|⟨rfl,k⟩
   .exact .inl k
   .exact .inr ⟨rfl,ih h k⟩
theorem Nj:∀{a b:List UInt8},a≠b->Op.bytesLess a b=true\/Op.bytesLess b a=true
 | [],[],h=>absurd rfl h
 | [],_::_,_=>.inl rfl
 |_::_,[],_=>.inr rfl
 |x::a,y::b,h=>by
  simp only[Op.bytesLess];by_cases h1:x<y
  .simp[h1]
  .by_cases h2:y<x
   .simp[h2]
   .have:x=y:=UInt8.le_antisymm (UInt8.not_lt.1 h2) (UInt8.not_lt.1 h1);subst this;have ih:=@Nj a b (λe=>h (by rw[e]));simp[h1];exact ih
theorem js (a b c:I3):T3 (T4 a b) (T4 b c) (T4 a c):=by
 have key:∀a b c:List UInt8,T3 (if Op.bytesLess a b then -1 else if a=b then 0 else 1) (if Op.bytesLess b c then -1 else if b=c then 0 else 1) (if Op.bytesLess a c then -1 else if a=c then 0 else 1):=by
  intro a b c;have irr:=Ua;unfold T3;by_cases h1:Op.bytesLess a b=true
  .by_cases h2:Op.bytesLess b c=true
   .have h3:=Nk h1 h2;simp[h1,h2,h3]
   .by_cases e:b=c
    .subst e;simp[h1,irr]
    .have h3:=(Nj e).resolve_left h2;simp[h1,h2,e]
  .by_cases e:a=b
   .subst e;rw[if_neg h1,if_pos rfl];generalize (if Op.bytesLess a c then (-1:Int)else if a=c then 0 else 1)=q
    exact⟨λ_ h=>⟨h,λe=>⟨rfl,e⟩⟩,λ_ h=>⟨h,λe=>⟨rfl,e⟩⟩⟩
   .have h3:=(Nj e).resolve_left h1;by_cases h2:Op.bytesLess b c=true
    .simp[h1,e,h2]
    .by_cases e2:b=c
     .subst e2;simp[h1,e,h2]
     .have h4:=(Nj e2).resolve_left h2;have h5:=Nk h4 h3;have h6:Op.bytesLess a c=false:=by
       cases h:Op.bytesLess a c with
       |false=>rfl
       |true=>have:=Nk h h5;rw[irr]at this;cases this
      have h7:a≠c:=λh=>by subst h;rw[irr]at h5;cases h5
      simp[h1,e,h2,e2,h6,h7]
 unfold T4;exact key _ _ _
theorem uI:∀(n:Nat) (a b c:Tm),a.size<=n->T3 (H7 a b) (H7 b c) (H7 a c):=by
 intro n
 induction n with
 |zero=>intro a _ _ h;have:=a.size_pos;omega
 |succ n ih =>
  intro a b c hn;obtain⟨k,nm,s,m,l⟩:=a;obtain⟨k',nm',s',m',l'⟩:=b;obtain⟨k2,nm2,s2,m2,l2⟩:=c;have I9:Tm.size (.mk k nm s m l)=1+Tm.sizes l:=rfl;simp only[H7];refine WF (XU _ _ _) λ_ _=>WF (XU _ _ _) λ_ _=>WF (js _ _ _) λ_ _=>WF (XU _ _ _) λ_ _=>WF (XU _ _ _) λh1 h2=>?_;have e1:=RL h1;have e2:=RL h2;have:∀l l' l2:List Tm,Tm.sizes l<=n->l.length=l'.length->l'.length=l2.length->T3 (HY l l') (HY l' l2) (HY l l2):=by
   intro l
   induction l with
   |nil =>
    intro l' l2 _ h1 h2;have:l'=[]:=A0J h1.symm;subst this;simp only[Pk];unfold T3;omega
   |cons a l ihl =>
    intro l' l2 hs h1 h2;cases l' with
    |nil=>simp at h1
    |cons b l' =>
     cases l2 with
     |nil=>simp at h2
     |cons c l2 =>
      simp only[Tm.sizes]at hs;simp only[HY];exact WF (ih a b c (by omega)) λ_ _=>ihl l' l2 (by omega) (by simpa using h1) (by simpa using h2)
  exact this l l' l2 (by omega) e1 e2
theorem gI (a b c:Tm):T3 (H7 a b) (H7 b c) (H7 a c):=uI _ a b c (A0B _)
theorem NA (a:Tm):H7 a a=0:=Xe _ a a (A0B _) rfl
theorem NB {a b:Tm}:(H7 a b<0↔0<H7 b a)/\(H7 a b=0↔H7 b a=0):=by
 have h:=gI a b a;rw[NA]at h;unfold T3 at h;have h1:H7 a b<=0->H7 b a<=0->H7 a b=0/\H7 b a=0:=λp q=>(h.1 p q).2 rfl;have h2:0<=H7 a b->0<=H7 b a->H7 a b=0/\H7 b a=0:=λp q=>(h.2 p q).2 rfl;constructor<;>constructor<;>intro hh
 .rcases A0Q 0 (H7 b a)with q|q
  .exact q
  .have:=h1 (by omega) q;omega
 .rcases A0Q (H7 a b) 0 with q|q
  .exact q
  .have:=h2 q (by omega);omega
 .rcases A0X 0 (H7 b a)with q|q
  .exact(h2 (by omega) q).2
  .exact(h1 (by omega) q).2
 .rcases A0X 0 (H7 a b)with q|q
  .exact(h2 q (by omega)).1
  .exact(h1 q (by omega)).1
theorem HG {a b c:Tm} (h:H7 a b<0) (k:H7 b c<0):H7 a c<0:=by
 have:=(gI a b c).1 (by omega) (by omega);rcases Int.lt_or_eq_of_le this.1 with q|q
 .exact q
 .have:=this.2 q;omega
theorem fM {a b:Int}:nz a b=0↔a=0/\b=0:=by
 unfold nz;split<;>simp_all
theorem gU {a b:Int}:GX a b=0↔a=b:=by
 unfold GX;split
 .constructor<;>intro h<;>omega
 .split<;>constructor<;>intro h<;>omega
theorem gS {a b:I3}:T4 a b=0↔a=b:=by
 unfold T4;split
 .rename_i h;constructor
  .intro e;omega
  .intro e;subst e;rw[Ua]at h;cases h
 .split
  .rename_i h;simp[(R4 a b).1 h]
  .rename_i h;constructor
   .intro e;omega
   .intro e;exact absurd (by rw[e]) h
theorem nd:∀(n:Nat) (a b:Tm),a.size<=n->H7 a b=0->E8 a=E8 b:=by
 intro n
 induction n with
 |zero=>intro a _ h;have:=a.size_pos;omega
 |succ n ih =>
  intro a b hn h;obtain⟨k,nm,s,m,l⟩:=a;obtain⟨k',nm',s',m',l'⟩:=b;have I9:Tm.size (.mk k nm s m l)=1+Tm.sizes l:=rfl;simp only[H7,fM,gU,gS]at h;obtain⟨_,rfl,rfl,rfl,h1,h2⟩:=h;have e1:l.length=l'.length:=by omega
  have:∀l l':List Tm,Tm.sizes l<=n->l.length=l'.length->HY l l'=0->H2 l=H2 l':=by
   intro l
   induction l with
   |nil=>intro l' _ h1 _;rw[A0J h1.symm]
   |cons a l ihl =>
    intro l' hs h1 h2;cases l' with
    |nil=>simp at h1
    |cons b l' =>
     simp only[Tm.sizes]at hs;simp only[HY,fM]at h2;simp only[H2,ih a b (by omega) h2.1,ihl l' (by omega) (by simpa using h1) h2.2]
  simp only[E8,this l l' (by omega) e1 h2]
theorem Bz {a b:Tm}:H7 a b=0↔E8 a=E8 b:=⟨nd _ a b (A0B _),Xe _ a b (A0B _)⟩
theorem YI {α:Type} {R:α->α->Prop} {l:List α} (h:∀(i j:Nat) (hi:i<l.length) (hj:j<l.length),i<j->R l[i] l[j]):l.Pairwise R:=by
 rw[List.pairwise_iff_getElem];exact h
theorem Rl (k:Nat) (h:AH) (l:I6) (hk:h.fams[k]?=some ⟨A4 l,4,true⟩) (P1:l≠[]) (I9:∀t∈l,t.size<=1099511627776) (B8:l.length<=1099511627776) :
  ∃l':List Tm,l'.Perm l/\l'.Pairwise (λa b=>H7 a b<=0)/\rc Q D5 [.sl k l.length 0 l.length,.fn C2 []] h=some (C3,⟨h.boxes,h.fams.set k ⟨A4 l',4,true⟩⟩):=by
 have hl:(A4 l).length=l.length:=by simp
 have K1:0<l.length:=List.length_pos_iff.2 P1;have hget:∀i,i<l.length->(A4 l).getD i C3=B7 (l.getD i (.mk 0 (bs []) 0 (true,true) [])):=by
  intro i hi;rw[D6,A0A,A0A,A0R,A0C hi];rfl
 have Ow:∀i,i<l.length->l.getD i (.mk 0 (bs []) 0 (true,true) [])∈l:=by
  intro i hi;rw[A0A,A0C hi];exact A0H hi
 have hans:∀i j,i<l.length->j<l.length->(L5 Q).pure C2 ([(A4 l).getD i C3,(A4 l).getD j C3]++[])=some (.int .i64 (H7 (l.getD i (.mk 0 (bs []) 0 (true,true) [])) (l.getD j (.mk 0 (bs []) 0 (true,true) [])))):=by
  intro i j hi hj;rw[hget i hi,hget j hj];exact m9 _ _ _ (A0B _) (I9 _ (Ow i hi)) (I9 _ (Ow j hj))
 have hcf:∀i j,gP (L5 Q) C2 [] (A4 l) i j=H7 (l.getD (Y2 l.length i) (.mk 0 (bs []) 0 (true,true) [])) (l.getD (Y2 l.length j) (.mk 0 (bs []) 0 (true,true) [])):=by
  intro i j;unfold gP Xd;rw[hl,hans _ _ (Hn K1) (Hn K1)]
 have Cq:SortOk (L5 Q) C2 [] (A4 l):=by
  refine⟨λi j hi hj=>⟨_,hans i j (by omega) (by omega)⟩,⟨λx=>?_,λx y z=>?_,λx y z=>?_⟩⟩
  .simp[ltOf,hcf,NA]
  .simp only[ltOf,hcf,decide_eq_true_eq];exact HG
  .simp only[ltOf,hcf,decide_eq_false_iff_not,A0b];intro a b;exact((gI _ _ _).2 a b).1
 obtain⟨p1,p2⟩:=OB Cq;have psz:=Rs Cq;rw[hl]at p1 p2 psz;have ew:rc Q D5 [.sl k l.length 0 l.length,.fn C2 []] h=some (C3,⟨h.boxes,h.fams.set k ⟨(Dm (L5 Q) C2 [] (A4 l)).toList.map λi=>(A4 l).getD i C3,4,true⟩⟩):=by
  refine MN (s:=XD 4) rfl rfl ?_;change Jd 4 (L5 Q) [.sl k l.length 0 l.length,.fn C2 []] h=_;unfold Jd;simp only[hk];rw[if_pos ⟨hl,rfl,rfl,K1,by omega,rfl,rfl,rfl,by
   rw[A0L];intro x hx;rw[D6,A0Z]at hx;obtain⟨t,_,rfl⟩:=hx;cases t;rfl,Cq⟩]
 generalize hd:Dm (L5 Q) C2 [] (A4 l)=d at *
 have A7:∀i∈d.toList,i<l.length:=λi hi=>by simpa using p1.mem_iff.1 hi
 have e1:(d.toList.map λi=>(A4 l).getD i C3)=A4 (d.toList.map λi=>l.getD i (.mk 0 (bs []) 0 (true,true) [])):=by
  rw[D6 (d.toList.map _),List.map_map];exact List.map_congr_left λi hi=>hget i (A7 i hi)
 refine⟨d.toList.map λi=>l.getD i (.mk 0 (bs []) 0 (true,true) []),?_,?_,by rw[ew,e1]⟩
 .have h1:=p1.map λi=>l.getD i (.mk 0 (bs []) 0 (true,true) []);have h2:(A0U l.length).map (λi=>l.getD i (.mk 0 (bs []) 0 (true,true) []))=l:=by
   apply List.ext_getElem
   .simp
   .intro i g1 g2;simp[A0A,g2]
  rw[h2]at h1;exact h1
 .refine YI λi j hi hj hij=>?_;simp only[List.length_map,Array.length_toList]at hi hj;have h1:=p2 i j (A0S _) hij (by omega);have CW:=A7 (d.toList[i]'(by simpa using hi)) (A0H _);have hj':=A7 (d.toList[j]'(by simpa using hj)) (A0H _);rw[getElem!_pos d i hi,getElem!_pos d j hj]at h1;simp only[A0N]at CW hj';simp only[ltOf,hcf,decide_eq_false_iff_not,A0b]at h1;rw[show Y2 l.length d[i]=d[i] from by unfold Y2;rw[if_pos CW],show Y2 l.length d[j]=d[j] from by unfold Y2;rw[if_pos hj']]at h1;simp only[List.getElem_map,A0N];rcases A0Q 0 (H7 (l.getD d[i] (.mk 0 (bs []) 0 (true,true) [])) (l.getD d[j] (.mk 0 (bs []) 0 (true,true) [])))with q|q
  .have:=NB.1.2 q;omega
  .exact q
end Go.Abs.Q
