/- A part of the proof. -/
import Derived.Test.YtohjdamplbhdpaaGreatDoorSD18
set_option linter.all false
open List renaming getD_eq_getElem?_getD->oD,getElem?_eq_getElem->xX,getElem?_eq_some_iff->xc,getElem_mem->xd,getElem!_eq_getElem?_getD->xe,eq_nil_of_length_eq_zero->xf,all_eq_true->xh,mem_of_getElem?->xk,getElem?_map->xn,map_append->xp,range->xq,map_cons->xt,map_nil->xw,mem_map->xy
open Nat renaming le_refl->xY,mul_comm->xi,zero_le->xo,le_of_eq->xz
open Array renaming range->xZ,getD_eq_getD_getElem?->xa,getElem?_eq_getElem->xb,getElem?_append_left->xg,getElem_toList->xj
open Int renaming lt_or_gt_of_ne->xl,lt_or_le->xm,le_total->xu,not_lt->yA
open Option renaming map_some->xr
namespace Go.Abs.Q
open Go.Proofs
attribute [local simp] D1 D4 fin I2 G0 K7 I3 N4 O5
theorem ZJ (m:J0) (l:I1) (C2:l.length<=1099511627776) (IH:∀t∈l,∃t',pc Q W8 [B8 t]=some (B8 t')/\D2 t'=D2 t) (x0 x1 x2:AV) (C:E5) (fr:Fr) (h:AH) (hh:h.boxes=[[x0,x1,x2,.vs true 0 []],C]) (hl:fr.length=24) (h1:A0 fr 1=.ptr 0 0) (h9:A0 fr 9=sl m 4 (A4 l)) (h10:A0 fr 10=.int .i64 l.length) (h11:A0 fr 11=.int .i64 0) :
  C8 (lp (A1 (Q8 Q) (G8 W8) Di) (fr,h)) λe D3 h'=>Kp Di.wr fr D3/\e=.exit 0/\∃(B:List (List AV)) (v:AV) (done:List Tm),h'.boxes=[x0,x1,x2,v]::C::B/\Mq 4 (A4 done) v h'/\H3 done=H3 l:=by
 refine C3 rfl fr (λn fr h'=>∃(i:Nat),i+n=l.length/\A0 fr 11=.int .i64 (i:Nat)/\(∃(B:List (List AV)) (v:AV) (done:List Tm),h'.boxes=[x0,x1,x2,v]::C::B/\Mq 4 (A4 done) v h'/\H3 done=H3 (l.take i)/\done.length=i)) ?_ l.length h ⟨0,by omega,h11,[],_,[],hh,OJ _ _,by simp[H3],rfl⟩;rintro J Φ hJ hΦ n H0 H1 K ⟨i,hi,k11,hr⟩;have B5:=K.1.trans hl;have k1:=A5 K 1 h1;have k9:=A5 K 9 h9;have k10:=A5 K 10 h10;clear K;by_cases A7:i<l.length
 .have V9:=E6 i (by omega);obtain⟨B,v,done,hB,hg,hd,EF⟩:=hr;obtain⟨bx,fams⟩:=H1;simp only at hB;subst hB;have hx:=U2 A7;obtain⟨t',hI,ht⟩:=IH l[i] (xd A7);obtain⟨v',⟨bx',fams'⟩,ha,DF,fk⟩:=Qj (c:=G8 W8) (bytes:=56) (x:=B8 t') (h:=⟨[x0,x1,x2,v]::C::(B++[(B8 l[i]).cells]),fams⟩) (FN hg rfl) rfl (true,true) (by simp;omega) (by simp;omega);have e2:H3 (done++[t'])=H3 (l.take (i+1)):=by
   rw[List.take_succ_eq_append_getElem A7,E4,xp,←E4,hd,E4,E4,xp,xt,xw,xt,xw,ht]
  have hg2:Mq 4 (A4 (done++[t'])) v' ⟨bx',fams'⟩:=by rw[EA];exact DF
  clear ht hd;generalize l[i]=t at *
  simp only at fk;subst fk;simp only[H4]at ha;obtain⟨c1,c2,-⟩:=Dl DF;simp[Di,B5,k1,k9,k10,k11,A7,V9,hx,hI,A3,ha,c1,c2];exact O9 hJ ⟨i+1,by omega,by simp[B5],_,v',done++[t'],rfl,FN hg2 rfl,e2,by simp[EF]⟩
 .obtain⟨B,v,done,hB,hg,hd,EF⟩:=hr;obtain⟨bx,fams⟩:=H1;simp only at hB;subst hB;rw[List.take_of_length_le (by omega)]at hd;simp[Di,B5,k10,k11,A7];exact hΦ _ _ _ ⟨rfl,B,v,done,rfl,hg,hd⟩
theorem SK:∀(n:Nat) (t:Tm),t.size<=n->t.size<=1099511627776->∃t',pc Q W8 [B8 t]=some (B8 t')/\D2 t'=D2 t:=by
 intro n
 induction n with
 |zero=>intro t h;have:=t.size_pos;omega
 |succ n ih =>
  intro t hn hb;obtain⟨k,nm,s,m,kids⟩:=t;have K3:Tm.size (.mk k nm s m kids)=1+Tm.sizes kids:=rfl;have C2:=Tm.length_le kids;have Pc:=ZJ m kids (by omega) (λt ht=>ih t (by have:=Tm.size_le ht;omega) (by have:=Tm.size_le ht;omega));clear ih
  suffices h:∃v,pc Q W8 [B8 (.mk k nm s m kids)]=some v/\∃t',v=B8 t'/\D2 t'=D2 (.mk k nm s m kids) by
   obtain⟨v,h1,t',rfl,h2⟩:=h;exact⟨t',h1,h2⟩
  refine Ja LK λΨ hΨ fr hl h0=>?_;simp[LK,B8]at hl h0;simp[LK,hl,h0];refine C8.mono (Pc (.int .i64 k) (.str nm) (.int .i64 s) [.int .i64 0,.str (bs []),.int .i64 0,.vs true 0 []] _ _ ?_ ?_ ?_ ?_ ?_ ?_) ?_<;>first|(simp[hl];done)|skip
  rintro e H0 ⟨bx,fams⟩ ⟨K,rfl,B,v,done,hB,hg,hd⟩;simp only at hB;subst hB;have M7:H0.length=24:=K.1.trans (by simp[hl]);have GB:A0 H0 1=.ptr 0 0:=A5 K 1 (by simp[hl]);have FH:A0 H0 2=.ptr 1 0:=A5 K 2 (by simp[hl]);clear K;obtain⟨mm,hz⟩:=WL hg;obtain⟨c1,c2,c3⟩:=Dl hg;simp[M7,GB,FH,hz];exact hΨ _ ⟨.mk k nm s mm done,rfl,by simp[D2,hd]⟩
theorem gF (fr:Fr) (h:AH) (hl:fr.length=32) (h9:A0 fr 9=.int .i64 0) (h10:A0 fr 10=.int .i64 0) :
  C8 (lp (A1 (Q8 Q) (G8 ND) JO) (fr,h)) λe D3 h'=>Kp JO.wr fr D3/\e=.exit 0/\h'=h:=by
 refine C3 rfl fr (λn D3 h'=>D3=fr/\h'=h) ?_ 0 h ⟨rfl,rfl⟩;rintro J Φ hJ hΦ n H0 H1 K ⟨rfl,rfl⟩;simp[JO,hl,h9,h10];exact hΦ _ _ _ ⟨rfl,rfl⟩
theorem nJ (m:J0) (t:Tm) (hb:t.size<=1099511627776):∃t',pc Q ND [B8 t,sl m 1 []]=some (.tup [B8 t',.int .i64 0])/\D2 t'=D2 t:=by
 obtain⟨t',hC,hE⟩:=SK _ t (xY _) hb;refine⟨t',?_,hE⟩;refine R9 Pv λfr hl h0 h1=>?_;simp[Pv]at hl h0 h1;simp[Pv,hl,h0,h1];refine C8.mono (gF _ _ ?_ ?_ ?_) ?_<;>first|(simp[hl];done)|skip
 rintro e H0 Jp ⟨K,rfl,rfl⟩;have M7:H0.length=32:=K.1.trans (by simp[hl]);have FH:A0 H0 2=.ptr 0 0:=A5 K 2 (by simp[hl]);have MC:A0 H0 4=.ptr 1 0:=A5 K 4 (by simp[hl]);clear K;simp[M7,FH,MC,hC]
theorem UU (t:Tm) (hb:t.size<=1099511627776):∃t',pc Q Ej [B8 t]=some (B8 t')/\D2 t'=D2 t:=by
 obtain⟨t',hA,hE⟩:=nJ (true,false) t hb;refine⟨t',?_,hE⟩;refine N0 HX λfr hl h0=>?_;simp[HX]at hl h0;simp[HX,hl,h0,hA]
theorem Xr (t:Tm) (nm:H6):pc Q FJ [B8 t,.str nm]=some (.bool (decide (t.kind=3)&&decide (t.name=nm))):=by
 refine R9 Mk λfr hl h0 h1=>?_;simp[Mk]at hl h0 h1;simp +contextual (maxSteps:=10000000) [Mk,hl,h0,h1]
theorem Dn:∀(n:Nat) (t:Tm),t.size<=n->(D2 t).size=t.size:=by
 intro n
 induction n with
 |zero=>intro t h;have:=t.size_pos;omega
 |succ n ih =>
  intro t hn;obtain⟨k,nm,s,m,l⟩:=t;have K3:Tm.size (.mk k nm s m l)=1+Tm.sizes l:=rfl;have:∀l:List Tm,Tm.sizes l<=n->Tm.sizes (H3 l)=Tm.sizes l:=by
   intro l
   induction l with
   |nil=>intro _;rfl
   |cons a l ihl =>
    intro h;simp only[Tm.sizes]at h;simp only[H3,Tm.sizes,ih a (by omega),ihl (by omega)]
  rw[D2,Tm.size,this l (by omega),K3]
theorem Lv:∀(l:I1),Tm.sizes (H3 l)=Tm.sizes l
 | []=>rfl
 |t::l=>by simp only[H3,Tm.sizes,Dn _ t (xY _),Lv l]
theorem Ro (l:List UInt8):Op.bytesLess l l=false:=by
 induction l with
 |nil=>rfl
 |cons a l ih=>simp[Op.bytesLess,ih]
theorem cE (a:Int):ET a a=0:=by simp[ET]
theorem cB (a:H6):Q6 a a=0:=by simp[Q6,Ro]
theorem aN:∀(n:Nat) (a b:Tm),a.size<=n->D2 a=D2 b->G9 a b=0:=by
 intro n
 induction n with
 |zero=>intro t _ h;have:=t.size_pos;omega
 |succ n ih =>
  intro a b hn he;obtain⟨k,nm,s,m,l⟩:=a;obtain⟨k',nm',s',m',l'⟩:=b;have K3:Tm.size (.mk k nm s m l)=1+Tm.sizes l:=rfl;simp only[D2,Tm.mk.injEq]at he;obtain⟨rfl,rfl,rfl,_,hl⟩:=he;have h1:Tm.sizes l=Tm.sizes l':=by rw[←Lv l,hl,Lv]
  have h2:l.length=l'.length:=by
   have:=congrArg List.length hl;simpa[E4]using this
  have:∀l l':List Tm,Tm.sizes l<=n->H3 l=H3 l'->FE l l'=0:=by
   intro l
   induction l with
   |nil=>intro l' _ h;exact Mt l'
   |cons a l ihl =>
    intro l' hs h;cases l' with
    |nil=>simp[H3]at h
    |cons b l' =>
     simp only[H3,List.cons.injEq]at h;simp only[Tm.sizes]at hs;simp[FE,nz,ih a b (by omega) h.1,ihl l' (by omega) h.2]
  simp[G9,nz,cE,cB,h1,h2,this l l' (by omega) hl]
end Go.Abs.Q
namespace Go.Abs
open Go.Proofs Go.Shelf Go.RowKit Go.Lib Go.Sort
variable {P:Program} {ρ:Ren}
set_option maxHeartbeats 2000000 in
theorem fo (L:SlLaysF0.n20 P ρ) (p:Option Addr) (cap:Nat) (fv:Value) (w:World) :
  Calls P (ρ.f 20) #[.slice p 1 cap,.int .i64 0,.int .i64 1,fv] w λe w'=>e=.returned (.tuple #[])/\w'=w:=by
 have mixed:=L.mixed;have t0:=L.t0;have a0:=L.a0;have z0:=L.z0;have v0:=L.v0;have t3:=L.t3;have a3:=L.a3;have z3:=L.z3;have v3:=L.v3;have t4:=L.t4;have a4:=L.a4;have z4:=L.z4;have v4:=L.v4;have t22:=L.t22;have a22:=L.a22;have z22:=L.z22;have v22:=L.v22;have t25:=L.t25;have a25:=L.a25;have z25:=L.z25;have v25:=L.v25;obtain⟨_,_,FG⟩:=L.f20
 go_enter FG,SlBodyF.n20_ntmps ρ
 go_wp2
 refine wp_loop_rounds 1 ?_;rw[rounds_succ]
 go_wp2
 go_end0
 exact⟨rfl,rfl⟩
set_option maxHeartbeats 2000000 in
theorem iA (L:SlLaysF0.n14 P ρ) (p:Option Addr) (cap:Nat) (Q8:Int) (fv:Value) (w:World) :
  Calls P (ρ.f 14) #[.slice p 1 cap,.int .i64 0,.int .i64 1,.int .i64 Q8,fv] w λe w'=>e=.returned (.tuple #[])/\w'=w:=by
 have mixed:=L.mixed;have t0:=L.t0;have a0:=L.a0;have z0:=L.z0;have v0:=L.v0;have t3:=L.t3;have a3:=L.a3;have z3:=L.z3;have v3:=L.v3;have t4:=L.t4;have a4:=L.a4;have z4:=L.z4;have v4:=L.v4;have t5:=L.t5;have a5:=L.a5;have z5:=L.z5;have v5:=L.v5;have t9:=L.t9;have a9:=L.a9;have z9:=L.z9;have v9:=L.v9;have t22:=L.t22;have a22:=L.a22;have z22:=L.z22;have v22:=L.v22;have t25:=L.t25;have a25:=L.a25;have z25:=L.z25;have v25:=L.v25;have t39:=L.t39;have a39:=L.a39;have z39:=L.z39;have v39:=L.v39;have t45:=L.t45;have a45:=L.a45;have z45:=L.z45;have v45:=L.v45;have t46:=L.t46;have a46:=L.a46;have z46:=L.z46;have v46:=L.v46;have t50:=L.t50;have a50:=L.a50;have z50:=L.z50;have v50:=L.v50;have t53:=L.t53;have a53:=L.a53;have z53:=L.z53;have v53:=L.v53;have t55:=L.t55;have a55:=L.a55;have z55:=L.z55;have v55:=L.v55;have t66:=L.t66;have a66:=L.a66;have z66:=L.z66;have v66:=L.v66;have t70:=L.t70;have a70:=L.a70;have z70:=L.z70;have v70:=L.v70;have t76:=L.t76;have a76:=L.a76;have z76:=L.z76;have v76:=L.v76;have t77:=L.t77;have a77:=L.a77;have z77:=L.z77;have v77:=L.v77;have e20:∀args w,(callFunc (ρ.f 20) args).run P w=.ok (.enter (ρ.f 20) args) w:=L.f20.enters rfl;have hi:=λW=>fo (P:=P) (ρ:=ρ) {L with} p cap fv W
 obtain⟨_,_,FG⟩:=L.f14
 go_enter FG,SlBodyF.n14_ntmps ρ
 go_wp2
 refine wp_loop_rounds 1 ?_;rw[rounds_succ]
 go_wp2_with (go_at_fn (ρ.f 20);refine(hi _).mono ?_;rintro e w' ⟨rfl,rfl⟩)
 (try simp only[Exit.inBlock,Exit.then]);refine bodyPost_ret (results_none rfl _ _ _) rfl ?_
 exact⟨rfl,rfl⟩
set_option maxHeartbeats 2000000 in
theorem eP (L:SlLaysF0.n6 P ρ) (p:Option Addr) (cap:Nat) (fv:Value) (w:World) :
  Calls P (ρ.f 6) #[.slice p 1 cap,fv] w λe w'=>e=.returned (.tuple #[])/\w'=w:=by
 have mixed:=L.mixed;have t0:=L.t0;have a0:=L.a0;have z0:=L.z0;have v0:=L.v0;have t3:=L.t3;have a3:=L.a3;have z3:=L.z3;have v3:=L.v3;have t4:=L.t4;have a4:=L.a4;have z4:=L.z4;have v4:=L.v4;have t5:=L.t5;have a5:=L.a5;have z5:=L.z5;have v5:=L.v5;have t9:=L.t9;have a9:=L.a9;have z9:=L.z9;have v9:=L.v9;have t22:=L.t22;have a22:=L.a22;have z22:=L.z22;have v22:=L.v22;have t25:=L.t25;have a25:=L.a25;have z25:=L.z25;have v25:=L.v25;have t39:=L.t39;have a39:=L.a39;have z39:=L.z39;have v39:=L.v39;have t45:=L.t45;have a45:=L.a45;have z45:=L.z45;have v45:=L.v45;have t46:=L.t46;have a46:=L.a46;have z46:=L.z46;have v46:=L.v46;have t50:=L.t50;have a50:=L.a50;have z50:=L.z50;have v50:=L.v50;have t53:=L.t53;have a53:=L.a53;have z53:=L.z53;have v53:=L.v53;have t55:=L.t55;have a55:=L.a55;have z55:=L.z55;have v55:=L.v55;have t66:=L.t66;have a66:=L.a66;have z66:=L.z66;have v66:=L.v66;have t70:=L.t70;have a70:=L.a70;have z70:=L.z70;have v70:=L.v70;have t76:=L.t76;have a76:=L.a76;have z76:=L.z76;have v76:=L.v76;have t77:=L.t77;have a77:=L.a77;have z77:=L.z77;have v77:=L.v77;have e14:∀args w,(callFunc (ρ.f 14) args).run P w=.ok (.enter (ρ.f 14) args) w:=L.f14.enters rfl;have e15:∀args w,(callFunc (ρ.f 15) args).run P w=.ok (.enter (ρ.f 15) args) w:=enters_of L.f15 (by kernel_rfl) rfl;have hp:=λQ8 W=>iA (P:=P) (ρ:=ρ) {L with} p cap Q8 fv W
 have hl:∀W,Calls P (ρ.f 15) #[.int .u64 1] W λe w'=>e=.returned (.int .i64 (Lib.bitLen 1:Nat))/\w'=W:=λW=>by
  have h:=Any.bits_Len (SlLaysF0.n15.bits (P:=P) (ρ:=ρ) {L with}) 1 W (by omega) (by omega)
  exact h
 obtain⟨_,_,FG⟩:=L.f6
 go_enter FG,SlBodyF.n6_ntmps ρ
 go_wp2_with (first|(go_at_fn (ρ.f 15);refine(hl _).mono ?_;rintro e w' ⟨rfl,rfl⟩)|(go_at_fn (ρ.f 14);refine(hp _ _).mono ?_;rintro e w' ⟨rfl,rfl⟩))
 go_end0
 exact⟨rfl,rfl⟩
end Go.Abs
namespace Go.Abs
open Go.RowKit (Below)
open Go.Proofs (ltOf CmpLays sortWorldK)
open Go.Shelf (Ren)
section
variable {P:Program} {O:Orc} {E:Env}
theorem LC {g:FuncId} {caps xs:E5} (h:SortOk O g caps xs):(CQ O g caps xs).toList.Perm (xq xs.length)/\Go.Sort.SortedIn (ltOf (bz O g caps xs)) 0 xs.length (CQ O g caps xs):=by
 have hs:(xZ xs.length).size=xs.length:=by simp
 have:=Go.Sort.pdq_sorts (ltOf (bz O g caps xs)) h.swo (xZ xs.length) 0 xs.length (Lib.bitLen xs.length) true true (xo _) (by rw[hs];exact xY _) (Or.inl rfl);refine⟨?_,this.2⟩;obtain⟨h1,h2,h3⟩:=this.1;have e1:∀d:Array Nat,d.size=xs.length->d.extract 0 xs.length=d:=λd hd=>by rw[←hd];simp
 rw[e1 _ hs,e1 _ (h1.trans hs)]at h3;unfold CQ;simpa using h3
theorem PF {g:FuncId} {caps xs:E5} (h:SortOk O g caps xs):(CQ O g caps xs).size=xs.length:=by
 have:=(LC h).1.length_eq;simpa using this
theorem Zq {g:FuncId} {caps xs:E5} (h:SortOk O g caps xs) {i:Nat} (hi:i<(CQ O g caps xs).size):(CQ O g caps xs)[i]! < xs.length:=by
 have hm:(CQ O g caps xs)[i]!∈(CQ O g caps xs).toList:=by
  rw[getElem!_pos _ i hi];exact Array.getElem_mem_toList hi
 have:=(LC h).1.mem_iff.1 hm;simpa using this
def Hg (cur:Array Value) (off K n i:Nat):List Value:=(xq K).map λc=>cur.getD (off+W1 n i*K+c) undef
theorem Wj {cur:Array Value} {off K n i:Nat}:(Hg cur off K n i).length=K:=by simp[Hg]
theorem RY {cur:Array Value} {off K n i c:Nat} (hc:c<K):(Hg cur off K n i)[c]?=some (cur.getD (off+W1 n i*K+c) undef):=by simp[Hg,hc]
theorem Iv.enc {cur:Array Value} {off K n i:Nat} {x:AV} (hi:i<n) (h:Iv E cur (off+i*K) K x):(∀v∈Hg cur off K n i,v.oneCell'=true)/\BS E.w E.ok x.cells (Hg cur off K n i):=by
 have Cr:W1 n i=i:=by unfold W1;rw[if_pos hi]
 obtain⟨h1,h2⟩:=h;have key:∀c,c<K->∃y,x.cells[c]?=some y/\(cur.getD (off+i*K+c) undef).oneCell'=true/\PV E.w E.ok y (cur.getD (off+i*K+c) undef):=by
  intro c hc;have A7:c<x.cells.length:=by omega
  obtain⟨v,e1,e2,e3⟩:=h2 c _ (xX A7);refine⟨_,xX A7,?_⟩;have:cur.getD (off+i*K+c) undef=v:=by rw[xa,e1];rfl
  rw[this];exact⟨e2,e3⟩
 constructor
 .intro v hv;unfold Hg at hv;rw[xy]at hv;obtain⟨c,hc,rfl⟩:=hv;rw[Cr];obtain⟨_,_,k,_⟩:=key c (by simpa using hc);exact k
 .refine PQ (by rw[Wj];exact h1.symm) λc y u hy hu=>?_;have hc:c<K:=by have:=(xc.1 hy).1;omega
  rw[RY hc,Cr]at hu;cases hu;obtain⟨y',e1,_,e3⟩:=key c hc;rw[hy]at e1;cases e1;exact e3
theorem SD {k:Nat} {f:Fam} (hf:E.h.fams[k]?=some f) (hw:f.wr=true) (hS:SR E) {b o:Nat} (ho:E.ok b o):b≠(E.im k).b:=by
 intro e;rcases ho with ⟨h1,_⟩|⟨_,_,_,h4⟩
 .have:=(hS.fams k f hf).base;omega
 .have:=(h4 k f hf e.symm).1;rw[hw]at this;cases this
theorem Sk {enc:Nat->List Value} {K blk off m:Nat} {dk:Array Nat} {os:Array Obj} {w:World} {b o:Nat} (hb:b<w.heap.size) (M8:b≠blk):Fx w (sortWorldK enc K w blk off m dk os) b o:=by
 have hh:(sortWorldK enc K w blk off m dk os).heap[b]?=w.heap[b]?:=by
  unfold sortWorldK Go.Sort.grow;show ((Go.Sort.putRowK enc K (Go.Sort.ahead w m) blk off dk).heap++os)[b]?=_;have K3:(Go.Sort.putRowK enc K (Go.Sort.ahead w m) blk off dk).heap.size=w.heap.size:=Go.Sort.size_putRowK _ _ _ _ _ _;rw[xg (by rw[K3];exact hb)];unfold Go.Sort.putRowK Go.Sort.putRow Go.Sort.mapBlock;simp only[Array.getElem?_modify];rw[if_neg (λe=>M8 e.symm)];rfl
 exact Gp hh
theorem Zr {ρ:Ren} (L:Go.Proofs.SlLaysF0.n6 P ρ) (hen:Program.enterable P (ρ.f 6)=true) (K:Nat) (aE:∀w,(isAgg (ρ.t 24)).run P w=.ok true w) (zE:∀w,(Go.sizeOf (ρ.t 24)).run P w=.ok K w)
  (hP:LO P O) (args:List AV) (h:AH) (r:AV) (h':AH) (he:(Uh K).run O args h=some (r,h')):Program.enterable P (ρ.f 6)=true /\
  ∀(E:Env) (vs:Array Value),SR E->E.h=h->w9 E args vs.toList ->
   Calls P (ρ.f 6) vs E.w λe w'=>∃u E',e=.returned u/\w'=E'.w/\Ext E E'/\SR E'/\E'.h=h'/\VR E' r u:=by
 refine⟨hen,λE vs hS hh hv=>?_⟩;subst hh;change Gv K O args E.h=some (r,h')at he;unfold Gv at he;split at he
 .rename_i k n off len g caps;split at he
  .rename_i f hf;split at he
   .rename_i hc;obtain⟨c1,rfl,c3,c4,c5,c6,c7,c8,c9,AG⟩:=hc;cases he;subst c1;subst c3;obtain⟨vs⟩:=vs;simp only[w9]at hv;obtain⟨v0,_,rfl,hv0,v1,_,rfl,hv1,rfl⟩:=hv;simp only[VR]at hv0 hv1;obtain⟨a,cap,f',rfl,hf',⟨_,_⟩,hv0⟩:=hv0;rw[hf]at hf';cases hf';obtain⟨us,rfl,Qd⟩:=hv1;obtain⟨l1,_,l3,_,l5⟩:=hv0 rfl;have Nt:(E.im k).lo=0:=by omega
    have hfam:=hS.fams k f hf;have s8:=hfam.room;have hcap:cap=(E.im k).cap:=by omega
    have ha:a=some ⟨(E.im k).b,(E.im k).o,none⟩:=by
     have:=l5 (by omega);rw[Nt]at this;simpa using this
    subst ha;obtain⟨cur,t,hcur,BT,Pa⟩:=hfam.cells;rw[Nt]at Pa;have hel':∀(i:Nat) (x:AV),f.xs[i]?=some x->Iv E cur ((E.im k).o+i*K) K x:=λi x hx=>by
     have:=Pa i x (xo _) hx;rw[c7]at this;simpa using this
    rw[c7]at BT;generalize hn:f.xs.length=n at *
    have hblk:=hS.im_lt (xc.1 hf).1;generalize hb:(E.im k).b=blk at *
    generalize ho:(E.im k).o=off at *
    have hnK:off+n*K<=cur.size:=by
     have:n*K<=(E.im k).cap*K:=Nat.mul_le_mul_right _ (by omega);omega
    have hget:∀i,i<n->∃x,f.xs[i]?=some x:=λi hi=>⟨_,xX (by omega)⟩;have henc:∀i,(∀v∈Hg cur off K n i,v.oneCell'=true)/\∃cs,f.xs.getD (W1 n i) A9=.agg cs/\BS E.w E.ok cs (Hg cur off K n i):=by
     intro i;obtain⟨x,hx⟩:=hget (W1 n i) (FS c4);have e1:Hg cur off K n i=Hg cur off K n (W1 n i):=by
      unfold Hg;have:W1 n (W1 n i)=W1 n i:=by
       have:=FS (i:=i) c4;show (if W1 n i<n then W1 n i else 0)=_
       rw[if_pos this]
      rw[this]
     obtain⟨k1,k2⟩:=(hel' _ x hx).enc (FS c4);rw[e1];refine⟨k1,?_⟩;have hag:x.isAgg=true:=xh.1 c9 x (xk hx);have hgd:f.xs.getD (W1 n i) A9=x:=by rw[oD,hx];rfl
     rw[hgd];cases x<;>simp only[AV.isAgg]at hag<;>try (cases hag;done)
     exact⟨_,rfl,k2⟩
    have hfr:E.w.heap[blk]?=some (.cells cur t (0,0)):=hcur;have hH:Go.Sort.HoldsK (Hg cur off K n) K E.w blk off (xZ n):=by
     intro j hj;rw[Go.Sort.size_flatK]at hj;have hK:0<K:=by
                rcases Nat.eq_zero_or_pos K with h|h;· subst h;simp at hj
                .exact h
     have hjs:j<n*K:=by simpa using hj
     have hdiv:j / K<n:=Nat.div_lt_of_lt_mul (by rw[xi];exact hjs);have hmod:j % K<K:=Nat.mod_lt _ hK;have hjj:j / K*K+j % K=j:=by rw[xi];exact Nat.div_add_mod j K
     rw[Go.Sort.get_flatK _ _ _ _ hj];have e1:(xZ n)[j / K]! = j / K:=by rw[getElem!_pos _ _ (by simpa using hdiv)];simp
     rw[e1];have e2:(Hg cur off K n (j / K))[j % K]! = cur.getD (off+j) undef:=by
      have:=RY (cur:=cur) (off:=off) (n:=n) (i:=j / K) hmod;rw[show W1 n (j / K)=j / K from by unfold W1;rw[if_pos hdiv],Nat.add_assoc,hjj]at this;rw[xe,this];rfl
     rw[e2];refine⟨?_,by unfold World.frozen?;rw[hfr];simp⟩;rw[cell_of_row _ _ _ _ _ _ hfr,xa,xb (by omega)];rfl
    have hcmp:CmpLays P g us (Hg cur off K n) K (bz O g caps f.xs) blk off (xZ n).size E.w:=by
     intro m os dk hdk x y;obtain⟨_,csx,ex,px⟩:=henc x;obtain⟨_,csy,ey,py⟩:=henc y;obtain⟨c,hc⟩:=AG.ans (W1 n x) (W1 n y) (by rw[hn];exact FS c4) (by rw[hn];exact FS c4);have hcf:bz O g caps f.xs x y=c:=by unfold bz Uz;rw[hn,hc]
     rw[hcf];rw[ex,ey]at hc;obtain⟨_,hcalls⟩:=hP g _ _ hc;have DG:∀b o,E.ok b o->E.ok b o/\Fx E.w (sortWorldK (Hg cur off K n) K E.w blk off m dk os) b o:=λb o hbo =>
      ⟨hbo,Sk (Om hS hbo) (by rw[←hb];exact SD hf c6 hS hbo)⟩
     have hcp:BS E.w E.ok caps us.toList:=by
      refine PQ (Eh Qd).1 λj z u hz hu=>?_;obtain⟨u',hu',hvr⟩:=(Eh Qd).2 hz;rw[hu]at hu';cases hu';exact Qp hvr (xh.1 c8 z (xk hz))
     have hpv:BS (sortWorldK (Hg cur off K n) K E.w blk off m dk os) E.ok ([.agg csx,.agg csy]++caps) (#[Value.agg (Hg cur off K n x).toArray,Value.agg (Hg cur off K n y).toArray]++us).toList:=by
      refine W0 DG _ _ ?_;simp only[Array.toList_append,List.cons_append,List.nil_append,BS,PV];exact⟨_,_,rfl,⟨_,rfl,(henc x).1,px⟩,_,_,rfl,⟨_,rfl,(henc y).1,py⟩,hcp⟩
     refine(hcalls _ E.ok _ (λb o hbo=>Nat.lt_of_lt_of_le (Om hS hbo) (Go.Proofs.size_sortWorldK_c _ _ _ _ _ _ _ _)) hpv).mono λe w' ⟨u,h1,h2,h3⟩=>?_;simp only[PV]at h3;subst h3;exact⟨h1,ZD h2⟩
    have hcalls:=Go.Proofs.AnyQ.slices_SortFunc_eq L K aE zE (Hg cur off K n) (λ_=>Wj) (λx=>(henc x).1) (bz O g caps f.xs) AG.swo g us blk off cap (xZ n) E.w
     (λargs w=>Wk (hP g _ _ (AG.ans 0 0 (by omega) (by omega)).choose_spec).1 args w) hcmp hH hblk.2 (by simpa using c5)
    rw[show (xZ n).size=n from by simp]at hcalls;refine hcalls.mono λe w' ⟨h1,m,os,h2⟩=>?_;have hidx:Go.Sort.pdq (ltOf (bz O g caps f.xs)) (xZ n) 0 n (Lib.bitLen n) true true=CQ O g caps f.xs:=by unfold CQ;rw[hn]
    rw[hidx]at h2;have K3:=PF AG;rw[hn]at K3;generalize hd:CQ O g caps f.xs=d at *
    have A7:∀i,i<n->d[i]! < n:=λi hi=>by have:=Zq AG (i:=i) (by rw[hd];omega);rw[hd]at this;omega
    have hA:Bl E.w.heap.size E.w (Go.Sort.ahead E.w m):=⟨⟨rfl,rfl,rfl,xY _,λ_ _=>rfl⟩,Nat.le_add_right _ _⟩;have x1:=AF hS hA;have s1:=Dp hS hA;have hcur1:({E with w:=Go.Sort.ahead E.w m}:Env).w.heap[(({E with w:=Go.Sort.ahead E.w m}:Env).im k).b]?=some (.cells cur t (0,0)):=by
     show E.w.heap[(E.im k).b]?=_;rw[hb];exact hcur
    have hf1:({E with w:=Go.Sort.ahead E.w m}:Env).h.fams[k]?=some f:=hf
    have hfl:f.xs.length=({f with xs:=d.toList.map λi=>f.xs.getD i A9}:Fam).xs.length:=by simp;omega
    have x2:=GY s1 hf1 (us:=Go.Sort.putCells id off (Go.Sort.flatK (Hg cur off K n) K d) cur) (f':={f with xs:=d.toList.map λi=>f.xs.getD i A9}) hcur1 rfl rfl (xz hfl) (λhw=>by rw[c6]at hw;cases hw)
    have s2:=KL s1 hf1 (us:=Go.Sort.putCells id off (Go.Sort.flatK (Hg cur off K n) K d) cur) (f':={f with xs:=d.toList.map λi=>f.xs.getD i A9}) hcur1 rfl rfl (xz hfl) (λhw=>by rw[c6]at hw;cases hw)
     (by rw[←hfl];show f.xs.length<=(E.im k).lo+(E.im k).cap;omega) TW (by
      intro i x _ hx;show Iv _ _ ((E.im k).o+(i-(E.im k).lo)*f.sz) f.sz x;rw[Nt,ho,c7,Nat.sub_zero];simp only[xn]at hx;have hi:i<n:=by
       rcases Nat.lt_or_ge i n with h|h
       .exact h
       .rw[List.getElem?_eq_none (by simp;omega)]at hx;cases hx
      have hdi:d.toList[i]?=some d[i]!:=by
       rw[getElem!_pos _ i (by omega)];simp[xb (show i<d.size by omega)]
      rw[hdi]at hx;simp only[xr,Option.some.injEq]at hx;obtain⟨x',hx'⟩:=hget _ (A7 i hi);have eY:x'=x:=by rw[←hx,oD,hx'];rfl
      subst eY;obtain⟨g1,g2⟩:=(hel' _ _ hx').ext x1;refine⟨g1,λc y hy=>?_⟩;have hcK:c<K:=by have:=(xc.1 hy).1;omega
      obtain⟨v,e1,e2,e3⟩:=g2 c y hy;refine⟨v,?_,e2,e3⟩;have hik:i*K+c<n*K:=BC hi hcK;have hK0:0<K:=by omega
      rw[VK,xb (show off+i*K+c<cur.size by omega),xr,if_pos ⟨by omega,by rw[Go.Sort.size_flatK,K3];omega⟩];rw[show off+i*K+c-off=i*K+c from by omega,Go.Sort.get_flatK _ _ _ _ (by rw[K3];exact hik)];have q1:(i*K+c) / K=i:=by rw[xi,Nat.mul_add_div hK0,Nat.div_eq_of_lt hcK,Nat.add_zero]
      have q2:(i*K+c) % K=c:=by rw[xi,Nat.mul_add_mod,Nat.mod_eq_of_lt hcK]
      rw[q1,q2];have:=RY (cur:=cur) (off:=off) (n:=n) (i:=d[i]!) hcK;rw[show W1 n d[i]! = d[i]! from by unfold W1;rw[if_pos (A7 i hi)]]at this;rw[xe,this];simp only[Option.getD_some];rw[xa,e1];rfl)
    generalize hE2:({E with w:=Go.Sort.ahead E.w m}:Env).setFam k (Go.Sort.putCells id off (Go.Sort.flatK (Hg cur off K n) K d) cur) {f with xs:=d.toList.map λi=>f.xs.getD i A9}=E2 at x2 s2
    have hw2:E2.w=Go.Sort.putRowK (Hg cur off K n) K (Go.Sort.ahead E.w m) blk off d:=by
     rw[←hE2];show (Go.Sort.ahead E.w m).setRow (E.im k).b _=_;rw[hb];exact(Pn (w:=Go.Sort.ahead E.w m) hcur).symm
    have hB3:Bl E2.w.heap.size E2.w (Go.Sort.grow E2.w os):=by
     refine⟨⟨rfl,rfl,rfl,?_,λi hi=>?_⟩,xY _⟩
     .simp[Go.Sort.grow]
     .show (E2.w.heap++os)[i]?=_;rw[xg hi]
    refine⟨.tuple #[],{E2 with w:=Go.Sort.grow E2.w os},h1,?_,(x1.trans x2).trans (AF s2 hB3),Dp s2 hB3,?_,CZ _⟩
    .rw[h2];show _=Go.Sort.grow E2.w os;rw[hw2];rfl
    .show E2.h=_;rw[←hE2];rfl
   .cases he
  .cases he
 .rename_i q z xs g caps;split at he
  .rename_i h0;cases he;obtain⟨vs⟩:=vs;simp only[w9]at hv;obtain⟨v0,_,rfl,hv0,v1,_,rfl,hv1,rfl⟩:=hv;simp only[VR,PV]at hv0;obtain⟨a,len,cap,rfl,hl,_⟩:=hv0;have B5:len=0\/len=1:=by omega
   rcases B5 with B5|B5
   .subst B5;refine(Go.Proofs.AnyF.slices_SortFunc_none L a cap v1 E.w).mono λe w' ⟨h1,h2⟩=>?_;exact⟨_,E,h1,h2,Ext.refl E,hS,rfl,CZ _⟩
   .subst B5;refine(eP L a cap v1 E.w).mono λe w' ⟨h1,h2⟩=>?_;exact⟨_,E,h1,h2,Ext.refl E,hS,rfl,CZ _⟩
  .cases he
 .cases he
end
end Go.Abs
namespace Go.Abs.Q
open Go.Proofs
def T3 (x y z:Int):Prop:=(x<=0->y<=0->z<=0/\(z=0->x=0/\y=0))/\(0<=x->0<=y->0<=z/\(z=0->x=0/\y=0))
theorem Te {x y z x' y' z':Int} (h:T3 x y z) (h':x=0->y=0->T3 x' y' z'):T3 (nz x x') (nz y y') (nz z z'):=by
 unfold T3 nz at *
 by_cases hx:x=0
 .by_cases hy:y=0
  .have hz:z=0:=by
    have h1:=(h.1 (by omega) (by omega)).1;have h2:=(h.2 (by omega) (by omega)).1;omega
   rw[if_pos hx,if_pos hy,if_pos hz];exact h' hx hy
  .rw[if_pos hx,if_neg hy];have hz:z≠0:=by
    intro hz;rcases xl hy with hl|hl
    .exact hy ((h.1 (by omega) (by omega)).2 hz).2
    .exact hy ((h.2 (by omega) (by omega)).2 hz).2
   rw[if_neg hz];refine⟨λ_ hy'=>⟨(h.1 (by omega) hy').1,λe=>absurd e hz⟩,λ_ hy'=>⟨(h.2 (by omega) hy').1,λe=>absurd e hz⟩⟩
 .rw[if_neg hx];by_cases hy:y=0
  .rw[if_pos hy];have hz:z≠0:=by
    intro hz;rcases xl hx with hl|hl
    .exact hx ((h.1 (by omega) (by omega)).2 hz).1
    .exact hx ((h.2 (by omega) (by omega)).2 hz).1
   rw[if_neg hz];refine⟨λhx' _=>⟨(h.1 hx' (by omega)).1,λe=>absurd e hz⟩,λhx' _=>⟨(h.2 hx' (by omega)).1,λe=>absurd e hz⟩⟩
  .rw[if_neg hy];refine⟨λa b=>?_,λa b=>?_⟩
   .have hz:z≠0:=λhz=>hx ((h.1 a b).2 hz).1;rw[if_neg hz];exact h.1 a b
   .have hz:z≠0:=λhz=>hx ((h.2 a b).2 hz).1;rw[if_neg hz];exact h.2 a b
theorem Ut (a b c:Int):T3 (ET a b) (ET b c) (ET a c):=by
 unfold T3 ET;by_cases h1:a<b<;>by_cases h2:b<c<;>by_cases h3:a<c<;>by_cases h4:b<a<;>by_cases h5:c<b<;>by_cases h6:c<a<;>simp[h1,h2,h3,h4,h5,h6]<;>omega
theorem Kg:∀{a b c:List UInt8},Op.bytesLess a b=true->Op.bytesLess b c=true->Op.bytesLess a c=true
 | [],_,[],h,k=>by cases ‹List UInt8›<;>simp[Op.bytesLess]at h k
 | [],_,_::_,_,_=>rfl
 |x::a,[],c,h,_=>by simp[Op.bytesLess]at h
 |x::a,y::b,[],_,k=>by simp[Op.bytesLess]at k
 |x::a,y::b,z::c,h,k=>by
  have ih:=@Kg a b c;simp only[Op.bytesLess,Bool.or_eq_true,decide_eq_true_eq,Bool.and_eq_true,beq_iff_eq]at h k ⊢;rcases h with h|⟨rfl,h⟩
  .rcases k with k|⟨rfl,k⟩
   .exact .inl (UInt8.lt_trans h k)
   .exact .inl h
  .rcases k with k|⟨rfl,k⟩
   .exact .inl k
   .exact .inr ⟨rfl,ih h k⟩
theorem Kf:∀{a b:List UInt8},a≠b->Op.bytesLess a b=true\/Op.bytesLess b a=true
 | [],[],h=>absurd rfl h
 | [],_::_,_=>.inl rfl
 |_::_,[],_=>.inr rfl
 |x::a,y::b,h=>by
  simp only[Op.bytesLess];by_cases h1:x<y
  .simp[h1]
  .by_cases h2:y<x
   .simp[h2]
   .have:x=y:=UInt8.le_antisymm (UInt8.not_lt.1 h2) (UInt8.not_lt.1 h1);subst this;have ih:=@Kf a b (λe=>h (by rw[e]));simp[h1];exact ih
theorem ev (a b c:H6):T3 (Q6 a b) (Q6 b c) (Q6 a c):=by
 have key:∀a b c:List UInt8,T3 (if Op.bytesLess a b then -1 else if a=b then 0 else 1) (if Op.bytesLess b c then -1 else if b=c then 0 else 1) (if Op.bytesLess a c then -1 else if a=c then 0 else 1):=by
  intro a b c;have irr:=Ro;unfold T3;by_cases h1:Op.bytesLess a b=true
  .by_cases h2:Op.bytesLess b c=true
   .have h3:=Kg h1 h2;simp[h1,h2,h3]
   .by_cases e:b=c
    .subst e;simp[h1,irr]
    .have h3:=(Kf e).resolve_left h2;simp[h1,h2,e]
  .by_cases e:a=b
   .subst e;rw[if_neg h1,if_pos rfl];generalize (if Op.bytesLess a c then (-1:Int)else if a=c then 0 else 1)=q
    exact⟨λ_ h=>⟨h,λe=>⟨rfl,e⟩⟩,λ_ h=>⟨h,λe=>⟨rfl,e⟩⟩⟩
   .have h3:=(Kf e).resolve_left h1;by_cases h2:Op.bytesLess b c=true
    .simp[h1,e,h2]
    .by_cases e2:b=c
     .subst e2;simp[h1,e,h2]
     .have h4:=(Kf e2).resolve_left h2;have h5:=Kg h4 h3;have h6:Op.bytesLess a c=false:=by
       cases h:Op.bytesLess a c with
       |false=>rfl
       |true=>have:=Kg h h5;rw[irr]at this;cases this
      have h7:a≠c:=λh=>by subst h;rw[irr]at h5;cases h5
      simp[h1,e,h2,e2,h6,h7]
 unfold Q6;exact key _ _ _
theorem qM:∀(n:Nat) (a b c:Tm),a.size<=n->T3 (G9 a b) (G9 b c) (G9 a c):=by
 intro n
 induction n with
 |zero=>intro a _ _ h;have:=a.size_pos;omega
 |succ n ih =>
  intro a b c hn;obtain⟨k,nm,s,m,l⟩:=a;obtain⟨k',nm',s',m',l'⟩:=b;obtain⟨k2,nm2,s2,m2,l2⟩:=c;have K3:Tm.size (.mk k nm s m l)=1+Tm.sizes l:=rfl;simp only[G9];refine Te (Ut _ _ _) λ_ _=>Te (Ut _ _ _) λ_ _=>Te (ev _ _ _) λ_ _=>Te (Ut _ _ _) λ_ _=>Te (Ut _ _ _) λh1 h2=>?_;have e1:=Oa h1;have e2:=Oa h2;have:∀l l' l2:List Tm,Tm.sizes l<=n->l.length=l'.length->l'.length=l2.length->T3 (FE l l') (FE l' l2) (FE l l2):=by
   intro l
   induction l with
   |nil =>
    intro l' l2 _ h1 h2;have:l'=[]:=xf h1.symm;subst this;simp only[Mt];unfold T3;omega
   |cons a l ihl =>
    intro l' l2 hs h1 h2;cases l' with
    |nil=>simp at h1
    |cons b l' =>
     cases l2 with
     |nil=>simp at h2
     |cons c l2 =>
      simp only[Tm.sizes]at hs;simp only[FE];exact Te (ih a b c (by omega)) λ_ _=>ihl l' l2 (by omega) (by simpa using h1) (by simpa using h2)
  exact this l l' l2 (by omega) e1 e2
theorem br (a b c:Tm):T3 (G9 a b) (G9 b c) (G9 a c):=qM _ a b c (xY _)
theorem Jx (a:Tm):G9 a a=0:=aN _ a a (xY _) rfl
theorem Jy {a b:Tm}:(G9 a b<0↔0<G9 b a)/\(G9 a b=0↔G9 b a=0):=by
 have h:=br a b a;rw[Jx]at h;unfold T3 at h;have h1:G9 a b<=0->G9 b a<=0->G9 a b=0/\G9 b a=0:=λp q=>(h.1 p q).2 rfl;have h2:0<=G9 a b->0<=G9 b a->G9 a b=0/\G9 b a=0:=λp q=>(h.2 p q).2 rfl;constructor<;>constructor<;>intro hh
 .rcases xm 0 (G9 b a)with q|q
  .exact q
  .have:=h1 (by omega) q;omega
 .rcases xm (G9 a b) 0 with q|q
  .exact q
  .have:=h2 q (by omega);omega
 .rcases xu 0 (G9 b a)with q|q
  .exact(h2 (by omega) q).2
  .exact(h1 (by omega) q).2
 .rcases xu 0 (G9 a b)with q|q
  .exact(h2 q (by omega)).1
  .exact(h1 q (by omega)).1
theorem El {a b c:Tm} (h:G9 a b<0) (k:G9 b c<0):G9 a c<0:=by
 have:=(br a b c).1 (by omega) (by omega);rcases Int.lt_or_eq_of_le this.1 with q|q
 .exact q
 .have:=this.2 q;omega
theorem au {a b:Int}:nz a b=0↔a=0/\b=0:=by
 unfold nz;split<;>simp_all
theorem cG {a b:Int}:ET a b=0↔a=b:=by
 unfold ET;split
 .constructor<;>intro h<;>omega
 .split<;>constructor<;>intro h<;>omega
theorem cC {a b:H6}:Q6 a b=0↔a=b:=by
 unfold Q6;split
 .rename_i h;constructor
  .intro e;omega
  .intro e;subst e;rw[Ro]at h;cases h
 .split
  .rename_i h;simp[(N4 a b).1 h]
  .rename_i h;constructor
   .intro e;omega
   .intro e;exact absurd (by rw[e]) h
theorem ja:∀(n:Nat) (a b:Tm),a.size<=n->G9 a b=0->D2 a=D2 b:=by
 intro n
 induction n with
 |zero=>intro a _ h;have:=a.size_pos;omega
 |succ n ih =>
  intro a b hn h;obtain⟨k,nm,s,m,l⟩:=a;obtain⟨k',nm',s',m',l'⟩:=b;have K3:Tm.size (.mk k nm s m l)=1+Tm.sizes l:=rfl;simp only[G9,au,cG,cC]at h;obtain⟨_,rfl,rfl,rfl,h1,h2⟩:=h;have e1:l.length=l'.length:=by omega
  have:∀l l':List Tm,Tm.sizes l<=n->l.length=l'.length->FE l l'=0->H3 l=H3 l':=by
   intro l
   induction l with
   |nil=>intro l' _ h1 _;rw[xf h1.symm]
   |cons a l ihl =>
    intro l' hs h1 h2;cases l' with
    |nil=>simp at h1
    |cons b l' =>
     simp only[Tm.sizes]at hs;simp only[FE,au]at h2;simp only[H3,ih a b (by omega) h2.1,ihl l' (by omega) (by simpa using h1) h2.2]
  simp only[D2,this l l' (by omega) e1 h2]
theorem AC {a b:Tm}:G9 a b=0↔D2 a=D2 b:=⟨ja _ a b (xY _),aN _ a b (xY _)⟩
theorem VX {α:Type} {R:α->α->Prop} {l:List α} (h:∀(i j:Nat) (hi:i<l.length) (hj:j<l.length),i<j->R l[i] l[j]):l.Pairwise R:=by
 rw[List.pairwise_iff_getElem];exact h
theorem Ox (k:Nat) (h:AH) (l:I1) (hk:h.fams[k]?=some ⟨A4 l,4,true⟩) (M8:l≠[]) (K3:∀t∈l,t.size<=1099511627776) (C2:l.length<=1099511627776) :
  ∃l':List Tm,l'.Perm l/\l'.Pairwise (λa b=>G9 a b<=0)/\rc Q C9 [.sl k l.length 0 l.length,.fn A8 []] h=some (A9,⟨h.boxes,h.fams.set k ⟨A4 l',4,true⟩⟩):=by
 have hl:(A4 l).length=l.length:=by simp
 have N7:0<l.length:=List.length_pos_iff.2 M8;have hget:∀i,i<l.length->(A4 l).getD i A9=B8 (l.getD i (.mk 0 (bs []) 0 (true,true) [])):=by
  intro i hi;rw[D7,oD,oD,xn,xX hi];rfl
 have HP:∀i,i<l.length->l.getD i (.mk 0 (bs []) 0 (true,true) [])∈l:=by
  intro i hi;rw[oD,xX hi];exact xd hi
 have hans:∀i j,i<l.length->j<l.length->(Q8 Q).pure A8 ([(A4 l).getD i A9,(A4 l).getD j A9]++[])=some (.int .i64 (G9 (l.getD i (.mk 0 (bs []) 0 (true,true) [])) (l.getD j (.mk 0 (bs []) 0 (true,true) [])))):=by
  intro i j hi hj;rw[hget i hi,hget j hj];exact Z3 _ _ _ (xY _) (K3 _ (HP i hi)) (K3 _ (HP j hj))
 have hcf:∀i j,bz (Q8 Q) A8 [] (A4 l) i j=G9 (l.getD (W1 l.length i) (.mk 0 (bs []) 0 (true,true) [])) (l.getD (W1 l.length j) (.mk 0 (bs []) 0 (true,true) [])):=by
  intro i j;unfold bz Uz;rw[hl,hans _ _ (FS N7) (FS N7)]
 have AG:SortOk (Q8 Q) A8 [] (A4 l):=by
  refine⟨λi j hi hj=>⟨_,hans i j (by omega) (by omega)⟩,⟨λx=>?_,λx y z=>?_,λx y z=>?_⟩⟩
  .simp[ltOf,hcf,Jx]
  .simp only[ltOf,hcf,decide_eq_true_eq];exact El
  .simp only[ltOf,hcf,decide_eq_false_iff_not,yA];intro a b;exact((br _ _ _).2 a b).1
 obtain⟨p1,p2⟩:=LC AG;have psz:=PF AG;rw[hl]at p1 p2 psz;have aa:rc Q C9 [.sl k l.length 0 l.length,.fn A8 []] h=some (A9,⟨h.boxes,h.fams.set k ⟨(CQ (Q8 Q) A8 [] (A4 l)).toList.map λi=>(A4 l).getD i A9,4,true⟩⟩):=by
  refine JL (s:=Uh 4) rfl rfl ?_;change Gv 4 (Q8 Q) [.sl k l.length 0 l.length,.fn A8 []] h=_;unfold Gv;simp only[hk];rw[if_pos ⟨hl,rfl,rfl,N7,by omega,rfl,rfl,rfl,by
   rw[xh];intro x hx;rw[D7,xy]at hx;obtain⟨t,_,rfl⟩:=hx;cases t;rfl,AG⟩]
 generalize hd:CQ (Q8 Q) A8 [] (A4 l)=d at *
 have A7:∀i∈d.toList,i<l.length:=λi hi=>by simpa using p1.mem_iff.1 hi
 have e1:(d.toList.map λi=>(A4 l).getD i A9)=A4 (d.toList.map λi=>l.getD i (.mk 0 (bs []) 0 (true,true) [])):=by
  rw[D7 (d.toList.map _),List.map_map];exact List.map_congr_left λi hi=>hget i (A7 i hi)
 refine⟨d.toList.map λi=>l.getD i (.mk 0 (bs []) 0 (true,true) []),?_,?_,by rw[aa,e1]⟩
 .have h1:=p1.map λi=>l.getD i (.mk 0 (bs []) 0 (true,true) []);have h2:(xq l.length).map (λi=>l.getD i (.mk 0 (bs []) 0 (true,true) []))=l:=by
   apply List.ext_getElem
   .simp
   .intro i g1 g2;simp[oD,g2]
  rw[h2]at h1;exact h1
 .refine VX λi j hi hj hij=>?_;simp only[List.length_map,Array.length_toList]at hi hj;have h1:=p2 i j (xo _) hij (by omega);have BA:=A7 (d.toList[i]'(by simpa using hi)) (xd _);have hj':=A7 (d.toList[j]'(by simpa using hj)) (xd _);rw[getElem!_pos d i hi,getElem!_pos d j hj]at h1;simp only[xj]at BA hj';simp only[ltOf,hcf,decide_eq_false_iff_not,yA]at h1;rw[show W1 l.length d[i]=d[i] from by unfold W1;rw[if_pos BA],show W1 l.length d[j]=d[j] from by unfold W1;rw[if_pos hj']]at h1;simp only[List.getElem_map,xj];rcases xm 0 (G9 (l.getD d[i] (.mk 0 (bs []) 0 (true,true) [])) (l.getD d[j] (.mk 0 (bs []) 0 (true,true) [])))with q|q
  .have:=Jy.1.2 q;omega
  .exact q
end Go.Abs.Q
