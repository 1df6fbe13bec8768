/- A part of the proof. -/
import Derived.Test.YtohjdamplbhdpaaGreatDoorSG9
set_option linter.all false
open Nat renaming le_max_right->xk,le_max_left->xm,le_refl->xu
open Option renaming map_eq_some_iff->xl
open Array renaming getD_eq_getD_getElem?->xn,replicate->xr
open List renaming getElem?_append_right->xo,getElem?_append_left->xp,getElem?_replicate->xq,getD->xt,mapM_cons->xw,replicate->xy,set->xz
namespace Go.Abs
open Go.RowKit (Below)
def vX:Ex->Exit
 | .normal=>.normal
 | .exit id=>.exit id
 | .ret=>.ret
def aQ (O:Orc):Prop:=∀(step:St->Option (Ex×St)) (s:St) (x:Ex×St),O.loop step s=some x->∃n,IM step n s=some x
section
variable {P:Program} {O:Orc} {c:Ctx}
theorem Rc (hP:Ld P O) (hR:TI P O) (hL:aQ O) (hm:P.follows .mixedOrders=true) :
  ∀(code:Code) (rc:RCode),X1 P c code=some rc->∀(E:Env) (fr:Fr) (a:Act),SR E->FR E fr a.tmps->∀(ex:Ex) (D4:Fr) (h':AH),A1 O c rc (fr,E.h)=some (ex,(D4,h')) ->
   ∀Q:Exit->Act->World->Prop,(∀a' E',Ext E E'->SR E'->E'.h=h'->FR E' D4 a'.tmps->a'.defers=a.defers->Q (vX ex) a' E'.w)->code.wp P Q a E.w:=by
 intro code
 induction code with
 |skip =>
  intro rc hr E fr a hS hf ex D4 h' E1 Q hQ;simp only[X1]at hr;cases hr;simp only[A1]at E1;cases E1;exact wp_skip (hQ a E (Ext.refl E) hS rfl hf rfl)
 |region id ops draw =>
  intro rc hr E fr a hS hf ex D4 h' E1 Q hQ;have hr':=hr;simp only[X1]at hr';have hbad:rc≠.bad:=λe=>by rw[e]at E1;simp[A1]at E1
  obtain⟨d,I6,rfl⟩:∃d I6,rc=.region d I6:=by
   repeat' (split at hr')
   all_goals (cases hr';first|exact⟨_,_,rfl⟩|exact absurd rfl hbad)
  simp only[A1]at E1;split at E1
  .rename_i s hs;cases E1;exact Vx hP hR hm hr hS hf hs hQ
  .cases E1
 |seq x y ihx ihy =>
  intro rc hr E fr a hS hf ex D4 h' E1 Q hQ;simp only[X1]at hr;split at hr
  .rename_i x' y' hx hy;cases hr;simp only[A1]at E1;refine wp_seq ?_;split at E1
   .rename_i s hs;obtain⟨G9,h1⟩:=s;refine ihx x' hx E fr a hS hf .normal G9 h1 hs _ λa' E' k1 k2 k3 k4 k5=>?_;show y.wp P Q a' E'.w;refine ihy y' hy E' G9 a' k2 k4 ex D4 h' (by rw[k3];exact E1) Q λa'' E'' m1 m2 m3 m4 m5=>?_;exact hQ a'' E'' (k1.trans m1) m2 m3 m4 (m5.trans k5)
   .rename_i M5;refine ihx x' hx E fr a hS hf ex D4 h' E1 _ λa' E' k1 k2 k3 k4 k5=>?_;have:=hQ a' E' k1 k2 k3 k4 k5;cases ex with
    |normal=>exact absurd E1 (M5 _)
    |exit id=>exact this
    |ret=>exact this
  .cases hr
 |cond q x y ihx ihy =>
  intro rc hr E fr a hS hf ex D4 h' E1 Q hQ;simp only[X1]at hr;split at hr
  .rename_i q' x' y' hq hx hy;cases hr;simp only[A1]at E1;have hv:=C6 hf hq;split at E1
   .rename_i hg;rw[hg]at hv;simp only[VR]at hv;exact wp_cond_true hv (ihx x' hx E fr a hS hf ex D4 h' E1 Q hQ)
   .rename_i hg;rw[hg]at hv;simp only[VR]at hv;exact wp_cond_false hv (ihy y' hy E fr a hS hf ex D4 h' E1 Q hQ)
   .cases E1
  .cases hr
 |block id x ih =>
  intro rc hr E fr a hS hf ex D4 h' E1 Q hQ;simp only[X1,xl]at hr;obtain⟨x',hx,rfl⟩:=hr;simp only[A1]at E1;refine wp_block ?_;split at E1
  .rename_i id' s hs;obtain⟨G9,h1⟩:=s;refine ih x' hx E fr a hS hf (.exit id') G9 h1 hs _ λa' E' k1 k2 k3 k4 k5=>?_;show if id'=id then Q .normal a' E'.w else Q (.exit id') a' E'.w
   split at E1
   .rename_i he;cases E1;rw[if_pos he];exact hQ a' E' k1 k2 k3 k4 k5
   .rename_i he;cases E1;rw[if_neg he];exact hQ a' E' k1 k2 k3 k4 k5
  .rename_i M5;refine ih x' hx E fr a hS hf ex D4 h' E1 _ λa' E' k1 k2 k3 k4 k5=>?_;have:=hQ a' E' k1 k2 k3 k4 k5;cases ex with
   |normal=>exact this
   |exit id'=>exact absurd E1 (M5 _ _)
   |ret=>exact this
 |loop x ih =>
  intro rc hr E fr a hS hf ex D4 h' E1 Q hQ;simp only[X1,xl]at hr;obtain⟨x',hx,rfl⟩:=hr;simp only[A1]at E1;obtain⟨n,hn⟩:=hL _ _ _ E1;refine wp_loop_rounds n ?_;clear E1
  induction n generalizing E fr a with
  |zero=>simp only[IM]at hn;cases hn
  |succ n ihn =>
   simp only[IM]at hn;rw[rounds_succ];split at hn
   .rename_i s hs;obtain⟨G9,h1⟩:=s;refine ih x' hx E fr a hS hf .normal G9 h1 hs _ λa' E' k1 k2 k3 k4 k5=>?_;show Code.rounds P x Q n a' E'.w;exact ihn E' G9 a' k2 k4 (λa'' E'' m1 m2 m3 m4 m5=>hQ a'' E'' (k1.trans m1) m2 m3 m4 (m5.trans k5)) (by rw[k3];exact hn)
   .rename_i M5;refine ih x' hx E fr a hS hf ex D4 h' hn _ λa' E' k1 k2 k3 k4 k5=>?_;have:=hQ a' E' k1 k2 k3 k4 k5;cases ex with
    |normal=>exact absurd hn (M5 _)
    |exit id=>exact this
    |ret=>exact this
 |exit id =>
  intro rc hr E fr a hS hf ex D4 h' E1 Q hQ;simp only[X1]at hr;cases hr;simp only[A1]at E1;cases E1;exact wp_exit (hQ a E (Ext.refl E) hS rfl hf rfl)
 |ret =>
  intro rc hr E fr a hS hf ex D4 h' E1 Q hQ;simp only[X1]at hr;cases hr;simp only[A1]at E1;cases E1;exact wp_ret (hQ a E (Ext.refl E) hS rfl hf rfl)
 |rangeFunc _ _ _ _ _ _ =>
  intro rc hr E fr a _ _ ex D4 h' E1;simp only[X1,Option.some.injEq]at hr;subst hr;simp[A1]at E1
 |scope _ _ =>
  intro rc hr E fr a _ _ ex D4 h' E1;simp only[X1,Option.some.injEq]at hr;subst hr;simp[A1]at E1
 |label _ =>
  intro rc hr E fr a _ _ ex D4 h' E1;simp only[X1,Option.some.injEq]at hr;subst hr;simp[A1]at E1
 |goto _ =>
  intro rc hr E fr a _ _ ex D4 h' E1;simp only[X1,Option.some.injEq]at hr;subst hr;simp[A1]at E1
 |refuse _ =>
  intro rc hr E fr a _ _ ex D4 h' E1;simp only[X1,Option.some.injEq]at hr;subst hr;simp[A1]at E1
theorem Yd {E:Env} {args:E6} {vs:Array Value} (hv:x6 E args vs.toList) (rf:RFunc):FR E (Dy rf args) (vs++xr (rf.ntmps-vs.size) undef):=by
 obtain⟨hl,hg⟩:=Ej hv;have hl':vs.size=args.length:=by simpa using hl
 refine⟨by simp[Dy,hl'],λt=>?_⟩;unfold Dy;by_cases ht:t<args.length
 .obtain⟨u,h1,h2⟩:=hg (List.getElem?_eq_getElem ht);have e1:(args++xy (rf.ntmps-args.length) A9).getD t A9=args[t]:=by simp[xt,xp ht,ht]
  have e2:(vs++xr (rf.ntmps-vs.size) undef).getD t undef=u:=by
   rw[xn,Array.getElem?_append_left (by omega)];rw[Array.getElem?_toList]at h1;rw[h1];rfl
  rw[e1,e2];exact h2
 .have e1:(args++xy (rf.ntmps-args.length) A9).getD t A9=A9:=by
   rw[xt,xo (by omega),xq];split<;>rfl
  have e2:(vs++xr (rf.ntmps-vs.size) undef).getD t undef=undef:=by
   rw[xn,Array.getElem?_append_right (by omega),Array.getElem?_replicate];split<;>rfl
  rw[e1,e2];exact Cd E
theorem Jm {E:Env} {fr:Fr} {tmps:Array Value} (hS:SR E) (hf:FR E fr tmps) (g:ResultVar->Sem Value) (g1:∀t,g (.tmp t)=pure (tmps.getD t undef)) (g2:∀a t,g (.cell a t)=(do loadVar t (←asAddr (tmps.getD a undef)))):∀{rs:List ResultVar} {rrs:List RRes} {vs:E6},GZ (Vz P) rs=some rrs->Jl fr E.h rrs=some vs ->
  ∃us:List Value,(rs.mapM g).run P E.w=.ok us E.w/\x6 E vs us
 | [],rrs,vs,hr,he=>by
  simp[GZ]at hr;subst hr;simp[Jl]at he;subst he;exact⟨[],by simp,by simp[x6]⟩
 |r::rs,rrs,vs,hr,he=>by
  simp only[GZ]at hr;split at hr
  .rename_i rr rrs' h1 h2;cases hr;cases r with
   |tmp t =>
    simp only[Vz]at h1;cases h1;simp only[Jl,xl]at he;obtain⟨vs',hvs',rfl⟩:=he;obtain⟨us,u1,u2⟩:=Jm hS hf g g1 g2 h2 hvs';refine⟨tmps.getD t undef::us,?_,by simp only[x6];exact⟨_,_,rfl,hf.val t,u2⟩⟩;rw[xw,g1];simp only[Sem.run_bind,Sem.run_pure,Result.andThen_ok];rw[u1];simp
   |cell a t =>
    simp only[Vz]at h1;split at h1
    .rename_i b n hb hn;cases h1;simp only[Jl,Option.bind_eq_some_iff,xl]at he;obtain⟨v,hv,vs',hvs',rfl⟩:=he;obtain⟨us,u1,u2⟩:=Jm hS hf g g1 g2 h2 hvs';obtain⟨bl,of,cs,e1,e2,e3⟩:=Qa hS (hf.val a) hv;obtain⟨u,h3,h4⟩:=Mk (P:=P) e2 e3 hb hn;refine⟨u::us,?_,by simp only[x6];exact⟨_,_,rfl,h4,u2⟩⟩;rw[xw,g2];have hadr:(asAddr (tmps.getD a undef)).run P E.w=.ok ⟨bl,of,none⟩ E.w:=by rw[e1];rfl
     simp only[Sem.run_bind,hadr,Sem.run_pure,Result.andThen_ok,h3];rw[u1];simp
    .cases h1
  .cases hr
theorem ew {E:Env} {vs:E6} {us:List Value} (h:x6 E vs us):VR E (I1 vs) (if h:us.toArray.size=1 then us.toArray[0]else .tuple us.toArray):=by
 cases vs with
 |nil =>
  simp only[x6]at h;subst h;simp[I1,VR,x6]
 |cons v vs =>
  simp only[x6]at h;obtain⟨u,us',rfl,h1,h2⟩:=h;cases vs with
  |nil =>
   simp only[x6]at h2;subst h2;simpa[I1]using h1
  |cons v' vs =>
   simp only[x6]at h2;obtain⟨u',us'',rfl,h3,h4⟩:=h2;simp only[I1];rw[dif_neg (by simp)];simp only[VR];refine⟨_,rfl,?_⟩;simp only[x6];exact⟨u,_,rfl,h1,u',us'',rfl,h3,h4⟩
end
structure CfgS (P:Program) (C:Cfg):Prop where
 code:∀f rf,C.code f=some rf->Vy P C.ctx f=some rf
 spec:∀(f:FuncId) (s:List AV->Option AV),C.spec f=some s->∀(args:List AV) (r:AV),s args=some r->Program.enterable P f=true /\
  ∀(w:World) (ok0:Nat->Nat->Prop) (vs:Array Value),(∀b o,ok0 b o->b<w.heap.size)->BT w ok0 args vs.toList ->
   Calls P f vs w λe w'=>∃u,e=.returned u/\Bl w.heap.size w w'/\PV w' (λb o=>ok0 b o\/(w.heap.size<=b/\b<w'.heap.size)) r u
 mixed:P.follows .mixedOrders=true
 rspec:∀(f:FuncId) (s:RSpec),C.rspec f=some s->∀O:Orc,Ld P O->∀(args:List AV) (h:AH) (r:AV) (h':AH),s.run O args h=some (r,h')->Program.enterable P f=true /\
  ∀(E:Env) (vs:Array Value),SR E->E.h=h->x6 E args vs.toList ->
   Calls P f vs E.w λe w'=>∃u E',e=.returned u/\w'=E'.w/\Ext E E'/\SR E'/\E'.h=h'/\VR E' r u
section
variable {P:Program} {C:Cfg} {O:Orc}
theorem SZ (hC:CfgS P C) (hP:Ld P O) (hR:TI P O) (hL:aQ O) {f:FuncId} {args:E6} {h h':AH} {r:AV} (he:Na C O f args h=some (r,h')) :
  Program.enterable P f=true/\∀(E:Env) (vs:Array Value),SR E->E.h=h->x6 E args vs.toList ->
   Calls P f vs E.w λe w'=>∃u E',e=.returned u/\w'=E'.w/\Ext E E'/\SR E'/\E'.h=h'/\VR E' r u:=by
 unfold Na at he;split at he
 .rename_i rf hrf;have h1:=hC.code f rf hrf;unfold Vy at h1;split at h1
  .rename_i hent;refine⟨hent,λE vs hS hh hv=>?_⟩;split at h1
   .rename_i fn hfn;split at h1
    .rename_i b hb;split at h1
     .rename_i rs rb hrs hrb;cases h1;refine calls_of_wp hfn hb ?_;subst hh;have fin:∀(s:St) (a':Act) (E':Env),Ext E E'->SR E'->E'.h=s.2->FR E' s.1 a'.tmps->a'.defers=[]->(Jl s.1 s.2 rs).map (λvs=>(I1 vs,s.2))=some (r,h') ->
        a'.defers=[]/\∃v,(results fn a'.tmps).run P E'.w=.ok v E'.w/\∃u E'',Ending.returned v=.returned u/\E'.w=E''.w/\Ext E E''/\SR E''/\E''.h=h'/\VR E'' r u:=by
       intro s a' E' k1 k2 k3 k4 k5 k6;simp only[xl]at k6;obtain⟨avs,k7,k8⟩:=k6;cases k8;rw[←k3]at k7;obtain⟨us,u1,u2⟩:=Jm (P:=P) k2 k4 (fun | .tmp t=>pure (a'.tmps.getD t undef) | .cell a t=>do loadVar t (←asAddr (a'.tmps.getD a undef))) (λ_=>rfl) (λ_ _=>rfl) hrs k7
       refine⟨k5,_,?_,_,E',rfl,rfl,k1,k2,k3,ew u2⟩;unfold results;rw[Array.mapM_eq_mapM_toList];simp only[bind_map_left,Sem.run_bind];refine Eq.trans (congrArg (λr=>Result.andThen r _) u1) ?_;rfl
      unfold KH at he;split at he
      .rename_i s hs;refine Rc hP hR hL hC.mixed b rb hrb E _ _ hS (Yd hv ⟨fn.ntmps,rs,rb⟩) .normal s.1 s.2 hs _ λa' E' k1 k2 k3 k4 k5=>?_;exact fin s a' E' k1 k2 k3 k4 k5 he
      .rename_i s hs;refine Rc hP hR hL hC.mixed b rb hrb E _ _ hS (Yd hv ⟨fn.ntmps,rs,rb⟩) .ret s.1 s.2 hs _ λa' E' k1 k2 k3 k4 k5=>?_;exact fin s a' E' k1 k2 k3 k4 k5 he
      .cases he
     .cases h1
    .cases h1
   .cases h1
  .cases h1
 .split at he
  .rename_i s hs;exact hC.rspec f s hs O hP args h r h' he
  .cases he
theorem YH (hC:CfgS P C) (hP:Ld P O) (hR:TI P O) (hL:aQ O) {f:FuncId} {args:E6} {r:AV} (he:JT C O f args=some r) :
  Program.enterable P f=true/\∀(w:World) (ok0:Nat->Nat->Prop) (vs:Array Value),(∀b o,ok0 b o->b<w.heap.size)->BT w ok0 args vs.toList ->
   Calls P f vs w λe w'=>∃u,e=.returned u/\Bl w.heap.size w w'/\PV w' (λb o=>ok0 b o\/(w.heap.size<=b/\b<w'.heap.size)) r u:=by
 unfold JT at he;split at he
 .rename_i s hs;exact hC.spec f s hs args r he
 .split at he
  .rename_i r0 h0 hr;obtain⟨h1,h2⟩:=SZ hC hP hR hL hr;refine⟨h1,λw ok0 vs AK hv=>?_⟩;have hS:SR ⟨w,w.heap.size,ok0,λ_=>0,λ_=>⟨0,0,0,0⟩,AH.empty⟩ :=
    ⟨xu _,λi cs hi=>by simp[AH.empty]at hi,λk f hk=>by simp[AH.empty]at hk,λi j hi=>by simp[AH.empty]at hi,λi j hi=>by simp[AH.empty]at hi,λi j hi=>by simp[AH.empty]at hi⟩
   have hv':x6 ⟨w,w.heap.size,ok0,λ_=>0,λ_=>⟨0,0,0,0⟩,AH.empty⟩ args vs.toList :=
    IF _ _ (W0 (λb o ho=>⟨.inl ⟨AK b o ho,ho⟩,GJ.refl _ _ _⟩) _ _ hv)
   refine(h2 _ vs hS rfl hv').mono λe w' ⟨u,E',k1,k2,k3,k4,k5,k6⟩=>?_;subst k2;refine⟨u,k1,k3.below,?_⟩;rw[←k5]at he;have hbase:E'.base=w.heap.size:=k3.base;have hok0:E'.ok0=ok0:=k3.ok0;refine VQ k4 ⟨λb o ho=>?_,λ_ b o hb A6=>.inr ⟨by rw[←hbase];exact hb,A6⟩⟩ k6 he;rcases ho with ⟨_,ho⟩|⟨ho1,ho2,_⟩
   .rw[hok0]at ho;exact .inl ho
   .rw[hbase]at ho1;exact .inr ⟨ho1,ho2⟩
  .cases he
theorem UZ (hC:CfgS P C):∀n,Ld P (RG C n)/\TI P (RG C n)/\aQ (RG C n)
 |0=>⟨λf args r h=>(nomatch h),λf args h r h' he=>(nomatch he),λstep s x h=>(nomatch h)⟩
 |n+1=>by
  obtain⟨h1,h2,h3⟩:=UZ hC n;exact⟨λf args r he=>YH hC h1 h2 h3 he,λf args h r h' he=>SZ hC h1 h2 h3 he,λstep s x he=>⟨n+1,he⟩⟩
end
structure Le (O O':Orc):Prop where
 pure:∀f args r,O.pure f args=some r->O'.pure f args=some r
 raw:∀f args h r,O.raw f args h=some r->O'.raw f args h=some r
 loop:∀(step step':St->Option (Ex×St)) (s:St) (x:Ex×St),(∀s x,step s=some x->step' s=some x)->O.loop step s=some x->O'.loop step' s=some x
theorem Le.trans {A B C:Orc} (h:Le A B) (k:Le B C):Le A C :=
 ⟨λf a r e=>k.pure f a r (h.pure f a r e),λf a g r e=>k.raw f a g r (h.raw f a g r e),λs s' t x hs e=>k.loop s' s' t x (λ_ _ h=>h) (h.loop s s' t x hs e)⟩
section
variable {O O':Orc} {c:Ctx}
theorem Ra (hO:Le O O') {f:FuncId} {args:E6} {h:AH} {x:AV×AH} (he:GM O c f args h=some x):GM O' c f args h=some x:=by
 unfold GM at he ⊢;split
 .rename_i hr;rw[if_pos hr]at he;obtain⟨y,h1⟩:=XO he;rw[h1]at he;rw[hO.raw _ _ _ _ h1];exact he
 .rename_i hr;rw[if_neg hr]at he;cases has:f8 h true args with
  |none=>rw[has]at he;cases he
  |some aas =>
   rw[has]at he;dsimp only at he ⊢;cases hp:O.pure f aas with
   |none=>rw[hp]at he;cases he
   |some r =>
    rw[hp]at he;rw[hO.pure _ _ _ hp];exact he
theorem QQ (hO:Le O O') {r:ROp} {fr:Fr} {h:AH} {x:AV×AH} (he:A2 O c r fr h=some x):A2 O' c r fr h=some x:=by
 cases r
 case call f aas=>exact Ra hO he
 case callv y aas =>
  simp only[A2]at he ⊢;split at he
  .split at he
   .cases he
   .rename_i hc;rw[if_neg hc];exact Ra hO he
  .cases he
 case len b x=>cases b<;>exact he
 all_goals exact he
theorem Hm (hO:Le O O'):∀{I6:List RO} {fr:Fr} {h:AH} {x:Fr×AH},J2 O c I6 fr h=some x->J2 O' c I6 fr h=some x
 | [],_,_,_,he=>he
 |o::I6,fr,h,x,he=>by
  simp only[J2]at he ⊢;cases hw:DO fr o.guard with
  |none=>rw[hw]at he;cases he
  |some b =>
   rw[hw]at he;cases b with
   |false=>exact Hm hO he
   |true =>
    dsimp only at he ⊢;cases Ad:A2 O c o.op fr h with
    |none=>rw[Ad]at he;cases he
    |some y =>
     rw[Ad]at he;rw[QQ hO Ad];exact Hm hO he
theorem Cr (hO:Le O O'):∀(rc:RCode) (s:St) (x:Ex×St),A1 O c rc s=some x->A1 O' c rc s=some x:=by
 intro rc
 induction rc with
 |skip=>exact λs x he=>he
 |region d I6 =>
  intro s x he;simp only[A1]at he ⊢;cases hs:J2 O c I6 s.1 s.2 with
  |none=>rw[hs]at he;cases he
  |some y=>rw[hs]at he;rw[Hm hO hs];exact he
 |seq a b iha ihb =>
  intro s x he;simp only[A1]at he ⊢;cases hs:A1 O c a s with
  |none=>rw[hs]at he;cases he
  |some y =>
   rw[hs]at he;rw[iha s y hs];obtain⟨e,s'⟩:=y;cases e with
   |normal=>exact ihb _ _ he
   |exit id=>exact he
   |ret=>exact he
 |cond q a b iha ihb =>
  intro s x he;simp only[A1]at he ⊢;split at he
  .exact iha _ _ he
  .exact ihb _ _ he
  .cases he
 |block id a ih =>
  intro s x he;simp only[A1]at he ⊢;cases hs:A1 O c a s with
  |none=>rw[hs]at he;cases he
  |some y=>rw[hs]at he;rw[ih s y hs];exact he
 |loop a ih=>intro s x he;exact hO.loop _ _ _ _ ih he
 |exit id=>exact λs x he=>he
 |ret=>exact λs x he=>he
 |bad=>exact λs x he=>he
theorem Uj {C:Cfg} (hO:Le O O') {f:FuncId} {args:E6} {h:AH} {x:AV×AH} (he:Na C O f args h=some x):Na C O' f args h=some x:=by
 unfold Na at he ⊢;split at he
 .unfold KH at he ⊢;rename_i rf _;cases hs:A1 O (C.ctx f) rf.body (Dy rf args,h)with
  |none=>rw[hs]at he;cases he
  |some y=>rw[hs]at he;rw[Cr hO _ _ _ hs];exact he
 .rename_i hc;split at he
  .rename_i s hs;obtain⟨l,h1,h2⟩:=s.fin O args h x he;exact h2 O' λp hp=>hO.pure _ _ _ (h1 p hp)
  .cases he
theorem Zu {C:Cfg} (hO:Le O O') {f:FuncId} {args:E6} {x:AV} (he:JT C O f args=some x):JT C O' f args=some x:=by
 unfold JT at he ⊢;split at he
 .exact he
 .cases hs:Na C O f args AH.empty with
  |none=>rw[hs]at he;cases he
  |some y=>rw[hs]at he;rw[Uj hO hs];exact he
end
theorem GY {step step':St->Option (Ex×St)} (hs:∀s x,step s=some x->step' s=some x):∀{n m:Nat},n<=m->∀{s:St} {x:Ex×St},IM step n s=some x->IM step' m s=some x
 |0,_,_,s,x,he=>by simp[IM]at he
 |n+1,0,h,s,x,he=>by omega
 |n+1,m+1,h,s,x,he=>by
  simp only[IM]at he ⊢;cases h1:step s with
  |none=>rw[h1]at he;cases he
  |some y =>
   rw[h1]at he;rw[hs s y h1];obtain⟨e,s'⟩:=y;cases e with
   |normal=>exact GY hs (by omega) he
   |exit id=>exact he
   |ret=>exact he
variable (C:Cfg)
theorem SO:∀n,Le (RG C n) (RG C (n+1))
 |0=>⟨λf a r h=>(nomatch h),λf a g r h=>(nomatch h),λs s' t x _ h=>(nomatch h)⟩
 |n+1=>⟨λf a r h=>Zu (SO n) h,λf a g r h=>Uj (SO n) h,λs s' t x hs h=>GY hs (by omega) h⟩
theorem Fs:∀{n m:Nat},n<=m->Le (RG C n) (RG C m)
 |n,0,h=>by
  have:n=0:=by omega
  subst this;exact⟨λ_ _ _ h=>h,λ_ _ _ _ h=>h,λs s' t x _ h=>(nomatch h)⟩
 |n,m+1,h=>by
  by_cases hn:n=m+1
  .subst hn;exact⟨λ_ _ _ h=>h,λ_ _ _ _ h=>h,λs s' t x hs h=>GY hs (xu _) h⟩
  .exact(Fs (by omega)).trans (SO C m)
open Classical in
noncomputable def pc (f:FuncId) (args:List AV):Option AV:=if h:∃n r,(RG C n).pure f args=some r then some h.choose_spec.choose else none
open Classical in
noncomputable def rc (f:FuncId) (args:List AV) (h:AH):Option (AV×AH):=if h:∃n r,(RG C n).raw f args h=some r then some h.choose_spec.choose else none
open Classical in
noncomputable def lp (step:St->Option (Ex×St)) (s:St):Option (Ex×St):=if h:∃n x,IM step n s=some x then some h.choose_spec.choose else none
noncomputable def Q8:Orc:=⟨pc C,rc C,lp⟩
theorem Zp {f:FuncId} {args:E6} {r:AV} (h:pc C f args=some r):∃n,(RG C n).pure f args=some r:=by
 unfold pc at h;split at h
 .rename_i hx;cases h;exact⟨hx.choose,hx.choose_spec.choose_spec⟩
 .cases h
theorem iD {n:Nat} {f:FuncId} {args:E6} {r:AV} (h:(RG C n).pure f args=some r):pc C f args=some r:=by
 have hx:∃n r,(RG C n).pure f args=some r:=⟨n,r,h⟩;unfold pc;rw[dif_pos hx];have h1:=(Fs C (xm n hx.choose)).pure f args r h;have h2:=(Fs C (xk n hx.choose)).pure f args _ hx.choose_spec.choose_spec;rw[h1]at h2;exact h2.symm
theorem nn {f:FuncId} {args:E6} {h:AH} {r:AV×AH} (he:rc C f args h=some r):∃n,(RG C n).raw f args h=some r:=by
 unfold rc at he;split at he
 .rename_i hx;cases he;exact⟨hx.choose,hx.choose_spec.choose_spec⟩
 .cases he
theorem nT {n:Nat} {f:FuncId} {args:E6} {h:AH} {r:AV×AH} (he:(RG C n).raw f args h=some r):rc C f args h=some r:=by
 have hx:∃n r,(RG C n).raw f args h=some r:=⟨n,r,he⟩;unfold rc;rw[dif_pos hx];have h1:=(Fs C (xm n hx.choose)).raw f args h r he;have h2:=(Fs C (xk n hx.choose)).raw f args h _ hx.choose_spec.choose_spec;rw[h1]at h2;exact h2.symm
theorem Va {step:St->Option (Ex×St)} {s:St} {x:Ex×St} (h:lp step s=some x):∃n,IM step n s=some x:=by
 unfold lp at h;split at h
 .rename_i hx;cases h;exact⟨hx.choose,hx.choose_spec.choose_spec⟩
 .cases h
theorem VU {step:St->Option (Ex×St)} {n:Nat} {s:St} {x:Ex×St} (h:IM step n s=some x):lp step s=some x:=by
 have hx:∃n x,IM step n s=some x:=⟨n,x,h⟩;unfold lp;rw[dif_pos hx];have h1:=GY (λ_ _ h=>h) (xm n hx.choose) h;have h2:=GY (λ_ _ h=>h) (xk n hx.choose) hx.choose_spec.choose_spec;rw[h1]at h2;exact h2.symm
theorem lm {step:St->Option (Ex×St)} {s s':St} {x:Ex×St} (h:step s=some (.normal,s')) (k:lp step s'=some x):lp step s=some x:=by
 obtain⟨n,hn⟩:=Va k;exact VU (n:=n+1) (by simp only[IM,h];exact hn)
theorem bG {step:St->Option (Ex×St)} {s s':St} {id:Nat} (h:step s=some (.exit id,s')):lp step s=some (.exit id,s'):=VU (n:=1) (by simp only[IM,h])
theorem gq {step:St->Option (Ex×St)} {s s':St} (h:step s=some (.ret,s')):lp step s=some (.ret,s'):=VU (n:=1) (by simp only[IM,h])
theorem ZJ {c:Ctx} {r:ROp} {fr:Fr} {h:AH} {x:AV×AH} (he:A2 (Q8 C) c r fr h=some x):∃n,A2 (RG C n) c r fr h=some x:=by
 have hcall:∀f args,GM (Q8 C) c f args h=some x->∃n,GM (RG C n) c f args h=some x:=by
  intro f args he;unfold GM at he ⊢;split at he
  .rename_i hr;obtain⟨y,h1⟩:=XO he;rw[h1]at he;obtain⟨n,hn⟩:=nn C h1;exact⟨n,by rw[if_pos hr,hn];exact he⟩
  .rename_i hr;cases has:f8 h true args with
   |none=>rw[has]at he;cases he
   |some aas =>
    rw[has]at he;dsimp only at he ⊢;cases hp:(Q8 C).pure f aas with
    |none=>rw[hp]at he;cases he
    |some r =>
     rw[hp]at he;obtain⟨n,hn⟩:=Zp C hp;exact⟨n,by rw[if_neg hr,hn];exact he⟩
 cases r
 case call f aas=>exact hcall _ _ he
 case callv y aas =>
  simp only[A2]at he ⊢;split at he
  .split at he
   .cases he
   .rename_i hc;obtain⟨n,hn⟩:=hcall _ _ he;exact⟨n,by rw[if_neg hc];exact hn⟩
  .cases he
 case len b x=>cases b<;>exact⟨0,he⟩
 all_goals exact⟨0,he⟩
theorem MM {c:Ctx}:∀{I6:List RO} {fr:Fr} {h:AH} {x:Fr×AH},J2 (Q8 C) c I6 fr h=some x->∃n,J2 (RG C n) c I6 fr h=some x
 | [],_,_,_,he=>⟨0,he⟩
 |o::I6,fr,h,x,he=>by
  simp only[J2]at he ⊢;cases hw:DO fr o.guard with
  |none=>rw[hw]at he;cases he
  |some b =>
   rw[hw]at he;cases b with
   |false=>exact MM he
   |true =>
    dsimp only at he ⊢;cases Ad:A2 (Q8 C) c o.op fr h with
    |none=>rw[Ad]at he;cases he
    |some y =>
     rw[Ad]at he;obtain⟨n,hn⟩:=ZJ C Ad;obtain⟨m,hm⟩:=MM he;refine⟨max n m,?_⟩;rw[QQ (Fs C (xm n m)) hn];exact Hm (Fs C (xk n m)) hm
theorem VO {c:Ctx}:∀(rcode:RCode) (s:St) (x:Ex×St),A1 (Q8 C) c rcode s=some x->∃n,A1 (RG C n) c rcode s=some x:=by
 intro rcode
 induction rcode with
 |skip=>exact λs x he=>⟨0,he⟩
 |region d I6 =>
  intro s x he;simp only[A1]at he ⊢;cases hs:J2 (Q8 C) c I6 s.1 s.2 with
  |none=>rw[hs]at he;cases he
  |some y =>
   rw[hs]at he;obtain⟨n,hn⟩:=MM C hs;exact⟨n,by rw[hn];exact he⟩
 |seq a b iha ihb =>
  intro s x he;simp only[A1]at he ⊢;cases hs:A1 (Q8 C) c a s with
  |none=>rw[hs]at he;cases he
  |some y =>
   rw[hs]at he;obtain⟨n,hn⟩:=iha s y hs;obtain⟨e,s'⟩:=y;cases e with
   |normal =>
    obtain⟨m,hm⟩:=ihb _ _ he;refine⟨max n m,?_⟩;rw[Cr (Fs C (xm n m)) _ _ _ hn];exact Cr (Fs C (xk n m)) _ _ _ hm
   |exit id=>exact⟨n,by rw[hn];exact he⟩
   |ret=>exact⟨n,by rw[hn];exact he⟩
 |cond q a b iha ihb =>
  intro s x he;simp only[A1]at he ⊢;split at he
  .exact iha _ _ he
  .exact ihb _ _ he
  .cases he
 |block id a ih =>
  intro s x he;simp only[A1]at he ⊢;cases hs:A1 (Q8 C) c a s with
  |none=>rw[hs]at he;cases he
  |some y =>
   rw[hs]at he;obtain⟨n,hn⟩:=ih s y hs;exact⟨n,by rw[hn];exact he⟩
 |loop a ih =>
  intro s x he;simp only[A1]at he ⊢;obtain⟨m,hm⟩:=Va he;have key:∃n,IM (A1 (RG C n) c a) m s=some x:=by
   clear he
   induction m generalizing s with
   |zero=>simp[IM]at hm
   |succ m ihm =>
    simp only[IM]at hm ⊢;cases h1:A1 (Q8 C) c a s with
    |none=>rw[h1]at hm;cases hm
    |some y =>
     rw[h1]at hm;obtain⟨n,hn⟩:=ih s y h1;obtain⟨e,s'⟩:=y;cases e with
     |normal =>
      obtain⟨k,hk⟩:=ihm s' hm;refine⟨max n k,?_⟩;rw[Cr (Fs C (xm n k)) _ _ _ hn];exact GY (Cr (Fs C (xk n k)) a) (xu _) hk
     |exit id=>exact⟨n,by rw[hn];exact hm⟩
     |ret=>exact⟨n,by rw[hn];exact hm⟩
  obtain⟨n,hn⟩:=key;refine⟨max n m+1,?_⟩;show IM _ (max n m+1) s=some x;exact GY (Cr (Fs C (by omega)) a) (by omega) hn
 |exit id=>exact λs x he=>⟨0,he⟩
 |ret=>exact λs x he=>⟨0,he⟩
 |bad=>exact λs x he=>⟨0,he⟩
theorem YK {f:FuncId} {args:E6} {h:AH} {x:AV×AH} (he:Na C (Q8 C) f args h=some x):∃n,Na C (RG C n) f args h=some x:=by
 unfold Na at he ⊢;split at he
 .unfold KH at he ⊢;rename_i rf _;cases hs:A1 (Q8 C) (C.ctx f) rf.body (Dy rf args,h)with
  |none=>rw[hs]at he;cases he
  |some y =>
   rw[hs]at he;obtain⟨n,hn⟩:=VO C _ _ _ hs;exact⟨n,by rw[hn];exact he⟩
 .split at he
  .rename_i s hs;obtain⟨l,h1,h2⟩:=s.fin _ args h x he;have key:∀l:List (FuncId×List AV×AV),(∀p∈l,(Q8 C).pure p.1 p.2.1=some p.2.2)->∃n,∀p∈l,(RG C n).pure p.1 p.2.1=some p.2.2:=by
    intro l
    induction l with
    |nil=>exact λ_=>⟨0,λp hp=>by simp at hp⟩
    |cons a l ih =>
     intro hl;obtain⟨n,hn⟩:=ih λp hp=>hl p (List.mem_cons_of_mem _ hp);obtain⟨m,hm⟩:=Zp C (hl a (by simp));refine⟨max n m,λp hp=>?_⟩;rcases List.mem_cons.1 hp with rfl|hp
     .exact(Fs C (xk n m)).pure _ _ _ hm
     .exact(Fs C (xm n m)).pure _ _ _ (hn p hp)
   obtain⟨n,hn⟩:=key l h1;exact⟨n,h2 _ hn⟩
  .cases he
theorem lx {f:FuncId} {args:E6} {h:AH} {x:AV×AH} (he:Na C (Q8 C) f args h=some x):rc C f args h=some x:=by
 obtain⟨n,hn⟩:=YK C he;exact nT C (n:=n+1) hn
theorem ls {f:FuncId} {args:E6} {x:AV} (he:JT C (Q8 C) f args=some x):pc C f args=some x:=by
 unfold JT at he;split at he
 .rename_i s hs;refine iD C (n:=1) ?_;show JT C _ f args=some x;unfold JT;simp only[hs];exact he
 .rename_i hs;cases hr:Na C (Q8 C) f args AH.empty with
  |none=>rw[hr]at he;cases he
  |some y =>
   rw[hr]at he;obtain⟨n,hn⟩:=YK C hr;refine iD C (n:=n+1) ?_;show JT C _ f args=some x;unfold JT;simp only[hs,hn];exact he
theorem iS {P:Program} {C:Cfg} (hC:CfgS P C) {f:FuncId} {args:E6} {r:AV} (h:pc C f args=some r) (w:World) (ok0:Nat->Nat->Prop) (vs:Array Value) (AK:∀b o,ok0 b o->b<w.heap.size) (hv:BT w ok0 args vs.toList) :
  Calls P f vs w λe w'=>∃u,e=.returned u/\Bl w.heap.size w w'/\PV w' (λb o=>ok0 b o\/(w.heap.size<=b/\b<w'.heap.size)) r u:=by
 obtain⟨n,hn⟩:=Zp C h;exact((UZ hC n).1 f args r hn).2 w ok0 vs AK hv
end Go.Abs
namespace Go.Abs
def A0 (fr:Fr) (n:Nat):AV:=fr.getD n A9
@[simp] theorem xE (fr:Fr) (n:Nat):get fr (.t n)=A0 fr n:=_root_.id rfl
@[simp] theorem xD (fr:Fr) (v:AV):get fr (.c v)=v:=_root_.id rfl
@[simp] theorem sy (fr:Fr) (d:Nat) (v:AV):put fr (some d) v=xz fr d v:=_root_.id rfl
@[simp] theorem sx (fr:Fr) (v:AV):put fr none v=fr:=_root_.id rfl
theorem D0 (fr:Fr) {i j:Nat} (v:AV) (h:i≠j):A0 (xz fr i v) j=A0 fr j:=by
 simp[A0,xt,List.getElem?_set_ne h]
theorem D1 (fr:Fr) {i j:Nat} (v:AV) (e:i=j) (h:i<fr.length):A0 (xz fr i v) j=v:=by
 subst e;simp[A0,xt,List.getElem?_set_self h]
def jT (r:Option (AV×AH)) (O:Orc) (c:Ctx) (d:Option Nat) (I6:List RO) (fr:Fr):Option (Fr×AH):=match r with|some (v,h)=>J2 O c I6 (put fr d v) h|none=>none
@[congr] theorem pw {r r':Option (AV×AH)} {O:Orc} {c:Ctx} {d:Option Nat} {I6:List RO} {fr:Fr} (h:r=r'):jT r O c d I6 fr=jT r' O c d I6 fr:=by rw[h]
@[simp] theorem sW (v:AV) (h:AH) (O:Orc) (c:Ctx) (d:Option Nat) (I6:List RO) (fr:Fr):jT (some (v,h)) O c d I6 fr=J2 O c I6 (put fr d v) h:=_root_.id rfl
def jR (b:AV) (w:Bool) (O:Orc) (c:Ctx) (d:Option Nat) (op:ROp) (I6:List RO) (fr:Fr) (h:AH):Option (Fr×AH) :=
 match b with
 | .bool b=>if b=w then jT (A2 O c op fr h) O c d I6 fr else J2 O c I6 (put fr d A9) h
 | .tup _=>J2 O c I6 (put fr d A9) h
 |_=>none
@[congr] theorem pb {b b':AV} {w:Bool} {O:Orc} {c:Ctx} {d:Option Nat} {op:ROp} {I6:List RO} {fr:Fr} {h:AH} (e:b=b'):jR b w O c d op I6 fr h=jR b' w O c d op I6 fr h:=by rw[e]
section
variable (O:Orc) (c:Ctx) (d:Option Nat) (op:ROp) (I6:List RO) (fr:Fr) (h:AH)
@[simp] theorem vu:jR (.bool true) true O c d op I6 fr h=jT (A2 O c op fr h) O c d I6 fr:=_root_.id rfl
@[simp] theorem vl:jR (.bool false) false O c d op I6 fr h=jT (A2 O c op fr h) O c d I6 fr:=_root_.id rfl
@[simp] theorem vr:jR (.bool true) false O c d op I6 fr h=J2 O c I6 (put fr d A9) h:=_root_.id rfl
@[simp] theorem vn:jR (.bool false) true O c d op I6 fr h=J2 O c I6 (put fr d A9) h:=_root_.id rfl
@[simp] theorem vv (l:E6) (w:Bool):jR (.tup l) w O c d op I6 fr h=J2 O c I6 (put fr d A9) h:=_root_.id rfl
end
@[simp] theorem qN:A9=.tup []:=_root_.id rfl
def mR (b:AV) (O:Orc) (c:Ctx) (x y:RCode) (fr:Fr) (h:AH):Option (Ex×St):=match b with | .bool true=>A1 O c x (fr,h) | .bool false=>A1 O c y (fr,h)|_=>none
@[congr] theorem oo {b b':AV} {O:Orc} {c:Ctx} {x y:RCode} {fr:Fr} {h:AH} (e:b=b'):mR b O c x y fr h=mR b' O c x y fr h:=by rw[e]
@[simp] theorem xC (O:Orc) (c:Ctx) (x y:RCode) (fr:Fr) (h:AH):mR (.bool true) O c x y fr h=A1 O c x (fr,h):=_root_.id rfl
@[simp] theorem wz (O:Orc) (c:Ctx) (x y:RCode) (fr:Fr) (h:AH):mR (.bool false) O c x y fr h=A1 O c y (fr,h):=_root_.id rfl
def lz (r:Option (Ex×St)) (O:Orc) (c:Ctx) (y:RCode):Option (Ex×St):=match r with|some (.normal,fr,h)=>A1 O c y (fr,h)|r=>r
@[congr] theorem qG {r r':Option (Ex×St)} {O:Orc} {c:Ctx} {y:RCode} (h:r=r'):lz r O c y=lz r' O c y:=by rw[h]
@[simp] theorem xU (fr:Fr) (h:AH) (O:Orc) (c:Ctx) (y:RCode):lz (some (.normal,fr,h)) O c y=A1 O c y (fr,h):=_root_.id rfl
@[simp] theorem xV (s:St) (O:Orc) (c:Ctx) (y:RCode):lz (some (.ret,s)) O c y=some (.ret,s):=_root_.id rfl
@[simp] theorem xS (i:Nat) (s:St) (O:Orc) (c:Ctx) (y:RCode):lz (some (.exit i,s)) O c y=some (.exit i,s):=_root_.id rfl
def kI (id:Nat) (r:Option (Ex×St)):Option (Ex×St):=match r with|some (.exit i,s)=>if i=id then some (.normal,s)else some (.exit i,s)|r=>r
@[simp] theorem xG (id:Nat) (s:St):kI id (some (.normal,s))=some (.normal,s):=_root_.id rfl
@[simp] theorem xH (id:Nat) (s:St):kI id (some (.ret,s))=some (.ret,s):=_root_.id rfl
@[simp] theorem xF (id:Nat) (s:St):kI id (some (.exit id,s))=some (.normal,s):=by simp[kI]
def kJ {β:Type} (r:Option (Ex×St)) (k:Fr->AH->Option β):Option β:=match r with|some (.normal,fr,h)=>k fr h|some (.ret,fr,h)=>k fr h|_=>none
@[simp] theorem wA {β:Type} (fr:Fr) (h:AH) (k:Fr->AH->Option β):kJ (some (.normal,fr,h)) k=k fr h:=_root_.id rfl
@[simp] theorem wC {β:Type} (fr:Fr) (h:AH) (k:Fr->AH->Option β):kJ (some (.ret,fr,h)) k=k fr h:=_root_.id rfl
section
variable {O:Orc} {c:Ctx}
@[simp] theorem uy (fr:Fr) (h:AH):J2 O c [] fr h=some (fr,h):=_root_.id rfl
@[simp] theorem su (d:Option Nat) (op:ROp) (I6:List RO) (fr:Fr) (h:AH):J2 O c (⟨d,op,none⟩::I6) fr h=jT (A2 O c op fr h) O c d I6 fr:=by
 simp only[J2,DO,jT];cases A2 O c op fr h with
 |none=>rfl
 |some x=>rfl
@[simp] theorem qA (d:Option Nat) (op:ROp) (s:Nat) (w:Bool) (I6:List RO) (fr:Fr) (h:AH) :
  J2 O c (⟨d,op,some (s,w)⟩::I6) fr h=jR (A0 fr s) w O c d op I6 fr h:=by
 simp only[J2,DO,A0,jR,jT];cases fr.getD s A9 with
 |bool b =>
  dsimp only;cases b<;>cases w<;>simp<;>cases A2 O c op fr h<;>rfl
 |_=>rfl
def sH (r:Option (Fr×AH)):Option (Ex×St):=match r with|some s=>some (.normal,s)|none=>none
@[simp] theorem xL (s:St):sH (some s)=some (.normal,s):=_root_.id rfl
@[simp] theorem pG (s:St):A1 O c .skip s=some (.normal,s):=_root_.id rfl
@[simp] theorem lc (d:Bool) (ops:List RO) (fr:Fr) (h:AH):A1 O c (.region d ops) (fr,h)=sH (J2 O c ops fr h):=_root_.id rfl
@[simp] theorem rB (a b:RCode) (s:St):A1 O c (.seq a b) s=lz (A1 O c a s) O c b:=by
 simp only[A1,lz];split<;>simp_all
@[simp] theorem oy (q:Opd) (a b:RCode) (fr:Fr) (h:AH):A1 O c (.cond q a b) (fr,h)=mR (get fr q) O c a b fr h:=by
 simp only[A1,mR];cases get fr q with
 |bool b=>cases b<;>rfl
 |_=>rfl
@[simp] theorem mY (id:Nat) (a:RCode) (s:St):A1 O c (.block id a) s=kI id (A1 O c a s):=by
 simp only[A1,kI];split<;>simp_all
@[simp] theorem oz (id:Nat) (s:St):A1 O c (.exit id) s=some (.exit id,s):=_root_.id rfl
@[simp] theorem qz (s:St):A1 O c .bad s=none:=_root_.id rfl
@[simp] theorem rA (s:St):A1 O c .ret s=some (.ret,s):=_root_.id rfl
theorem E7 {C:Cfg} (a:RCode) (s:St):A1 (Q8 C) c (.loop a) s=lp (A1 (Q8 C) c a) s:=_root_.id rfl
end
def sB (ys:Option (List AV)) (k:List AV->Option AV) (tm:Bool) (h:AH):Option (AV×AH) :=
 match ys with|none=>none|some ys=>match k ys with|some r=>if r.scalar||tm then some (r,h)else none|none=>none
theorem bO {C:Cfg} {c:Ctx} {f:FuncId} (hr:c.raw f=false) (xs:List Opd) (fr:Fr) (h:AH) :
  A2 (Q8 C) c (.call f xs) fr h=sB (f8 h true (xs.map (get fr))) (λys=>pc C f ys) ((xs.map (get fr)).all (tame h)) h:=by
 simp only[A2,GM,hr,sB];rw[if_neg (by simp)];cases f8 h true (xs.map (get fr))with
 |none=>rfl
 |some ys =>
  show (match pc C f ys with|none=>none|some r=>_)=_
  cases hp:pc C f ys with
  |none=>simp only[hp]
  |some r=>simp only[hp]
theorem Xh {C:Cfg} {c:Ctx} {f:FuncId} (hr:c.raw f=true) (xs:List Opd) (fr:Fr) (h:AH) :
  A2 (Q8 C) c (.call f xs) fr h=US (c.noB f) h (rc C f (xs.map (get fr)) h):=by
 simp only[A2,GM,hr];rfl
@[simp] theorem xK (h:AH) (r:Option (AV×AH)):US false h r=r:=_root_.id rfl
theorem jE (l l':List (List AV)):(l++l').take l.length=l:=by simp
theorem sE (h:AH) (v:AV) (B:List (List AV)) (f:List Fam) (hv:KO v=true):US true h (some (v,⟨h.boxes++B,f⟩))=some (v,⟨h.boxes,f⟩):=by
 simp[US,hv,jE,Kk]
@[simp] theorem gQ (h:AH) (v:AV) (f:List Fam):US true h (some (v,⟨h.boxes,f⟩))=some (v,⟨h.boxes,f⟩):=by simp[US,Kk]
def fin (rs:List RRes) (fr:Fr) (h:AH):Option AV:=(Jl fr h rs).bind λvs=>Bn h (I1 vs)
theorem LA {rf:RFunc} {args:E6} (h:args.length<=rf.ntmps):(Dy rf args).length=rf.ntmps/\∀i,A0 (Dy rf args) i=args.getD i A9:=by
 refine⟨by simp[Dy];omega,λi=>?_⟩;simp only[A0,Dy,xt];by_cases hi:i<args.length
 .rw[xp hi]
 .rw[xo (by omega),List.getElem?_eq_none (l:=args) (by omega),xq];split<;>rfl
theorem iP {C:Cfg} {f:FuncId} {rf:RFunc} {args:E6} {r:AV} (hs:C.spec f=none) (hc:C.code f=some rf) (hl:args.length<=rf.ntmps)
  (H:∀fr:Fr,fr.length=rf.ntmps->(∀i,A0 fr i=args.getD i A9)->kJ (A1 (Q8 C) (C.ctx f) rf.body (fr,⟨[],[]⟩)) (fin rf.results)=some r):pc C f args=some r:=by
 have:=H (Dy rf args) (LA hl).1 (LA hl).2;apply ls;unfold JT Na;simp only[hs,hc];unfold KH kJ fin at *
 cases he:A1 (Q8 C) (C.ctx f) rf.body (Dy rf args,AH.empty)with
 |none=>rw[show (⟨[],[]⟩:AH)=AH.empty from rfl,he]at this;cases this
 |some x =>
  rw[show (⟨[],[]⟩:AH)=AH.empty from rfl,he]at this;obtain⟨e,fr,h⟩:=x;cases e with
  |exit i=>cases this
  |normal=>cases hr:Jl fr h rf.results with|none=>simp[hr]at this|some vs=>simpa[hr]using this
  |ret=>cases hr:Jl fr h rf.results with|none=>simp[hr]at this|some vs=>simpa[hr]using this
end Go.Abs
