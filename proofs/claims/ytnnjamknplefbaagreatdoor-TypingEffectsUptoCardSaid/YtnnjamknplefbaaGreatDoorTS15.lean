/- A part of the proof. -/
import Derived.Test.YtnnjamknplefbaaGreatDoorTS14
set_option linter.all false
open Option renaming map_eq_some_iff->zf0z
open Nat renaming le_max_right->zf1z,le_max_left->zf2z,le_refl->zf6z
open Array renaming getD_eq_getD_getElem?->zf3z,replicate->zf4z
open Bool renaming or_eq_true->zf5z
open List renaming mapM_cons->zf7z,replicate->zf8z,getD->zf9z
set_option linter.all false
namespace Go.Abs
open Go.RowKit (Below)
def exOf:Ex->Exit
 | .normal=>.normal
 | .exit id=>.exit id
 | .ret=>.ret
def ZR(O:Orc):Prop:=∀(step:St->Option (Ex×St)) (s:St) (x:Ex×St),O.loop step s=some x->∃n,HN step n s=some x
section
variable {P:Program} {O:Orc} {c:Ctx}
theorem Rx(hP:JG P O)(hR:PE P O)(hL:ZR O)(hm:P.follows .mixedOrders=true) :
  ∀(code:Code) (rc:RCode),b7 P c code=some rc->∀(E:Env) (fr:Fr) (a:Act),SR E->FR E fr a.tmps->∀(ex:Ex) (G6:Fr) (h':AH),A8 O c rc (fr,E.h)=some (ex,(G6,h')) ->
   ∀Q:Exit->Act->World->Prop,(∀a' E',Ext E E'->SR E'->E'.h=h'->FR E' G6 a'.tmps->a'.defers=a.defers->Q (exOf ex) a' E'.w)->code.wp P Q a E.w:=by
 intro code
 induction code with
 |skip =>
  intro rc hr E fr a hS hf ex G6 h' E5 Q hQ;simp only[b7]at hr;cases hr;simp only[A8]at E5;cases E5;exact wp_skip (hQ a E (Ext.refl E) hS rfl hf rfl)
 |region id ops draw =>
  intro rc hr E fr a hS hf ex G6 h' E5 Q hQ;have hr':=hr;simp only[b7]at hr';have hbad:rc≠.bad:=λe=>by rw[e]at E5;simp[A8]at E5
  have hform:(∃d D5,rc=.region d D5)\/∃bs D5,rc=.regd bs D5:=by
   repeat' (split at hr')
   all_goals (cases hr';first|exact .inl ⟨_,_,rfl⟩|exact .inr ⟨_,_,rfl⟩|exact absurd rfl hbad)
  rcases hform with ⟨d,D5,rfl⟩|⟨bs,D5,rfl⟩
  .simp only[A8]at E5;split at E5
   .rename_i s hs;cases E5;exact YP hP hR hm hr hS hf hs hQ
   .cases E5
  .simp only[A8]at E5;split at E5
   .rename_i fs s hs;split at E5
    .rename_i hp;cases E5;exact fD hP hR hm hr hS hf hs hp hQ
    .cases E5
   .cases E5
 |seq x y ihx ihy =>
  intro rc hr E fr a hS hf ex G6 h' E5 Q hQ;simp only[b7]at hr;split at hr
  .rename_i x' y' hx hy;cases hr;simp only[A8]at E5;refine wp_seq ?_;split at E5
   .rename_i s hs;obtain⟨Kr,h1⟩:=s;refine ihx x' hx E fr a hS hf .normal Kr h1 hs _ λa' E' k1 k2 k3 k4 k5=>?_;show y.wp P Q a' E'.w;refine ihy y' hy E' Kr a' k2 k4 ex G6 h' (by rw[k3];exact E5) Q λa'' E'' m1 m2 m3 m4 m5=>?_;exact hQ a'' E'' (k1.trans m1) m2 m3 m4 (m5.trans k5)
   .rename_i s9;refine ihx x' hx E fr a hS hf ex G6 h' E5 _ λa' E' k1 k2 k3 k4 k5=>?_;have:=hQ a' E' k1 k2 k3 k4 k5;cases ex with
    |normal=>exact absurd E5 (s9 _)
    |exit id=>exact this
    |ret=>exact this
  .cases hr
 |cond q x y ihx ihy =>
  intro rc hr E fr a hS hf ex G6 h' E5 Q hQ;simp only[b7]at hr;split at hr
  .rename_i q' x' y' hq hx hy;cases hr;simp only[A8]at E5;have hv:=C4 hf hq;split at E5
   .rename_i hg;rw[hg]at hv;simp only[VR]at hv;exact wp_cond_true hv (ihx x' hx E fr a hS hf ex G6 h' E5 Q hQ)
   .rename_i hg;rw[hg]at hv;simp only[VR]at hv;exact wp_cond_false hv (ihy y' hy E fr a hS hf ex G6 h' E5 Q hQ)
   .cases E5
  .cases hr
 |block id x ih =>
  intro rc hr E fr a hS hf ex G6 h' E5 Q hQ;simp only[b7,zf0z]at hr;obtain⟨x',hx,rfl⟩:=hr;simp only[A8]at E5;refine wp_block ?_;split at E5
  .rename_i id' s hs;obtain⟨Kr,h1⟩:=s;refine ih x' hx E fr a hS hf (.exit id') Kr h1 hs _ λa' E' k1 k2 k3 k4 k5=>?_;show if id'=id then Q .normal a' E'.w else Q (.exit id') a' E'.w
   split at E5
   .rename_i he;cases E5;rw[if_pos he];exact hQ a' E' k1 k2 k3 k4 k5
   .rename_i he;cases E5;rw[if_neg he];exact hQ a' E' k1 k2 k3 k4 k5
  .rename_i s9;refine ih x' hx E fr a hS hf ex G6 h' E5 _ λa' E' k1 k2 k3 k4 k5=>?_;have:=hQ a' E' k1 k2 k3 k4 k5;cases ex with
   |normal=>exact this
   |exit id'=>exact absurd E5 (s9 _ _)
   |ret=>exact this
 |loop x ih =>
  intro rc hr E fr a hS hf ex G6 h' E5 Q hQ;simp only[b7,zf0z]at hr;obtain⟨x',hx,rfl⟩:=hr;simp only[A8]at E5;obtain⟨n,hn⟩:=hL _ _ _ E5;refine wp_loop_rounds n ?_;clear E5
  induction n generalizing E fr a with
  |zero=>simp only[HN]at hn;cases hn
  |succ n ihn =>
   simp only[HN]at hn;rw[rounds_succ];split at hn
   .rename_i s hs;obtain⟨Kr,h1⟩:=s;refine ih x' hx E fr a hS hf .normal Kr h1 hs _ λa' E' k1 k2 k3 k4 k5=>?_;show Code.rounds P x Q n a' E'.w;exact ihn E' Kr a' k2 k4 (λa'' E'' m1 m2 m3 m4 m5=>hQ a'' E'' (k1.trans m1) m2 m3 m4 (m5.trans k5)) (by rw[k3];exact hn)
   .rename_i s9;refine ih x' hx E fr a hS hf ex G6 h' hn _ λa' E' k1 k2 k3 k4 k5=>?_;have:=hQ a' E' k1 k2 k3 k4 k5;cases ex with
    |normal=>exact absurd hn (s9 _)
    |exit id=>exact this
    |ret=>exact this
 |exit id =>
  intro rc hr E fr a hS hf ex G6 h' E5 Q hQ;simp only[b7]at hr;cases hr;simp only[A8]at E5;cases E5;exact wp_exit (hQ a E (Ext.refl E) hS rfl hf rfl)
 |ret =>
  intro rc hr E fr a hS hf ex G6 h' E5 Q hQ;simp only[b7]at hr;cases hr;simp only[A8]at E5;cases E5;exact wp_ret (hQ a E (Ext.refl E) hS rfl hf rfl)
 |rangeFunc _ _ _ _ _ _ =>
  intro rc hr E fr a _ _ ex G6 h' E5;simp only[b7,Option.some.injEq]at hr;subst hr;simp[A8]at E5
 |scope _ _ =>
  intro rc hr E fr a _ _ ex G6 h' E5;simp only[b7,Option.some.injEq]at hr;subst hr;simp[A8]at E5
 |label _ =>
  intro rc hr E fr a _ _ ex G6 h' E5;simp only[b7,Option.some.injEq]at hr;subst hr;simp[A8]at E5
 |goto _ =>
  intro rc hr E fr a _ _ ex G6 h' E5;simp only[b7,Option.some.injEq]at hr;subst hr;simp[A8]at E5
 |refuse _ =>
  intro rc hr E fr a _ _ ex G6 h' E5;simp only[b7,Option.some.injEq]at hr;subst hr;simp[A8]at E5
theorem bg{E:Env}{args:I7}{vs:Array Value}(hG:DC E.w E.ok)(hv:W5 E args vs.toList)(rf:RFunc):FR E (CP rf args) (vs++zf4z (rf.ntmps-vs.size) undef):=by
 obtain⟨hl,hg⟩:=Bi hv;have hl':vs.size=args.length:=by simpa using hl
 refine⟨by simp[CP,hl'],λt=>?_,hG⟩;unfold CP;by_cases ht:t<args.length
 .obtain⟨u,h1,h2⟩:=hg (List.getElem?_eq_getElem ht);have e1:(args++zf8z (rf.ntmps-args.length) B4).getD t B4=args[t]:=by simp[zf9z,List.getElem?_append_left ht,ht]
  have e2:(vs++zf4z (rf.ntmps-vs.size) undef).getD t undef=u:=by
   rw[zf3z,Array.getElem?_append_left (by omega)];rw[Array.getElem?_toList]at h1;rw[h1];rfl
  rw[e1,e2];exact h2
 .have e1:(args++zf8z (rf.ntmps-args.length) B4).getD t B4=B4:=by
   rw[zf9z,List.getElem?_append_right (by omega),List.getElem?_replicate];split<;>rfl
  have e2:(vs++zf4z (rf.ntmps-vs.size) undef).getD t undef=undef:=by
   rw[zf3z,Array.getElem?_append_right (by omega),Array.getElem?_replicate];split<;>rfl
  rw[e1,e2];exact DE E
theorem Jc{E:Env}{fr:Fr}{tmps:Array Value}(hS:SR E)(hf:FR E fr tmps)(g:ResultVar->Sem Value)(g1:∀t,g (.tmp t)=pure (tmps.getD t undef))(g2:∀a t,g (.cell a t)=(do loadVar t (←asAddr (tmps.getD a undef)))):∀{rs:List ResultVar} {rrs:List RRes} {vs:I7},GK (YQ P) rs=some rrs->Hz fr E.h rrs=some vs ->
  ∃us:List Value,(rs.mapM g).run P E.w=.ok us E.w/\W5 E vs us
 | [],rrs,vs,hr,he=>by
  simp[GK]at hr;subst hr;simp[Hz]at he;subst he;exact⟨[],by simp,by simp[W5]⟩
 |r::rs,rrs,vs,hr,he=>by
  simp only[GK]at hr;split at hr
  .rename_i rr rrs' h1 h2;cases hr;cases r with
   |tmp t =>
    simp only[YQ]at h1;cases h1;simp only[Hz,zf0z]at he;obtain⟨vs',hvs',rfl⟩:=he;obtain⟨us,u1,u2⟩:=Jc hS hf g g1 g2 h2 hvs';refine⟨tmps.getD t undef::us,?_,by simp only[W5];exact⟨_,_,rfl,hf.val t,u2⟩⟩;rw[zf7z,g1];simp only[Sem.run_bind,Sem.run_pure,Result.andThen_ok];rw[u1];simp
   |cell a t =>
    simp only[YQ]at h1;split at h1
    .rename_i b n hb hn;cases h1;simp only[Hz,Option.bind_eq_some_iff,zf0z]at he;obtain⟨v,hv,vs',hvs',rfl⟩:=he;obtain⟨us,u1,u2⟩:=Jc hS hf g g1 g2 h2 hvs';obtain⟨bl,of,cs,e1,e2,e3⟩:=QP hS (hf.val a) hv;obtain⟨u,h3,h4⟩:=La (P:=P) e2 e3 hb hn;refine⟨u::us,?_,by simp only[W5];exact⟨_,_,rfl,h4,u2⟩⟩;rw[zf7z,g2];have hadr:(asAddr (tmps.getD a undef)).run P E.w=.ok ⟨bl,of,none⟩ E.w:=by rw[e1];rfl
     simp only[Sem.run_bind,hadr,Sem.run_pure,Result.andThen_ok,h3];rw[u1];simp
    .cases h1
  .cases hr
theorem me{E:Env}{vs:I7}{us:List Value}(h:W5 E vs us):VR E (M6 vs) (if h:us.toArray.size=1 then us.toArray[0]else .tuple us.toArray):=by
 cases vs with
 |nil =>
  simp only[W5]at h;subst h;simp[M6,VR,W5]
 |cons v vs =>
  simp only[W5]at h;obtain⟨u,us',rfl,h1,h2⟩:=h;cases vs with
  |nil =>
   simp only[W5]at h2;subst h2;simpa[M6]using h1
  |cons v' vs =>
   simp only[W5]at h2;obtain⟨u',us'',rfl,h3,h4⟩:=h2;simp only[M6];rw[dif_neg (by simp)];simp only[VR];refine⟨_,rfl,?_⟩;simp only[W5];exact⟨u,_,rfl,h1,u',us'',rfl,h3,h4⟩
end
structure CfgS (P:Program) (C:Cfg):Prop where
 code:∀f rf,C.code f=some rf->RQ P C.ctx f=some rf
 spec:∀(f:FuncId) (s:List AV->Option AV),C.spec f=some s->∀(args:List AV) (r:AV),s args=some r->Program.enterable P f=true /\
  ∀(w:World) (ok0:Nat->Nat->Prop) (vs:Array Value),(∀b o,ok0 b o->b<w.heap.size)->DC w ok0->Aj w ok0 args vs.toList ->
   Calls P f vs w λe w'=>∃u,e=.returned u/\Bl w.heap.size w w'/\PV w' (λb o=>ok0 b o\/(w.heap.size<=b/\b<w'.heap.size)) r u
 mixed:P.follows .mixedOrders=true
 rspec:∀(f:FuncId) (s:RSpec),C.rspec f=some s->∀O:Orc,JG P O->∀(args:List AV) (h:AH) (r:AV) (h':AH),s.run O args h=some (r,h')->Program.enterable P f=true /\
  ∀(E:Env) (vs:Array Value),SR E->DC E.w E.ok->E.h=h->W5 E args vs.toList ->
   Calls P f vs E.w λe w'=>∃u E',e=.returned u/\w'=E'.w/\Ext E E'/\SR E'/\E'.h=h'/\VR E' r u
section
variable {P:Program} {C:Cfg} {O:Orc}
theorem Ss(hC:CfgS P C)(hP:JG P O)(hR:PE P O)(hL:ZR O){f:FuncId}{args:I7}{h h':AH}{r:AV}(he:EW C O f args h=some (r,h')) :
  Program.enterable P f=true/\∀(E:Env) (vs:Array Value),SR E->DC E.w E.ok->E.h=h->W5 E args vs.toList ->
   Calls P f vs E.w λe w'=>∃u E',e=.returned u/\w'=E'.w/\Ext E E'/\SR E'/\E'.h=h'/\VR E' r u:=by
 unfold EW at he;split at he
 .rename_i rf hrf;have h1:=hC.code f rf hrf;unfold RQ at h1;split at h1
  .rename_i hent;refine⟨hent,λE vs hS hG hh hv=>?_⟩;split at h1
   .rename_i fn hfn;split at h1
    .rename_i b hb;split at h1
     .rename_i rs rb hrs hrb;cases h1;refine calls_of_wp hfn hb ?_;subst hh;have fin:∀(s:St) (a':Act) (E':Env),Ext E E'->SR E'->E'.h=s.2->FR E' s.1 a'.tmps->a'.defers=[]->(Hz s.1 s.2 rs).map (λvs=>(M6 vs,s.2))=some (r,h') ->
        a'.defers=[]/\∃v,(results fn a'.tmps).run P E'.w=.ok v E'.w/\∃u E'',Ending.returned v=.returned u/\E'.w=E''.w/\Ext E E''/\SR E''/\E''.h=h'/\VR E'' r u:=by
       intro s a' E' k1 k2 k3 k4 k5 k6;simp only[zf0z]at k6;obtain⟨avs,k7,k8⟩:=k6;cases k8;rw[←k3]at k7;obtain⟨us,u1,u2⟩:=Jc (P:=P) k2 k4 (fun | .tmp t=>pure (a'.tmps.getD t undef) | .cell a t=>do loadVar t (←asAddr (a'.tmps.getD a undef))) (λ_=>rfl) (λ_ _=>rfl) hrs k7
       refine⟨k5,_,?_,_,E',rfl,rfl,k1,k2,k3,me u2⟩;unfold results;rw[Array.mapM_eq_mapM_toList];simp only[bind_map_left,Sem.run_bind];refine Eq.trans (congrArg (λr=>Result.andThen r _) u1) ?_;rfl
      unfold En at he;split at he
      .rename_i s hs;refine Rx hP hR hL hC.mixed b rb hrb E _ _ hS (bg hG hv ⟨fn.ntmps,rs,rb⟩) .normal s.1 s.2 hs _ λa' E' k1 k2 k3 k4 k5=>?_;exact fin s a' E' k1 k2 k3 k4 k5 he
      .rename_i s hs;refine Rx hP hR hL hC.mixed b rb hrb E _ _ hS (bg hG hv ⟨fn.ntmps,rs,rb⟩) .ret s.1 s.2 hs _ λa' E' k1 k2 k3 k4 k5=>?_;exact fin s a' E' k1 k2 k3 k4 k5 he
      .cases he
     .cases h1
    .cases h1
   .cases h1
  .cases h1
 .split at he
  .rename_i s hs;exact hC.rspec f s hs O hP args h r h' he
  .cases he
theorem bE(hC:CfgS P C)(hP:JG P O)(hR:PE P O)(hL:ZR O){f:FuncId}{args:I7}{r:AV}(he:Ck C O f args=some r) :
  Program.enterable P f=true/\∀(w:World) (ok0:Nat->Nat->Prop) (vs:Array Value),(∀b o,ok0 b o->b<w.heap.size)->DC w ok0->Aj w ok0 args vs.toList ->
   Calls P f vs w λe w'=>∃u,e=.returned u/\Bl w.heap.size w w'/\PV w' (λb o=>ok0 b o\/(w.heap.size<=b/\b<w'.heap.size)) r u:=by
 unfold Ck at he;split at he
 .rename_i s hs;obtain⟨k1,k2⟩:=hC.spec f s hs args r he;exact⟨k1,k2⟩
 .split at he
  .rename_i r0 h0 hr;obtain⟨h1,h2⟩:=Ss hC hP hR hL hr;refine⟨h1,λw ok0 vs T9 hG hv=>?_⟩;have hS:SR ⟨w,w.heap.size,ok0,λ_=>0,λ_=>⟨0,0,0,0⟩,AH.empty⟩ :=
    ⟨zf6z _,λi cs hi=>by simp[AH.empty]at hi,λk f hk=>by simp[AH.empty]at hk,λi j hi=>by have:=hi.lt;simp[AH.empty]at this,λi j hi=>by simp[AH.empty]at hi,λi j hi=>by have:=hi.lt;simp[AH.empty]at this⟩
   have hv':W5 ⟨w,w.heap.size,ok0,λ_=>0,λ_=>⟨0,0,0,0⟩,AH.empty⟩ args vs.toList :=
    GD _ _ (Bh (λb o ho=>⟨.inl ⟨T9 b o ho,ho⟩,El.refl _ _ _⟩) _ _ hv)
   refine(h2 _ vs hS (hG.mono λb o ho=>⟨.inl ⟨T9 b o ho,ho⟩,El.refl _ _ _⟩) rfl hv').mono λe w' ⟨u,E',k1,k2,k3,k4,k5,k6⟩=>?_;subst k2;refine⟨u,k1,k3.below,?_⟩;rw[←k5]at he;have hbase:E'.base=w.heap.size:=k3.base;have hok0:E'.ok0=ok0:=k3.ok0;refine XP k4 ⟨λb o ho=>?_,λ_ b o hb G9=>.inr ⟨by rw[←hbase];exact hb,G9⟩⟩ k6 he;rcases ho with ⟨_,ho⟩|⟨ho1,ho2,_⟩
   .rw[hok0]at ho;exact .inl ho
   .rw[hbase]at ho1;exact .inr ⟨ho1,ho2⟩
  .cases he
theorem en(hC:CfgS P C)(hP:JG P O)(hR:PE P O)(hL:ZR O){f:FuncId}{args:I7}{h h':AH}{r:AV}(he:OY C O f args h=some (r,h')) :
  Program.enterable P f=true/\∀(E:Env) (vs:Array Value),SR E->DC E.w E.ok->E.h=h->W5 E args vs.toList ->
   Calls P f vs E.w λe w'=>∃u E',e=.returned u/\w'=E'.w/\Ext E E'/\SR E'/\E'.h=h'/\VR E' r u:=by
 unfold OY at he;cases hr:EW C O f args h with
 |none=>rw[hr]at he;unfold Pp at he;split at he<;>cases he
 |some x =>
  rw[hr,MJ]at he;obtain⟨r0,h0⟩:=x;obtain⟨k1,k2⟩:=Ss hC hP hR hL hr;refine⟨k1,λE vs hS hG hh hv=>(k2 E vs hS hG hh hv).mono λe w' ⟨u,E',e1,e2,e3,e4,e5,e6⟩=>?_⟩;unfold xg at he;split at he
  .simp only[Option.some.injEq,Prod.mk.injEq]at he;obtain⟨rfl,he⟩:=he;obtain⟨E2,r2,q2⟩:=xi e4 r0;exact⟨u,E2,e1,by rw[r2.w];exact e2,e3.trans r2.ext,r2.sr,by rw[q2,e5];exact he,PG r2.ext _ _ e6⟩
  .cases he;exact⟨u,E',e1,e2,e3,e4,e5,e6⟩
theorem Ph(hC:CfgS P C):∀n,JG P (orc C n)/\PE P (orc C n)/\ZR (orc C n)
 |0=>⟨λf args r h=>(nomatch h),λf args h r h' he=>(nomatch he),λstep s x h=>(nomatch h)⟩
 |n+1=>by
  obtain⟨h1,h2,h3⟩:=Ph hC n;exact⟨λf args r he=>bE hC h1 h2 h3 he,λf args h r h' he=>en hC h1 h2 h3 he,λstep s x he=>⟨n+1,he⟩⟩
end
structure Le (O O':Orc):Prop where
 pure:∀f args r,O.pure f args=some r->O'.pure f args=some r
 raw:∀f args h r,O.raw f args h=some r->O'.raw f args h=some r
 loop:∀(step step':St->Option (Ex×St)) (s:St) (x:Ex×St),(∀s x,step s=some x->step' s=some x)->O.loop step s=some x->O'.loop step' s=some x
theorem Le.trans{A B C:Orc}(h:Le A B)(k:Le B C):Le A C :=
 ⟨λf a r e=>k.pure f a r (h.pure f a r e),λf a g r e=>k.raw f a g r (h.raw f a g r e),λs s' t x hs e=>k.loop s' s' t x (λ_ _ h=>h) (h.loop s s' t x hs e)⟩
section
variable {O O':Orc} {c:Ctx}
theorem Ru(hO:Le O O'){f:FuncId}{args:I7}{h:AH}{x:AV×AH}(he:Di O c f args h=some x):Di O' c f args h=some x:=by
 unfold Di at he ⊢;split
 .rename_i hr;rw[if_pos hr]at he;obtain⟨y,h1⟩:=aM he;rw[h1]at he;rw[hO.raw _ _ _ _ h1];exact he
 .rename_i hr;rw[if_neg hr]at he;cases has:j8 h true args with
  |none=>rw[has]at he;cases he
  |some aas =>
   rw[has]at he;dsimp only at he ⊢;cases hp:O.pure f aas with
   |none=>rw[hp]at he;cases he
   |some r =>
    rw[hp]at he;rw[hO.pure _ _ _ hp];exact he
theorem Bn(hO:Le O O'){r:ROp}{fr:Fr}{h:AH}{x:AV×AH}(he:A0 O c r fr h=some x):A0 O' c r fr h=some x:=by
 cases r
 case call f aas=>exact Ru hO he
 case callv y aas =>
  simp only[A0]at he ⊢;split at he
  .split at he
   .cases he
   .rename_i hc;rw[if_neg hc];exact Ru hO he
  .cases he
 case len b x=>cases b<;>exact he
 all_goals exact he
theorem Ho(hO:Le O O'):∀{D5:List RO} {fr:Fr} {h:AH} {x:Fr×AH},N6 O c D5 fr h=some x->N6 O' c D5 fr h=some x
 | [],_,_,_,he=>he
 |o::D5,fr,h,x,he=>by
  simp only[N6]at he ⊢;cases hw:P1 fr o.guard with
  |none=>rw[hw]at he;cases he
  |some b =>
   rw[hw]at he;cases b with
   |false=>exact Ho hO he
   |true =>
    dsimp only at he ⊢;cases j7:A0 O c o.op fr h with
    |none=>rw[j7]at he;cases he
    |some y =>
     rw[j7]at he;rw[Bn hO j7];exact Ho hO he
theorem Eo(hO:Le O O'):∀{D5:List RO} {fr:Fr} {h:AH} {x:List Foot×Fr×AH},P3 O c D5 fr h=some x->P3 O' c D5 fr h=some x
 | [],_,_,_,he=>he
 |o::D5,fr,h,x,he=>by
  simp only[P3]at he ⊢;cases hw:P1 fr o.guard with
  |none=>rw[hw]at he;cases he
  |some b =>
   rw[hw]at he;cases b with
   |false =>
    dsimp only at he ⊢;rw[zf0z]at he ⊢;obtain⟨p,hp,e⟩:=he;exact⟨p,Eo hO hp,e⟩
   |true =>
    dsimp only at he ⊢;cases j7:A0 O c o.op fr h with
    |none=>rw[j7]at he;cases he
    |some y =>
     rw[j7]at he;rw[Bn hO j7];dsimp only at he ⊢;rw[zf0z]at he ⊢;obtain⟨p,hp,e⟩:=he;exact⟨p,Eo hO hp,e⟩
theorem Gc(hO:Le O O'):∀{D5:List RO} {fr:Fr} {h:AH} {x:List (Fr×AH)},W9 O c D5 fr h=some x->W9 O' c D5 fr h=some x
 | [],_,_,_,he=>he
 |o::D5,fr,h,x,he=>by
  simp only[W9]at he ⊢;cases hw:P1 fr o.guard with
  |none=>rw[hw]at he;cases he
  |some b =>
   rw[hw]at he;cases b with
   |false =>
    dsimp only at he ⊢;rw[zf0z]at he ⊢;obtain⟨p,hp,e⟩:=he;exact⟨p,Gc hO hp,e⟩
   |true =>
    dsimp only at he ⊢;cases j7:A0 O c o.op fr h with
    |none=>rw[j7]at he;cases he
    |some y =>
     rw[j7]at he;rw[Bn hO j7];dsimp only at he ⊢;rw[zf0z]at he ⊢;obtain⟨p,hp,e⟩:=he;exact⟨p,Gc hO hp,e⟩
theorem Md(hO:Le O O'){bs:List Nat}{D5:List RO}{fr:Fr}{h:AH}{fs:List Foot}(he:Bu O c bs D5 fr h fs=true):Bu O' c bs D5 fr h fs=true:=by
 unfold Bu at he ⊢;cases ht:W9 O c D5 fr h with
 |none=>rw[ht]at he;cases he
 |some ts=>rw[ht]at he;rw[Gc hO ht];exact he
theorem DP(hO:Le O O'):∀(rc:RCode) (s:St) (x:Ex×St),A8 O c rc s=some x->A8 O' c rc s=some x:=by
 intro rc
 induction rc with
 |skip=>exact λs x he=>he
 |region d D5 =>
  intro s x he;simp only[A8]at he ⊢;cases hs:N6 O c D5 s.1 s.2 with
  |none=>rw[hs]at he;cases he
  |some y=>rw[hs]at he;rw[Ho hO hs];exact he
 |regd bs D5 =>
  intro s x he;simp only[A8]at he ⊢;cases hs:P3 O c D5 s.1 (s.2.holes (Tu D5))with
  |none=>rw[hs]at he;cases he
  |some y =>
   rw[hs]at he;rw[Eo hO hs];dsimp only at he ⊢;split at he
   .rename_i hp;rw[zf5z]at hp;rw[if_pos (by rw[zf5z];exact hp.imp id (Md hO))];exact he
   .cases he
 |seq a b iha ihb =>
  intro s x he;simp only[A8]at he ⊢;cases hs:A8 O c a s with
  |none=>rw[hs]at he;cases he
  |some y =>
   rw[hs]at he;rw[iha s y hs];obtain⟨e,s'⟩:=y;cases e with
   |normal=>exact ihb _ _ he
   |exit id=>exact he
   |ret=>exact he
 |cond q a b iha ihb =>
  intro s x he;simp only[A8]at he ⊢;split at he
  .exact iha _ _ he
  .exact ihb _ _ he
  .cases he
 |block id a ih =>
  intro s x he;simp only[A8]at he ⊢;cases hs:A8 O c a s with
  |none=>rw[hs]at he;cases he
  |some y=>rw[hs]at he;rw[ih s y hs];exact he
 |loop a ih=>intro s x he;exact hO.loop _ _ _ _ ih he
 |exit id=>exact λs x he=>he
 |ret=>exact λs x he=>he
 |bad=>exact λs x he=>he
theorem MG{C:Cfg}(hO:Le O O'){f:FuncId}{args:I7}{h:AH}{x:AV×AH}(he:EW C O f args h=some x):EW C O' f args h=some x:=by
 unfold EW at he ⊢;split at he
 .unfold En at he ⊢;rename_i rf _;cases hs:A8 O (C.ctx f) rf.body (CP rf args,h)with
  |none=>rw[hs]at he;cases he
  |some y=>rw[hs]at he;rw[DP hO _ _ _ hs];exact he
 .rename_i hc;split at he
  .rename_i s hs;obtain⟨l,h1,h2⟩:=s.fin O args h x he;exact h2 O' λp hp=>hO.pure _ _ _ (h1 p hp)
  .cases he
theorem lq{C:Cfg}(hO:Le O O'){f:FuncId}{args:I7}{h:AH}{x:AV×AH}(he:OY C O f args h=some x):OY C O' f args h=some x:=by
 unfold OY at he ⊢;cases hr:EW C O f args h with
 |none=>rw[hr]at he;unfold Pp at he;split at he<;>cases he
 |some y=>rw[hr]at he;rw[MG hO hr];exact he
theorem ek{C:Cfg}(hO:Le O O'){f:FuncId}{args:I7}{x:AV}(he:Ck C O f args=some x):Ck C O' f args=some x:=by
 unfold Ck at he ⊢;split at he
 .exact he
 .cases hs:EW C O f args AH.empty with
  |none=>rw[hs]at he;cases he
  |some y=>rw[hs]at he;rw[MG hO hs];exact he
end
theorem ER{step step':St->Option (Ex×St)}(hs:∀s x,step s=some x->step' s=some x):∀{n m:Nat},n<=m->∀{s:St} {x:Ex×St},HN step n s=some x->HN step' m s=some x
 |0,_,_,s,x,he=>by simp[HN]at he
 |n+1,0,h,s,x,he=>by omega
 |n+1,m+1,h,s,x,he=>by
  simp only[HN]at he ⊢;cases h1:step s with
  |none=>rw[h1]at he;cases he
  |some y =>
   rw[h1]at he;rw[hs s y h1];obtain⟨e,s'⟩:=y;cases e with
   |normal=>exact ER hs (by omega) he
   |exit id=>exact he
   |ret=>exact he
variable (C:Cfg)
theorem Sl:∀n,Le (orc C n) (orc C (n+1))
 |0=>⟨λf a r h=>(nomatch h),λf a g r h=>(nomatch h),λs s' t x _ h=>(nomatch h)⟩
 |n+1=>⟨λf a r h=>ek (Sl n) h,λf a g r h=>lq (Sl n) h,λs s' t x hs h=>ER hs (by omega) h⟩
theorem CX:∀{n m:Nat},n<=m->Le (orc C n) (orc C m)
 |n,0,h=>by
  have:n=0:=by omega
  subst this;exact⟨λ_ _ _ h=>h,λ_ _ _ _ h=>h,λs s' t x _ h=>(nomatch h)⟩
 |n,m+1,h=>by
  by_cases hn:n=m+1
  .subst hn;exact⟨λ_ _ _ h=>h,λ_ _ _ _ h=>h,λs s' t x hs h=>ER hs (zf6z _) h⟩
  .exact(CX (by omega)).trans (Sl C m)
open Classical in
noncomputable def pc(f:FuncId)(args:List AV):Option AV:=if h:∃n r,(orc C n).pure f args=some r then some h.choose_spec.choose else none
open Classical in
noncomputable def rc(f:FuncId)(args:List AV)(h:AH):Option (AV×AH):=if h:∃n r,(orc C n).raw f args h=some r then some h.choose_spec.choose else none
open Classical in
noncomputable def lp(step:St->Option (Ex×St))(s:St):Option (Ex×St):=if h:∃n x,HN step n s=some x then some h.choose_spec.choose else none
noncomputable def Ax:Orc:=⟨pc C,rc C,lp⟩
theorem Pk{f:FuncId}{args:I7}{r:AV}(h:pc C f args=some r):∃n,(orc C n).pure f args=some r:=by
 unfold pc at h;split at h
 .rename_i hx;cases h;exact⟨hx.choose,hx.choose_spec.choose_spec⟩
 .cases h
theorem Xj{n:Nat}{f:FuncId}{args:I7}{r:AV}(h:(orc C n).pure f args=some r):pc C f args=some r:=by
 have hx:∃n r,(orc C n).pure f args=some r:=⟨n,r,h⟩;unfold pc;rw[dif_pos hx];have h1:=(CX C (zf2z n hx.choose)).pure f args r h;have h2:=(CX C (zf1z n hx.choose)).pure f args _ hx.choose_spec.choose_spec;rw[h1]at h2;exact h2.symm
theorem rc_orc{f:FuncId}{args:I7}{h:AH}{r:AV×AH}(he:rc C f args h=some r):∃n,(orc C n).raw f args h=some r:=by
 unfold rc at he;split at he
 .rename_i hx;cases he;exact⟨hx.choose,hx.choose_spec.choose_spec⟩
 .cases he
theorem orc_rc{n:Nat}{f:FuncId}{args:I7}{h:AH}{r:AV×AH}(he:(orc C n).raw f args h=some r):rc C f args h=some r:=by
 have hx:∃n r,(orc C n).raw f args h=some r:=⟨n,r,he⟩;unfold rc;rw[dif_pos hx];have h1:=(CX C (zf2z n hx.choose)).raw f args h r he;have h2:=(CX C (zf1z n hx.choose)).raw f args h _ hx.choose_spec.choose_spec;rw[h1]at h2;exact h2.symm
theorem Xb{step:St->Option (Ex×St)}{s:St}{x:Ex×St}(h:lp step s=some x):∃n,HN step n s=some x:=by
 unfold lp at h;split at h
 .rename_i hx;cases h;exact⟨hx.choose,hx.choose_spec.choose_spec⟩
 .cases h
theorem OC{step:St->Option (Ex×St)}{n:Nat}{s:St}{x:Ex×St}(h:HN step n s=some x):lp step s=some x:=by
 have hx:∃n x,HN step n s=some x:=⟨n,x,h⟩;unfold lp;rw[dif_pos hx];have h1:=ER (λ_ _ h=>h) (zf2z n hx.choose) h;have h2:=ER (λ_ _ h=>h) (zf1z n hx.choose) hx.choose_spec.choose_spec;rw[h1]at h2;exact h2.symm
theorem zl{step:St->Option (Ex×St)}{s s':St}{x:Ex×St}(h:step s=some (.normal,s'))(k:lp step s'=some x):lp step s=some x:=by
 obtain⟨n,hn⟩:=Xb k;exact OC (n:=n+1) (by simp only[HN,h];exact hn)
theorem iK{step:St->Option (Ex×St)}{s s':St}{id:Nat}(h:step s=some (.exit id,s')):lp step s=some (.exit id,s'):=OC (n:=1) (by simp only[HN,h])
theorem qt{step:St->Option (Ex×St)}{s s':St}(h:step s=some (.ret,s')):lp step s=some (.ret,s'):=OC (n:=1) (by simp only[HN,h])
theorem Ms{c:Ctx}{r:ROp}{fr:Fr}{h:AH}{x:AV×AH}(he:A0 (Ax C) c r fr h=some x):∃n,A0 (orc C n) c r fr h=some x:=by
 have hcall:∀f args,Di (Ax C) c f args h=some x->∃n,Di (orc C n) c f args h=some x:=by
  intro f args he;unfold Di at he ⊢;split at he
  .rename_i hr;obtain⟨y,h1⟩:=aM he;rw[h1]at he;obtain⟨n,hn⟩:=rc_orc C h1;exact⟨n,by rw[if_pos hr,hn];exact he⟩
  .rename_i hr;cases has:j8 h true args with
   |none=>rw[has]at he;cases he
   |some aas =>
    rw[has]at he;dsimp only at he ⊢;cases hp:(Ax C).pure f aas with
    |none=>rw[hp]at he;cases he
    |some r =>
     rw[hp]at he;obtain⟨n,hn⟩:=Pk C hp;exact⟨n,by rw[if_neg hr,hn];exact he⟩
 cases r
 case call f aas=>exact hcall _ _ he
 case callv y aas =>
  simp only[A0]at he ⊢;split at he
  .split at he
   .cases he
   .rename_i hc;obtain⟨n,hn⟩:=hcall _ _ he;exact⟨n,by rw[if_neg hc];exact hn⟩
  .cases he
 case len b x=>cases b<;>exact⟨0,he⟩
 all_goals exact⟨0,he⟩
theorem LK{c:Ctx}:∀{D5:List RO} {fr:Fr} {h:AH} {x:Fr×AH},N6 (Ax C) c D5 fr h=some x->∃n,N6 (orc C n) c D5 fr h=some x
 | [],_,_,_,he=>⟨0,he⟩
 |o::D5,fr,h,x,he=>by
  simp only[N6]at he ⊢;cases hw:P1 fr o.guard with
  |none=>rw[hw]at he;cases he
  |some b =>
   rw[hw]at he;cases b with
   |false=>exact LK he
   |true =>
    dsimp only at he ⊢;cases j7:A0 (Ax C) c o.op fr h with
    |none=>rw[j7]at he;cases he
    |some y =>
     rw[j7]at he;obtain⟨n,hn⟩:=Ms C j7;obtain⟨m,hm⟩:=LK he;refine⟨max n m,?_⟩;rw[Bn (CX C (zf2z n m)) hn];exact Ho (CX C (zf1z n m)) hm
theorem KW{c:Ctx}:∀{D5:List RO} {fr:Fr} {h:AH} {x:List Foot×Fr×AH},P3 (Ax C) c D5 fr h=some x->∃n,P3 (orc C n) c D5 fr h=some x
 | [],_,_,_,he=>⟨0,he⟩
 |o::D5,fr,h,x,he=>by
  simp only[P3]at he ⊢;cases hw:P1 fr o.guard with
  |none=>rw[hw]at he;cases he
  |some b =>
   rw[hw]at he;cases b with
   |false =>
    dsimp only at he ⊢;rw[zf0z]at he;obtain⟨p,hp,e⟩:=he;obtain⟨n,hn⟩:=KW hp;exact⟨n,by rw[hn,←e];rfl⟩
   |true =>
    dsimp only at he ⊢;cases j7:A0 (Ax C) c o.op fr h with
    |none=>rw[j7]at he;cases he
    |some y =>
     rw[j7]at he;dsimp only at he;rw[zf0z]at he;obtain⟨p,hp,e⟩:=he;obtain⟨n,hn⟩:=Ms C j7;obtain⟨m,hm⟩:=KW hp;refine⟨max n m,?_⟩;rw[Bn (CX C (zf2z n m)) hn];dsimp only;rw[Eo (CX C (zf1z n m)) hm,←e];rfl
theorem KX{c:Ctx}:∀{D5:List RO} {fr:Fr} {h:AH} {x:List (Fr×AH)},W9 (Ax C) c D5 fr h=some x->∃n,W9 (orc C n) c D5 fr h=some x
 | [],_,_,_,he=>⟨0,he⟩
 |o::D5,fr,h,x,he=>by
  simp only[W9]at he ⊢;cases hw:P1 fr o.guard with
  |none=>rw[hw]at he;cases he
  |some b =>
   rw[hw]at he;cases b with
   |false =>
    dsimp only at he ⊢;rw[zf0z]at he;obtain⟨p,hp,e⟩:=he;obtain⟨n,hn⟩:=KX hp;exact⟨n,by rw[hn,←e];rfl⟩
   |true =>
    dsimp only at he ⊢;cases j7:A0 (Ax C) c o.op fr h with
    |none=>rw[j7]at he;cases he
    |some y =>
     rw[j7]at he;dsimp only at he;rw[zf0z]at he;obtain⟨p,hp,e⟩:=he;obtain⟨n,hn⟩:=Ms C j7;obtain⟨m,hm⟩:=KX hp;refine⟨max n m,?_⟩;rw[Bn (CX C (zf2z n m)) hn];dsimp only;rw[Gc (CX C (zf1z n m)) hm,←e];rfl
theorem Xm{c:Ctx}{bs:List Nat}{D5:List RO}{fr:Fr}{h:AH}{fs:List Foot}(he:Bu (Ax C) c bs D5 fr h fs=true):∃n,Bu (orc C n) c bs D5 fr h fs=true:=by
 unfold Bu at he;cases ht:W9 (Ax C) c D5 fr h with
 |none=>rw[ht]at he;cases he
 |some ts =>
  rw[ht]at he;obtain⟨n,hn⟩:=KX C ht;exact⟨n,by unfold Bu;rw[hn];exact he⟩
theorem XM{c:Ctx}:∀(rcode:RCode) (s:St) (x:Ex×St),A8 (Ax C) c rcode s=some x->∃n,A8 (orc C n) c rcode s=some x:=by
 intro rcode
 induction rcode with
 |skip=>exact λs x he=>⟨0,he⟩
 |region d D5 =>
  intro s x he;simp only[A8]at he ⊢;cases hs:N6 (Ax C) c D5 s.1 s.2 with
  |none=>rw[hs]at he;cases he
  |some y =>
   rw[hs]at he;obtain⟨n,hn⟩:=LK C hs;exact⟨n,by rw[hn];exact he⟩
 |regd bs D5 =>
  intro s x he;simp only[A8]at he ⊢;cases hs:P3 (Ax C) c D5 s.1 (s.2.holes (Tu D5))with
  |none=>rw[hs]at he;cases he
  |some y =>
   rw[hs]at he;obtain⟨n,hn⟩:=KW C hs;dsimp only at he;split at he
   .rename_i hp;rw[zf5z]at hp;rcases hp with hp|hp
    .exact⟨n,by rw[hn];dsimp only;rw[if_pos (by rw[hp];rfl)];exact he⟩
    .obtain⟨m,hm⟩:=Xm C hp;refine⟨max n m,?_⟩;rw[Eo (CX C (zf2z n m)) hn];dsimp only;rw[if_pos (by rw[Md (CX C (zf1z n m)) hm,Bool.or_true])];exact he
   .cases he
 |seq a b iha ihb =>
  intro s x he;simp only[A8]at he ⊢;cases hs:A8 (Ax C) c a s with
  |none=>rw[hs]at he;cases he
  |some y =>
   rw[hs]at he;obtain⟨n,hn⟩:=iha s y hs;obtain⟨e,s'⟩:=y;cases e with
   |normal =>
    obtain⟨m,hm⟩:=ihb _ _ he;refine⟨max n m,?_⟩;rw[DP (CX C (zf2z n m)) _ _ _ hn];exact DP (CX C (zf1z n m)) _ _ _ hm
   |exit id=>exact⟨n,by rw[hn];exact he⟩
   |ret=>exact⟨n,by rw[hn];exact he⟩
 |cond q a b iha ihb =>
  intro s x he;simp only[A8]at he ⊢;split at he
  .exact iha _ _ he
  .exact ihb _ _ he
  .cases he
 |block id a ih =>
  intro s x he;simp only[A8]at he ⊢;cases hs:A8 (Ax C) c a s with
  |none=>rw[hs]at he;cases he
  |some y =>
   rw[hs]at he;obtain⟨n,hn⟩:=ih s y hs;exact⟨n,by rw[hn];exact he⟩
 |loop a ih =>
  intro s x he;simp only[A8]at he ⊢;obtain⟨m,hm⟩:=Xb he;have key:∃n,HN (A8 (orc C n) c a) m s=some x:=by
   clear he
   induction m generalizing s with
   |zero=>simp[HN]at hm
   |succ m ihm =>
    simp only[HN]at hm ⊢;cases h1:A8 (Ax C) c a s with
    |none=>rw[h1]at hm;cases hm
    |some y =>
     rw[h1]at hm;obtain⟨n,hn⟩:=ih s y h1;obtain⟨e,s'⟩:=y;cases e with
     |normal =>
      obtain⟨k,hk⟩:=ihm s' hm;refine⟨max n k,?_⟩;rw[DP (CX C (zf2z n k)) _ _ _ hn];exact ER (DP (CX C (zf1z n k)) a) (zf6z _) hk
     |exit id=>exact⟨n,by rw[hn];exact hm⟩
     |ret=>exact⟨n,by rw[hn];exact hm⟩
  obtain⟨n,hn⟩:=key;refine⟨max n m+1,?_⟩;show HN _ (max n m+1) s=some x;exact ER (DP (CX C (by omega)) a) (by omega) hn
 |exit id=>exact λs x he=>⟨0,he⟩
 |ret=>exact λs x he=>⟨0,he⟩
 |bad=>exact λs x he=>⟨0,he⟩
theorem bJ{f:FuncId}{args:I7}{h:AH}{x:AV×AH}(he:EW C (Ax C) f args h=some x):∃n,EW C (orc C n) f args h=some x:=by
 unfold EW at he ⊢;split at he
 .unfold En at he ⊢;rename_i rf _;cases hs:A8 (Ax C) (C.ctx f) rf.body (CP rf args,h)with
  |none=>rw[hs]at he;cases he
  |some y =>
   rw[hs]at he;obtain⟨n,hn⟩:=XM C _ _ _ hs;exact⟨n,by rw[hn];exact he⟩
 .split at he
  .rename_i s hs;obtain⟨l,h1,h2⟩:=s.fin _ args h x he;have key:∀l:List (FuncId×List AV×AV),(∀p∈l,(Ax C).pure p.1 p.2.1=some p.2.2)->∃n,∀p∈l,(orc C n).pure p.1 p.2.1=some p.2.2:=by
    intro l
    induction l with
    |nil=>exact λ_=>⟨0,λp hp=>by simp at hp⟩
    |cons a l ih =>
     intro hl;obtain⟨n,hn⟩:=ih λp hp=>hl p (List.mem_cons_of_mem _ hp);obtain⟨m,hm⟩:=Pk C (hl a (by simp));refine⟨max n m,λp hp=>?_⟩;rcases List.mem_cons.1 hp with rfl|hp
     .exact(CX C (zf1z n m)).pure _ _ _ hm
     .exact(CX C (zf2z n m)).pure _ _ _ (hn p hp)
   obtain⟨n,hn⟩:=key l h1;exact⟨n,h2 _ hn⟩
  .cases he
theorem jD{f:FuncId}{args:I7}{h:AH}{x:AV×AH}(he:EW C (Ax C) f args h=some x):rc C f args h=some (xg (C.ctx f).rst x):=by
 obtain⟨n,hn⟩:=bJ C he;refine orc_rc C (n:=n+1) ?_;show OY C (orc C n) f args h=_;unfold OY;rw[hn,MJ]
theorem QW{f:FuncId}{args:I7}{x:AV}(he:Ck C (Ax C) f args=some x):pc C f args=some x:=by
 unfold Ck at he;split at he
 .rename_i s hs;refine Xj C (n:=1) ?_;show Ck C _ f args=some x;unfold Ck;simp only[hs];exact he
 .rename_i hs;cases hr:EW C (Ax C) f args AH.empty with
  |none=>rw[hr]at he;cases he
  |some y =>
   rw[hr]at he;obtain⟨n,hn⟩:=bJ C hr;refine Xj C (n:=n+1) ?_;show Ck C _ f args=some x;unfold Ck;simp only[hs,hn];exact he
theorem OU{P:Program}{C:Cfg}(hC:CfgS P C){f:FuncId}{args:I7}{r:AV}(h:pc C f args=some r)(w:World)(ok0:Nat->Nat->Prop)(vs:Array Value)(T9:∀b o,ok0 b o->b<w.heap.size)(hG:DC w ok0)(hv:Aj w ok0 args vs.toList) :
  Calls P f vs w λe w'=>∃u,e=.returned u/\Bl w.heap.size w w'/\PV w' (λb o=>ok0 b o\/(w.heap.size<=b/\b<w'.heap.size)) r u:=by
 obtain⟨n,hn⟩:=Pk C h;exact((Ph hC n).1 f args r hn).2 w ok0 vs T9 hG hv
end Go.Abs
