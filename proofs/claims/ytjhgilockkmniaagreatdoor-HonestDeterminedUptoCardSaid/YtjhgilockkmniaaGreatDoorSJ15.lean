/- A part of the proof. -/
import Derived.Test.YtjhgilockkmniaaGreatDoorSJ14
set_option linter.all false
open Nat renaming le_max_right->zf0z,le_max_left->zf1z,le_refl->zf5z
open Option renaming map_eq_some_iff->zf2z
open List renaming getD->zf3z,set->zf4z
namespace Go.Abs
open Go.RowKit (Below)
structure Le (O O':Orc):Prop where
 pure:∀f args r,O.pure f args=some r->O'.pure f args=some r
 raw:∀f args h r,O.raw f args h=some r->O'.raw f args h=some r
 loop:∀(step step':St->Option (Ex×St)) (s:St) (x:Ex×St),(∀s x,step s=some x->step' s=some x)->O.loop step s=some x->O'.loop step' s=some x
theorem Le.trans {A B C:Orc} (h:Le A B) (k:Le B C):Le A C :=
 ⟨λf a r e=>k.pure f a r (h.pure f a r e),λf a g r e=>k.raw f a g r (h.raw f a g r e),λs s' t x hs e=>k.loop s' s' t x (λ_ _ h=>h) (h.loop s s' t x hs e)⟩
section
variable {O O':Orc} {c:Ctx}
theorem OE (hO:Le O O') {f:FuncId} {args:C6} {h:AH} {x:AV×AH} (he:DO O c f args h=some x):DO O' c f args h=some x:=by
 unfold DO at he ⊢;split
 .rename_i hr;rw[if_pos hr]at he;obtain⟨y,h1⟩:=Tv he;rw[h1]at he;rw[hO.raw _ _ _ _ h1];exact he
 .rename_i hr;rw[if_neg hr]at he;cases has:j7 h true args with
  |none=>rw[has]at he;cases he
  |some aas =>
   rw[has]at he;dsimp only at he ⊢;cases hp:O.pure f aas with
   |none=>rw[hp]at he;cases he
   |some r =>
    rw[hp]at he;rw[hO.pure _ _ _ hp];exact he
theorem EK (hO:Le O O') {r:ROp} {fr:Fr} {h:AH} {x:AV×AH} (he:A3 O c r fr h=some x):A3 O' c r fr h=some x:=by
 cases r
 case call f aas=>exact OE hO he
 case callv y aas =>
  simp only[A3]at he ⊢;split at he
  .split at he
   .cases he
   .rename_i hc;rw[if_neg hc];exact OE hO he
  .cases he
 case len b x=>cases b<;>exact he
 all_goals exact he
theorem Gc (hO:Le O O'):∀{C5:List RO} {fr:Fr} {h:AH} {x:Fr×AH},F5 O c C5 fr h=some x->F5 O' c C5 fr h=some x
 | [],_,_,_,he=>he
 |o::C5,fr,h,x,he=>by
  simp only[F5]at he ⊢;cases hw:N3 fr o.guard with
  |none=>rw[hw]at he;cases he
  |some b =>
   rw[hw]at he;cases b with
   |false=>exact Gc hO he
   |true =>
    dsimp only at he ⊢;cases V5:A3 O c o.op fr h with
    |none=>rw[V5]at he;cases he
    |some y =>
     rw[V5]at he;rw[EK hO V5];exact Gc hO he
theorem Fm (hO:Le O O'):∀{C5:List RO} {fr:Fr} {h:AH} {x:List Foot×Fr×AH},J1 O c C5 fr h=some x->J1 O' c C5 fr h=some x
 | [],_,_,_,he=>he
 |o::C5,fr,h,x,he=>by
  simp only[J1]at he ⊢;cases hw:N3 fr o.guard with
  |none=>rw[hw]at he;cases he
  |some b =>
   rw[hw]at he;cases b with
   |false =>
    dsimp only at he ⊢;rw[zf2z]at he ⊢;obtain⟨p,hp,e⟩:=he;exact⟨p,Fm hO hp,e⟩
   |true =>
    dsimp only at he ⊢;cases V5:A3 O c o.op fr h with
    |none=>rw[V5]at he;cases he
    |some y =>
     rw[V5]at he;rw[EK hO V5];dsimp only at he ⊢;rw[zf2z]at he ⊢;obtain⟨p,hp,e⟩:=he;exact⟨p,Fm hO hp,e⟩
theorem CL (hO:Le O O'):∀(rc:RCode) (s:St) (x:Ex×St),A4 O c rc s=some x->A4 O' c rc s=some x:=by
 intro rc
 induction rc with
 |skip=>exact λs x he=>he
 |region d C5 =>
  intro s x he;simp only[A4]at he ⊢;cases hs:F5 O c C5 s.1 s.2 with
  |none=>rw[hs]at he;cases he
  |some y=>rw[hs]at he;rw[Gc hO hs];exact he
 |regd bs C5 =>
  intro s x he;simp only[A4]at he ⊢;cases hs:J1 O c C5 s.1 (s.2.holes (VY C5))with
  |none=>rw[hs]at he;cases he
  |some y=>rw[hs]at he;rw[Fm hO hs];exact he
 |seq a b iha ihb =>
  intro s x he;simp only[A4]at he ⊢;cases hs:A4 O c a s with
  |none=>rw[hs]at he;cases he
  |some y =>
   rw[hs]at he;rw[iha s y hs];obtain⟨e,s'⟩:=y;cases e with
   |normal=>exact ihb _ _ he
   |exit id=>exact he
   |ret=>exact he
 |cond q a b iha ihb =>
  intro s x he;simp only[A4]at he ⊢;split at he
  .exact iha _ _ he
  .exact ihb _ _ he
  .cases he
 |block id a ih =>
  intro s x he;simp only[A4]at he ⊢;cases hs:A4 O c a s with
  |none=>rw[hs]at he;cases he
  |some y=>rw[hs]at he;rw[ih s y hs];exact he
 |loop a ih=>intro s x he;exact hO.loop _ _ _ _ ih he
 |exit id=>exact λs x he=>he
 |ret=>exact λs x he=>he
 |bad=>exact λs x he=>he
theorem MU {C:Cfg} (hO:Le O O') {f:FuncId} {args:C6} {h:AH} {x:AV×AH} (he:Gl C O f args h=some x):Gl C O' f args h=some x:=by
 unfold Gl at he ⊢;split at he
 .unfold GD at he ⊢;rename_i rf _;cases hs:A4 O (C.ctx f) rf.body (BF rf args,h)with
  |none=>rw[hs]at he;cases he
  |some y=>rw[hs]at he;rw[CL hO _ _ _ hs];exact he
 .rename_i hc;split at he
  .rename_i s hs;obtain⟨l,h1,h2⟩:=s.fin O args h x he;exact h2 O' λp hp=>hO.pure _ _ _ (h1 p hp)
  .cases he
theorem Zo {C:Cfg} (hO:Le O O') {f:FuncId} {args:C6} {h:AH} {x:AV×AH} (he:PI C O f args h=some x):PI C O' f args h=some x:=by
 unfold PI at he ⊢;cases hr:Gl C O f args h with
 |none=>rw[hr]at he;unfold Ux at he;split at he<;>cases he
 |some y=>rw[hr]at he;rw[MU hO hr];exact he
theorem Wr {C:Cfg} (hO:Le O O') {f:FuncId} {args:C6} {x:AV} (he:Ey C O f args=some x):Ey C O' f args=some x:=by
 unfold Ey at he ⊢;split at he
 .exact he
 .cases hs:Gl C O f args AH.empty with
  |none=>rw[hs]at he;cases he
  |some y=>rw[hs]at he;rw[MU hO hs];exact he
end
theorem EN {step step':St->Option (Ex×St)} (hs:∀s x,step s=some x->step' s=some x):∀{n m:Nat},n<=m->∀{s:St} {x:Ex×St},GO step n s=some x->GO step' m s=some x
 |0,_,_,s,x,he=>by simp[GO]at he
 |n+1,0,h,s,x,he=>by omega
 |n+1,m+1,h,s,x,he=>by
  simp only[GO]at he ⊢;cases h1:step s with
  |none=>rw[h1]at he;cases he
  |some y =>
   rw[h1]at he;rw[hs s y h1];obtain⟨e,s'⟩:=y;cases e with
   |normal=>exact EN hs (by omega) he
   |exit id=>exact he
   |ret=>exact he
variable (C:Cfg)
theorem Oo:∀n,Le (orc C n) (orc C (n+1))
 |0=>⟨λf a r h=>(nomatch h),λf a g r h=>(nomatch h),λs s' t x _ h=>(nomatch h)⟩
 |n+1=>⟨λf a r h=>Wr (Oo n) h,λf a g r h=>Zo (Oo n) h,λs s' t x hs h=>EN hs (by omega) h⟩
theorem DZ:∀{n m:Nat},n<=m->Le (orc C n) (orc C m)
 |n,0,h=>by
  have:n=0:=by omega
  subst this;exact⟨λ_ _ _ h=>h,λ_ _ _ _ h=>h,λs s' t x _ h=>(nomatch h)⟩
 |n,m+1,h=>by
  by_cases hn:n=m+1
  .subst hn;exact⟨λ_ _ _ h=>h,λ_ _ _ _ h=>h,λs s' t x hs h=>EN hs (zf5z _) h⟩
  .exact(DZ (by omega)).trans (Oo C m)
open Classical in
noncomputable def pc (f:FuncId) (args:List AV):Option AV:=if h:∃n r,(orc C n).pure f args=some r then some h.choose_spec.choose else none
open Classical in
noncomputable def rc (f:FuncId) (args:List AV) (h:AH):Option (AV×AH):=if h:∃n r,(orc C n).raw f args h=some r then some h.choose_spec.choose else none
open Classical in
noncomputable def lp (step:St->Option (Ex×St)) (s:St):Option (Ex×St):=if h:∃n x,GO step n s=some x then some h.choose_spec.choose else none
noncomputable def N5:Orc:=⟨pc C,rc C,lp⟩
theorem SO {f:FuncId} {args:C6} {r:AV} (h:pc C f args=some r):∃n,(orc C n).pure f args=some r:=by
 unfold pc at h;split at h
 .rename_i hx;cases h;exact⟨hx.choose,hx.choose_spec.choose_spec⟩
 .cases h
theorem Wf {n:Nat} {f:FuncId} {args:C6} {r:AV} (h:(orc C n).pure f args=some r):pc C f args=some r:=by
 have hx:∃n r,(orc C n).pure f args=some r:=⟨n,r,h⟩;unfold pc;rw[dif_pos hx];have h1:=(DZ C (zf1z n hx.choose)).pure f args r h;have h2:=(DZ C (zf0z n hx.choose)).pure f args _ hx.choose_spec.choose_spec;rw[h1]at h2;exact h2.symm
theorem kQ {f:FuncId} {args:C6} {h:AH} {r:AV×AH} (he:rc C f args h=some r):∃n,(orc C n).raw f args h=some r:=by
 unfold rc at he;split at he
 .rename_i hx;cases he;exact⟨hx.choose,hx.choose_spec.choose_spec⟩
 .cases he
theorem kB {n:Nat} {f:FuncId} {args:C6} {h:AH} {r:AV×AH} (he:(orc C n).raw f args h=some r):rc C f args h=some r:=by
 have hx:∃n r,(orc C n).raw f args h=some r:=⟨n,r,he⟩;unfold rc;rw[dif_pos hx];have h1:=(DZ C (zf1z n hx.choose)).raw f args h r he;have h2:=(DZ C (zf0z n hx.choose)).raw f args h _ hx.choose_spec.choose_spec;rw[h1]at h2;exact h2.symm
theorem SB {step:St->Option (Ex×St)} {s:St} {x:Ex×St} (h:lp step s=some x):∃n,GO step n s=some x:=by
 unfold lp at h;split at h
 .rename_i hx;cases h;exact⟨hx.choose,hx.choose_spec.choose_spec⟩
 .cases h
theorem Nk {step:St->Option (Ex×St)} {n:Nat} {s:St} {x:Ex×St} (h:GO step n s=some x):lp step s=some x:=by
 have hx:∃n x,GO step n s=some x:=⟨n,x,h⟩;unfold lp;rw[dif_pos hx];have h1:=EN (λ_ _ h=>h) (zf1z n hx.choose) h;have h2:=EN (λ_ _ h=>h) (zf0z n hx.choose) hx.choose_spec.choose_spec;rw[h1]at h2;exact h2.symm
theorem pe {step:St->Option (Ex×St)} {s s':St} {x:Ex×St} (h:step s=some (.normal,s')) (k:lp step s'=some x):lp step s=some x:=by
 obtain⟨n,hn⟩:=SB k;exact Nk (n:=n+1) (by simp only[GO,h];exact hn)
theorem gE {step:St->Option (Ex×St)} {s s':St} {id:Nat} (h:step s=some (.exit id,s')):lp step s=some (.exit id,s'):=Nk (n:=1) (by simp only[GO,h])
theorem jw {step:St->Option (Ex×St)} {s s':St} (h:step s=some (.ret,s')):lp step s=some (.ret,s'):=Nk (n:=1) (by simp only[GO,h])
theorem ON {c:Ctx} {r:ROp} {fr:Fr} {h:AH} {x:AV×AH} (he:A3 (N5 C) c r fr h=some x):∃n,A3 (orc C n) c r fr h=some x:=by
 have hcall:∀f args,DO (N5 C) c f args h=some x->∃n,DO (orc C n) c f args h=some x:=by
  intro f args he;unfold DO at he ⊢;split at he
  .rename_i hr;obtain⟨y,h1⟩:=Tv he;rw[h1]at he;obtain⟨n,hn⟩:=kQ C h1;exact⟨n,by rw[if_pos hr,hn];exact he⟩
  .rename_i hr;cases has:j7 h true args with
   |none=>rw[has]at he;cases he
   |some aas =>
    rw[has]at he;dsimp only at he ⊢;cases hp:(N5 C).pure f aas with
    |none=>rw[hp]at he;cases he
    |some r =>
     rw[hp]at he;obtain⟨n,hn⟩:=SO C hp;exact⟨n,by rw[if_neg hr,hn];exact he⟩
 cases r
 case call f aas=>exact hcall _ _ he
 case callv y aas =>
  simp only[A3]at he ⊢;split at he
  .split at he
   .cases he
   .rename_i hc;obtain⟨n,hn⟩:=hcall _ _ he;exact⟨n,by rw[if_neg hc];exact hn⟩
  .cases he
 case len b x=>cases b<;>exact⟨0,he⟩
 all_goals exact⟨0,he⟩
theorem Jl {c:Ctx}:∀{C5:List RO} {fr:Fr} {h:AH} {x:Fr×AH},F5 (N5 C) c C5 fr h=some x->∃n,F5 (orc C n) c C5 fr h=some x
 | [],_,_,_,he=>⟨0,he⟩
 |o::C5,fr,h,x,he=>by
  simp only[F5]at he ⊢;cases hw:N3 fr o.guard with
  |none=>rw[hw]at he;cases he
  |some b =>
   rw[hw]at he;cases b with
   |false=>exact Jl he
   |true =>
    dsimp only at he ⊢;cases V5:A3 (N5 C) c o.op fr h with
    |none=>rw[V5]at he;cases he
    |some y =>
     rw[V5]at he;obtain⟨n,hn⟩:=ON C V5;obtain⟨m,hm⟩:=Jl he;refine⟨max n m,?_⟩;rw[EK (DZ C (zf1z n m)) hn];exact Gc (DZ C (zf0z n m)) hm
theorem Ir {c:Ctx}:∀{C5:List RO} {fr:Fr} {h:AH} {x:List Foot×Fr×AH},J1 (N5 C) c C5 fr h=some x->∃n,J1 (orc C n) c C5 fr h=some x
 | [],_,_,_,he=>⟨0,he⟩
 |o::C5,fr,h,x,he=>by
  simp only[J1]at he ⊢;cases hw:N3 fr o.guard with
  |none=>rw[hw]at he;cases he
  |some b =>
   rw[hw]at he;cases b with
   |false =>
    dsimp only at he ⊢;rw[zf2z]at he;obtain⟨p,hp,e⟩:=he;obtain⟨n,hn⟩:=Ir hp;exact⟨n,by rw[hn,←e];rfl⟩
   |true =>
    dsimp only at he ⊢;cases V5:A3 (N5 C) c o.op fr h with
    |none=>rw[V5]at he;cases he
    |some y =>
     rw[V5]at he;dsimp only at he;rw[zf2z]at he;obtain⟨p,hp,e⟩:=he;obtain⟨n,hn⟩:=ON C V5;obtain⟨m,hm⟩:=Ir hp;refine⟨max n m,?_⟩;rw[EK (DZ C (zf1z n m)) hn];dsimp only;rw[Fm (DZ C (zf0z n m)) hm,←e];rfl
theorem Rg {c:Ctx}:∀(rcode:RCode) (s:St) (x:Ex×St),A4 (N5 C) c rcode s=some x->∃n,A4 (orc C n) c rcode s=some x:=by
 intro rcode
 induction rcode with
 |skip=>exact λs x he=>⟨0,he⟩
 |region d C5 =>
  intro s x he;simp only[A4]at he ⊢;cases hs:F5 (N5 C) c C5 s.1 s.2 with
  |none=>rw[hs]at he;cases he
  |some y =>
   rw[hs]at he;obtain⟨n,hn⟩:=Jl C hs;exact⟨n,by rw[hn];exact he⟩
 |regd bs C5 =>
  intro s x he;simp only[A4]at he ⊢;cases hs:J1 (N5 C) c C5 s.1 (s.2.holes (VY C5))with
  |none=>rw[hs]at he;cases he
  |some y =>
   rw[hs]at he;obtain⟨n,hn⟩:=Ir C hs;exact⟨n,by rw[hn];exact he⟩
 |seq a b iha ihb =>
  intro s x he;simp only[A4]at he ⊢;cases hs:A4 (N5 C) c a s with
  |none=>rw[hs]at he;cases he
  |some y =>
   rw[hs]at he;obtain⟨n,hn⟩:=iha s y hs;obtain⟨e,s'⟩:=y;cases e with
   |normal =>
    obtain⟨m,hm⟩:=ihb _ _ he;refine⟨max n m,?_⟩;rw[CL (DZ C (zf1z n m)) _ _ _ hn];exact CL (DZ C (zf0z n m)) _ _ _ hm
   |exit id=>exact⟨n,by rw[hn];exact he⟩
   |ret=>exact⟨n,by rw[hn];exact he⟩
 |cond q a b iha ihb =>
  intro s x he;simp only[A4]at he ⊢;split at he
  .exact iha _ _ he
  .exact ihb _ _ he
  .cases he
 |block id a ih =>
  intro s x he;simp only[A4]at he ⊢;cases hs:A4 (N5 C) c a s with
  |none=>rw[hs]at he;cases he
  |some y =>
   rw[hs]at he;obtain⟨n,hn⟩:=ih s y hs;exact⟨n,by rw[hn];exact he⟩
 |loop a ih =>
  intro s x he;simp only[A4]at he ⊢;obtain⟨m,hm⟩:=SB he;have key:∃n,GO (A4 (orc C n) c a) m s=some x:=by
   clear he
   induction m generalizing s with
   |zero=>simp[GO]at hm
   |succ m ihm =>
    simp only[GO]at hm ⊢;cases h1:A4 (N5 C) c a s with
    |none=>rw[h1]at hm;cases hm
    |some y =>
     rw[h1]at hm;obtain⟨n,hn⟩:=ih s y h1;obtain⟨e,s'⟩:=y;cases e with
     |normal =>
      obtain⟨k,hk⟩:=ihm s' hm;refine⟨max n k,?_⟩;rw[CL (DZ C (zf1z n k)) _ _ _ hn];exact EN (CL (DZ C (zf0z n k)) a) (zf5z _) hk
     |exit id=>exact⟨n,by rw[hn];exact hm⟩
     |ret=>exact⟨n,by rw[hn];exact hm⟩
  obtain⟨n,hn⟩:=key;refine⟨max n m+1,?_⟩;show GO _ (max n m+1) s=some x;exact EN (CL (DZ C (by omega)) a) (by omega) hn
 |exit id=>exact λs x he=>⟨0,he⟩
 |ret=>exact λs x he=>⟨0,he⟩
 |bad=>exact λs x he=>⟨0,he⟩
theorem Ul {f:FuncId} {args:C6} {h:AH} {x:AV×AH} (he:Gl C (N5 C) f args h=some x):∃n,Gl C (orc C n) f args h=some x:=by
 unfold Gl at he ⊢;split at he
 .unfold GD at he ⊢;rename_i rf _;cases hs:A4 (N5 C) (C.ctx f) rf.body (BF rf args,h)with
  |none=>rw[hs]at he;cases he
  |some y =>
   rw[hs]at he;obtain⟨n,hn⟩:=Rg C _ _ _ hs;exact⟨n,by rw[hn];exact he⟩
 .split at he
  .rename_i s hs;obtain⟨l,h1,h2⟩:=s.fin _ args h x he;have key:∀l:List (FuncId×List AV×AV),(∀p∈l,(N5 C).pure p.1 p.2.1=some p.2.2)->∃n,∀p∈l,(orc C n).pure p.1 p.2.1=some p.2.2:=by
    intro l
    induction l with
    |nil=>exact λ_=>⟨0,λp hp=>by simp at hp⟩
    |cons a l ih =>
     intro hl;obtain⟨n,hn⟩:=ih λp hp=>hl p (List.mem_cons_of_mem _ hp);obtain⟨m,hm⟩:=SO C (hl a (by simp));refine⟨max n m,λp hp=>?_⟩;rcases List.mem_cons.1 hp with rfl|hp
     .exact(DZ C (zf0z n m)).pure _ _ _ hm
     .exact(DZ C (zf1z n m)).pure _ _ _ (hn p hp)
   obtain⟨n,hn⟩:=key l h1;exact⟨n,h2 _ hn⟩
  .cases he
theorem iu {f:FuncId} {args:C6} {h:AH} {x:AV×AH} (he:Gl C (N5 C) f args h=some x):rc C f args h=some (hZ (C.ctx f).rst x):=by
 obtain⟨n,hn⟩:=Ul C he;refine kB C (n:=n+1) ?_;show PI C (orc C n) f args h=_;unfold PI;rw[hn,MY]
theorem Xr {f:FuncId} {args:C6} {x:AV} (he:Ey C (N5 C) f args=some x):pc C f args=some x:=by
 unfold Ey at he;split at he
 .rename_i s hs;refine Wf C (n:=1) ?_;show Ey C _ f args=some x;unfold Ey;simp only[hs];exact he
 .rename_i hs;cases hr:Gl C (N5 C) f args AH.empty with
  |none=>rw[hr]at he;cases he
  |some y =>
   rw[hr]at he;obtain⟨n,hn⟩:=Ul C hr;refine Wf C (n:=n+1) ?_;show Ey C _ f args=some x;unfold Ey;simp only[hs,hn];exact he
theorem Uc {P:Program} {C:Cfg} (hC:CfgS P C) {f:FuncId} {args:C6} {r:AV} (h:pc C f args=some r) (w:World) (ok0:Nat->Nat->Prop) (vs:Array Value) (AW:∀b o,ok0 b o->b<w.heap.size) (hG:Cc w ok0) (hv:W5 w ok0 args vs.toList) :
  Calls P f vs w λe w'=>∃u,e=.returned u/\Bl w.heap.size w w'/\PV w' (λb o=>ok0 b o\/(w.heap.size<=b/\b<w'.heap.size)) r u:=by
 obtain⟨n,hn⟩:=SO C h;exact((Qp hC n).1 f args r hn).2 w ok0 vs AW hG hv
end Go.Abs
namespace Go.Abs
def A2 (fr:Fr) (n:Nat):AV:=fr.getD n B3
@[simp] theorem uO (fr:Fr) (n:Nat):get fr (.t n)=A2 fr n:=_root_.id rfl
@[simp] theorem uN (fr:Fr) (v:AV):get fr (.c v)=v:=_root_.id rfl
@[simp] theorem Uj (fr:Fr) (d:Nat) (v:AV):put fr (some d) v=zf4z fr d v:=_root_.id rfl
@[simp] theorem Ui (fr:Fr) (v:AV):put fr none v=fr:=_root_.id rfl
theorem C8 (fr:Fr) {i j:Nat} (v:AV) (h:i≠j):A2 (zf4z fr i v) j=A2 fr j:=by
 simp[A2,zf3z,List.getElem?_set_ne h]
theorem D5 (fr:Fr) {i j:Nat} (v:AV) (e:i=j) (h:i<fr.length):A2 (zf4z fr i v) j=v:=by
 subst e;simp[A2,zf3z,List.getElem?_set_self h]
def eV (r:Option (AV×AH)) (O:Orc) (c:Ctx) (d:Option Nat) (C5:List RO) (fr:Fr):Option (Fr×AH):=match r with|some (v,h)=>F5 O c C5 (put fr d v) h|none=>none
@[congr] theorem lZ {r r':Option (AV×AH)} {O:Orc} {c:Ctx} {d:Option Nat} {C5:List RO} {fr:Fr} (h:r=r'):eV r O c d C5 fr=eV r' O c d C5 fr:=by rw[h]
@[simp] theorem pk (v:AV) (h:AH) (O:Orc) (c:Ctx) (d:Option Nat) (C5:List RO) (fr:Fr):eV (some (v,h)) O c d C5 fr=F5 O c C5 (put fr d v) h:=_root_.id rfl
def eS (b:AV) (w:Bool) (O:Orc) (c:Ctx) (d:Option Nat) (op:ROp) (C5:List RO) (fr:Fr) (h:AH):Option (Fr×AH) :=
 match b with
 | .bool b=>if b=w then eV (A3 O c op fr h) O c d C5 fr else F5 O c C5 (put fr d B3) h
 | .tup _=>F5 O c C5 (put fr d B3) h
 |_=>none
@[congr] theorem lO {b b':AV} {w:Bool} {O:Orc} {c:Ctx} {d:Option Nat} {op:ROp} {C5:List RO} {fr:Fr} {h:AH} (e:b=b'):eS b w O c d op C5 fr h=eS b' w O c d op C5 fr h:=by rw[e]
section
variable (O:Orc) (c:Ctx) (d:Option Nat) (op:ROp) (C5:List RO) (fr:Fr) (h:AH)
@[simp] theorem sv:eS (.bool true) true O c d op C5 fr h=eV (A3 O c op fr h) O c d C5 fr:=_root_.id rfl
@[simp] theorem sn:eS (.bool false) false O c d op C5 fr h=eV (A3 O c op fr h) O c d C5 fr:=_root_.id rfl
@[simp] theorem su:eS (.bool true) false O c d op C5 fr h=F5 O c C5 (put fr d B3) h:=_root_.id rfl
@[simp] theorem sq:eS (.bool false) true O c d op C5 fr h=F5 O c C5 (put fr d B3) h:=_root_.id rfl
@[simp] theorem sw (l:C6) (w:Bool):eS (.tup l) w O c d op C5 fr h=F5 O c C5 (put fr d B3) h:=_root_.id rfl
end
@[simp] theorem lz:B3=.tup []:=_root_.id rfl
def jH (b:AV) (O:Orc) (c:Ctx) (x y:RCode) (fr:Fr) (h:AH):Option (Ex×St):=match b with | .bool true=>A4 O c x (fr,h) | .bool false=>A4 O c y (fr,h)|_=>none
@[congr] theorem lC {b b':AV} {O:Orc} {c:Ctx} {x y:RCode} {fr:Fr} {h:AH} (e:b=b'):jH b O c x y fr h=jH b' O c x y fr h:=by rw[e]
@[simp] theorem uM (O:Orc) (c:Ctx) (x y:RCode) (fr:Fr) (h:AH):jH (.bool true) O c x y fr h=A4 O c x (fr,h):=_root_.id rfl
@[simp] theorem uL (O:Orc) (c:Ctx) (x y:RCode) (fr:Fr) (h:AH):jH (.bool false) O c x y fr h=A4 O c y (fr,h):=_root_.id rfl
def iw (r:Option (Ex×St)) (O:Orc) (c:Ctx) (y:RCode):Option (Ex×St):=match r with|some (.normal,fr,h)=>A4 O c y (fr,h)|r=>r
@[congr] theorem lm {r r':Option (Ex×St)} {O:Orc} {c:Ctx} {y:RCode} (h:r=r'):iw r O c y=iw r' O c y:=by rw[h]
@[simp] theorem uf (fr:Fr) (h:AH) (O:Orc) (c:Ctx) (y:RCode):iw (some (.normal,fr,h)) O c y=A4 O c y (fr,h):=_root_.id rfl
@[simp] theorem ug (s:St) (O:Orc) (c:Ctx) (y:RCode):iw (some (.ret,s)) O c y=some (.ret,s):=_root_.id rfl
@[simp] theorem ue (i:Nat) (s:St) (O:Orc) (c:Ctx) (y:RCode):iw (some (.exit i,s)) O c y=some (.exit i,s):=_root_.id rfl
def gA (id:Nat) (r:Option (Ex×St)):Option (Ex×St):=match r with|some (.exit i,s)=>if i=id then some (.normal,s)else some (.exit i,s)|r=>r
@[simp] theorem uR (id:Nat) (s:St):gA id (some (.normal,s))=some (.normal,s):=_root_.id rfl
@[simp] theorem uS (id:Nat) (s:St):gA id (some (.ret,s))=some (.ret,s):=_root_.id rfl
@[simp] theorem uQ (id:Nat) (s:St):gA id (some (.exit id,s))=some (.normal,s):=by simp[gA]
def gB {β:Type} (r:Option (Ex×St)) (k:Fr->AH->Option β):Option β:=match r with|some (.normal,fr,h)=>k fr h|some (.ret,fr,h)=>k fr h|_=>none
@[simp] theorem tC {β:Type} (fr:Fr) (h:AH) (k:Fr->AH->Option β):gB (some (.normal,fr,h)) k=k fr h:=_root_.id rfl
@[simp] theorem tD {β:Type} (fr:Fr) (h:AH) (k:Fr->AH->Option β):gB (some (.ret,fr,h)) k=k fr h:=_root_.id rfl
section
variable {O:Orc} {c:Ctx}
@[simp] theorem ru (fr:Fr) (h:AH):F5 O c [] fr h=some (fr,h):=_root_.id rfl
@[simp] theorem qD (d:Option Nat) (op:ROp) (C5:List RO) (fr:Fr) (h:AH):F5 O c (⟨d,op,none⟩::C5) fr h=eV (A3 O c op fr h) O c d C5 fr:=by
 simp only[F5,N3,eV];cases A3 O c op fr h with
 |none=>rfl
 |some x=>rfl
@[simp] theorem lh (d:Option Nat) (op:ROp) (s:Nat) (w:Bool) (C5:List RO) (fr:Fr) (h:AH) :
  F5 O c (⟨d,op,some (s,w)⟩::C5) fr h=eS (A2 fr s) w O c d op C5 fr h:=by
 simp only[F5,N3,A2,eS,eV];cases fr.getD s B3 with
 |bool b =>
  dsimp only;cases b<;>cases w<;>simp<;>cases A3 O c op fr h<;>rfl
 |_=>rfl
def ox (r:Option (Fr×AH)):Option (Ex×St):=match r with|some s=>some (.normal,s)|none=>none
@[simp] theorem uW (s:St):ox (some s)=some (.normal,s):=_root_.id rfl
@[simp] theorem lI (s:St):A4 O c .skip s=some (.normal,s):=_root_.id rfl
@[simp] theorem iY (d:Bool) (ops:List RO) (fr:Fr) (h:AH):A4 O c (.region d ops) (fr,h)=ox (F5 O c ops fr h):=_root_.id rfl
@[simp] theorem mz (a b:RCode) (s:St):A4 O c (.seq a b) s=iw (A4 O c a s) O c b:=by
 simp only[A4,iw];split<;>simp_all
@[simp] theorem lG (q:Opd) (a b:RCode) (fr:Fr) (h:AH):A4 O c (.cond q a b) (fr,h)=jH (get fr q) O c a b fr h:=by
 simp only[A4,jH];cases get fr q with
 |bool b=>cases b<;>rfl
 |_=>rfl
@[simp] theorem jV (id:Nat) (a:RCode) (s:St):A4 O c (.block id a) s=gA id (A4 O c a s):=by
 simp only[A4,gA];split<;>simp_all
@[simp] theorem lH (id:Nat) (s:St):A4 O c (.exit id) s=some (.exit id,s):=_root_.id rfl
@[simp] theorem mw (s:St):A4 O c .bad s=none:=_root_.id rfl
@[simp] theorem my (s:St):A4 O c .ret s=some (.ret,s):=_root_.id rfl
theorem G0 {C:Cfg} (a:RCode) (s:St):A4 (N5 C) c (.loop a) s=lp (A4 (N5 C) c a) s:=_root_.id rfl
end
def ou (ys:Option (List AV)) (k:List AV->Option AV) (tm:Bool) (h:AH):Option (AV×AH) :=
 match ys with|none=>none|some ys=>match k ys with|some r=>if r.scalar||tm then some (r,h)else none|none=>none
theorem Xm {C:Cfg} {c:Ctx} {f:FuncId} (hr:c.raw f=false) (xs:List Opd) (fr:Fr) (h:AH) :
  A3 (N5 C) c (.call f xs) fr h=ou (j7 h true (xs.map (get fr))) (λys=>pc C f ys) ((xs.map (get fr)).all (tame h)) h:=by
 simp only[A3,DO,hr,ou];rw[if_neg (by simp)];cases j7 h true (xs.map (get fr))with
 |none=>rfl
 |some ys =>
  show (match pc C f ys with|none=>none|some r=>_)=_
  cases hp:pc C f ys with
  |none=>simp only[hp]
  |some r=>simp only[hp]
theorem UO {C:Cfg} {c:Ctx} {f:FuncId} (hr:c.raw f=true) (xs:List Opd) (fr:Fr) (h:AH) :
  A3 (N5 C) c (.call f xs) fr h=Yw (c.noB f) h (rc C f (xs.map (get fr)) h):=by
 simp only[A3,DO,hr];rfl
@[simp] theorem uV (h:AH) (r:Option (AV×AH)):Yw false h r=r:=_root_.id rfl
@[simp] theorem ow (h:AH) (v:AV) (f:List Fam):Yw true h (some (v,⟨h.boxes,f⟩))=some (v,⟨h.boxes,f⟩):=by simp[Yw,LU]
def fin (rs:List RRes) (fr:Fr) (h:AH):Option AV:=(Gm fr h rs).bind λvs=>Cg h (H6 vs)
theorem Ix {rf:RFunc} {args:C6} (h:args.length<=rf.ntmps):(BF rf args).length=rf.ntmps/\∀i,A2 (BF rf args) i=args.getD i B3:=by
 refine⟨by simp[BF];omega,λi=>?_⟩;simp only[A2,BF,zf3z];by_cases hi:i<args.length
 .rw[List.getElem?_append_left hi]
 .rw[List.getElem?_append_right (by omega),List.getElem?_eq_none (l:=args) (by omega),List.getElem?_replicate];split<;>rfl
theorem dP {C:Cfg} {f:FuncId} {rf:RFunc} {args:C6} {r:AV} (hs:C.spec f=none) (hc:C.code f=some rf) (hl:args.length<=rf.ntmps)
  (H:∀fr:Fr,fr.length=rf.ntmps->(∀i,A2 fr i=args.getD i B3)->gB (A4 (N5 C) (C.ctx f) rf.body (fr,⟨[],[]⟩)) (fin rf.results)=some r):pc C f args=some r:=by
 have:=H (BF rf args) (Ix hl).1 (Ix hl).2;apply Xr;unfold Ey Gl;simp only[hs,hc];unfold GD gB fin at *
 cases he:A4 (N5 C) (C.ctx f) rf.body (BF rf args,AH.empty)with
 |none=>rw[show (⟨[],[]⟩:AH)=AH.empty from rfl,he]at this;cases this
 |some x =>
  rw[show (⟨[],[]⟩:AH)=AH.empty from rfl,he]at this;obtain⟨e,fr,h⟩:=x;cases e with
  |exit i=>cases this
  |normal=>cases hr:Gm fr h rf.results with|none=>simp[hr]at this|some vs=>simpa[hr]using this
  |ret=>cases hr:Gm fr h rf.results with|none=>simp[hr]at this|some vs=>simpa[hr]using this
end Go.Abs
