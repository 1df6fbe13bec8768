/- A part of the proof. -/
import Derived.Test.YtnnjamknplefbaaGreatDoorTN10
set_option linter.all false
open Option renaming map_eq_some_iff->zf0z,bind_some->zf3z
open Nat renaming le_max_right->zf1z,le_max_left->zf2z,le_refl->zg1z
open List renaming replicate->zf4z,getD->zf6z,mem_cons->zf7z,map_map->zf8z,set->zf9z,map_id->zg0z
open Bool renaming or_eq_true->zf5z
set_option linter.all false
namespace Go.Abs
open Go.RowKit (Below)
structure Le (O O':Orc):Prop where
 pure:∀f args r,O.pure f args=some r->O'.pure f args=some r
 raw:∀f args h r,O.raw f args h=some r->O'.raw f args h=some r
 loop:∀(step step':St->Option (Ex×St)) (s:St) (x:Ex×St),(∀s x,step s=some x->step' s=some x)->O.loop step s=some x->O'.loop step' s=some x
theorem Le.trans{A B C}(h:Le A B)(k:Le B C):Le A C :=
 ⟨λf a r e=>k.pure f a r (h.pure f a r e),λf a g r e=>k.raw f a g r (h.raw f a g r e),λs s' t x hs e=>k.loop s' s' t x (λ_ _ h=>h) (h.loop s s' t x hs e)⟩
section
variable {O O':Orc} {c:Ctx}
theorem Zc(hO:Le O O'){f args h x}(he:Gu O c f args h=some x):Gu O' c f args h=some x:=by
 unfold Gu at he ⊢;split
 .rename_i hr;rw[if_pos hr]at he;obtain⟨y,h1⟩:=kT he;rw[h1]at he;rw[hO.raw _ _ _ _ h1];exact he
 .rename_i hr;rw[if_neg hr]at he;cases has:AX h true args with
  |none=>rw[has]at he;cases he
  |some aas =>
   rw[has]at he;dsimp only at he ⊢;cases hp:O.pure f aas with
   |none=>rw[hp]at he;cases he
   |some r =>
    rw[hp]at he;rw[hO.pure _ _ _ hp];exact he
theorem Do(hO:Le O O'){r fr h x}(he:A7 O c r fr h=some x):A7 O' c r fr h=some x:=by
 cases r
 case call f aas=>exact Zc hO he
 case callv y aas =>
  simp only[A7]at he ⊢;split at he
  .split at he
   .cases he
   .rename_i hc;rw[if_neg hc];exact Zc hO he
  .cases he
 case len b x=>cases b<;>exact he
 all_goals exact he
theorem Mi(hO:Le O O'):∀{C9:List RO} {fr:Fr} {h:AH} {x:Fr×AH},M8 O c C9 fr h=some x->M8 O' c C9 fr h=some x
 | [],_,_,_,he=>he
 |o::C9,fr,h,x,he=>by
  simp only[M8]at he ⊢;cases hw:O8 fr o.guard with
  |none=>rw[hw]at he;cases he
  |some b =>
   rw[hw]at he;cases b with
   |false=>exact Mi hO he
   |true =>
    dsimp only at he ⊢;cases AT:A7 O c o.op fr h with
    |none=>rw[AT]at he;cases he
    |some y =>
     rw[AT]at he;rw[Do hO AT];exact Mi hO he
theorem Ik(hO:Le O O'):∀{C9:List RO} {fr:Fr} {h:AH} {x:List Foot×Fr×AH},P0 O c C9 fr h=some x->P0 O' c C9 fr h=some x
 | [],_,_,_,he=>he
 |o::C9,fr,h,x,he=>by
  simp only[P0]at he ⊢;cases hw:O8 fr o.guard with
  |none=>rw[hw]at he;cases he
  |some b =>
   rw[hw]at he;cases b with
   |false =>
    dsimp only at he ⊢;rw[zf0z]at he ⊢;obtain⟨p,hp,e⟩:=he;exact⟨p,Ik hO hp,e⟩
   |true =>
    dsimp only at he ⊢;cases AT:A7 O c o.op fr h with
    |none=>rw[AT]at he;cases he
    |some y =>
     rw[AT]at he;rw[Do hO AT];dsimp only at he ⊢;rw[zf0z]at he ⊢;obtain⟨p,hp,e⟩:=he;exact⟨p,Ik hO hp,e⟩
theorem LD(hO:Le O O'):∀{C9:List RO} {fr:Fr} {h:AH} {x:List (Fr×AH)},Z2 O c C9 fr h=some x->Z2 O' c C9 fr h=some x
 | [],_,_,_,he=>he
 |o::C9,fr,h,x,he=>by
  simp only[Z2]at he ⊢;cases hw:O8 fr o.guard with
  |none=>rw[hw]at he;cases he
  |some b =>
   rw[hw]at he;cases b with
   |false =>
    dsimp only at he ⊢;rw[zf0z]at he ⊢;obtain⟨p,hp,e⟩:=he;exact⟨p,LD hO hp,e⟩
   |true =>
    dsimp only at he ⊢;cases AT:A7 O c o.op fr h with
    |none=>rw[AT]at he;cases he
    |some y =>
     rw[AT]at he;rw[Do hO AT];dsimp only at he ⊢;rw[zf0z]at he ⊢;obtain⟨p,hp,e⟩:=he;exact⟨p,LD hO hp,e⟩
theorem Tw(hO:Le O O'){bs C9 fr h fs}(he:Dx O c bs C9 fr h fs=true):Dx O' c bs C9 fr h fs=true:=by
 unfold Dx at he ⊢;cases ht:Z2 O c C9 fr h with
 |none=>rw[ht]at he;cases he
 |some ts=>rw[ht]at he;rw[LD hO ht];exact he
theorem GM(hO:Le O O'):∀(rc:RCode) (s:St) (x:Ex×St),A8 O c rc s=some x->A8 O' c rc s=some x:=by
 intro rc
 induction rc with
 |skip=>exact λs x he=>he
 |region d C9 =>
  intro s x he;simp only[A8]at he ⊢;cases hs:M8 O c C9 s.1 s.2 with
  |none=>rw[hs]at he;cases he
  |some y=>rw[hs]at he;rw[Mi hO hs];exact he
 |regd bs C9 =>
  intro s x he;simp only[A8]at he ⊢;cases hs:P0 O c C9 s.1 (s.2.holes (cN C9))with
  |none=>rw[hs]at he;cases he
  |some y =>
   rw[hs]at he;rw[Ik hO hs];dsimp only at he ⊢;split at he
   .rename_i hp;rw[zf5z]at hp;rw[if_pos (by rw[zf5z];exact hp.imp id (Tw hO))];exact he
   .cases he
 |seq a b iha ihb =>
  intro s x he;simp only[A8]at he ⊢;cases hs:A8 O c a s with
  |none=>rw[hs]at he;cases he
  |some y =>
   rw[hs]at he;rw[iha s y hs];obtain⟨e,s'⟩:=y;cases e with
   |normal=>exact ihb _ _ he
   |exit id=>exact he
   |ret=>exact he
 |cond q a b iha ihb =>
  intro s x he;simp only[A8]at he ⊢;split at he
  .exact iha _ _ he
  .exact ihb _ _ he
  .cases he
 |block id a ih =>
  intro s x he;simp only[A8]at he ⊢;cases hs:A8 O c a s with
  |none=>rw[hs]at he;cases he
  |some y=>rw[hs]at he;rw[ih s y hs];exact he
 |loop a ih=>intro s x he;exact hO.loop _ _ _ _ ih he
 |exit id=>exact λs x he=>he
 |ret=>exact λs x he=>he
 |bad=>exact λs x he=>he
theorem TE{C}(hO:Le O O'){f args h x}(he:IG C O f args h=some x):IG C O' f args h=some x:=by
 unfold IG at he ⊢;split at he
 .unfold Ij at he ⊢;rename_i rf _;cases hs:A8 O (C.ctx f) rf.body (Ec rf args,h)with
  |none=>rw[hs]at he;cases he
  |some y=>rw[hs]at he;rw[GM hO _ _ _ hs];exact he
 .rename_i hc;split at he
  .rename_i s hs;obtain⟨l,h1,h2⟩:=s.fin O args h x he;exact h2 O' λp hp=>hO.pure _ _ _ (h1 p hp)
  .cases he
theorem xL{C}(hO:Le O O'){f args h x}(he:WK C O f args h=some x):WK C O' f args h=some x:=by
 unfold WK at he ⊢;cases hr:IG C O f args h with
 |none=>rw[hr]at he;unfold bA at he;split at he<;>cases he
 |some y=>rw[hr]at he;rw[TE hO hr];exact he
theorem qN{C}(hO:Le O O'){f args x}(he:FN C O f args=some x):FN C O' f args=some x:=by
 unfold FN at he ⊢;split at he
 .exact he
 .cases hs:IG C O f args AH.empty with
  |none=>rw[hs]at he;cases he
  |some y=>rw[hs]at he;rw[TE hO hs];exact he
end
theorem Hy{step step'}(hs:∀s x,step s=some x->step' s=some x):∀{n m:Nat},n<=m->∀{s:St} {x:Ex×St},Lw step n s=some x->Lw step' m s=some x
 |0,_,_,s,x,he=>by simp[Lw]at he
 |n+1,0,h,s,x,he=>by omega
 |n+1,m+1,h,s,x,he=>by
  simp only[Lw]at he ⊢;cases h1:step s with
  |none=>rw[h1]at he;cases he
  |some y =>
   rw[h1]at he;rw[hs s y h1];obtain⟨e,s'⟩:=y;cases e with
   |normal=>exact Hy hs a_ he
   |exit id=>exact he
   |ret=>exact he
variable (C:Cfg)
theorem aT:∀n,Le (orc C n) (orc C (n+1))
 |0=>⟨λf a r h=>(nomatch h),λf a g r h=>(nomatch h),λs s' t x _ h=>(nomatch h)⟩
 |n+1=>⟨λf a r h=>qN (aT n) h,λf a g r h=>xL (aT n) h,λs s' t x hs h=>Hy hs a_ h⟩
theorem Er:∀{n m:Nat},n<=m->Le (orc C n) (orc C m)
 |n,0,h=>by
  have:n=0:=by omega
  subst this;exact⟨λ_ _ _ h=>h,λ_ _ _ _ h=>h,λs s' t x _ h=>(nomatch h)⟩
 |n,m+1,h=>by
  by_cases hn:n=m+1
  .subst hn;exact⟨λ_ _ _ h=>h,λ_ _ _ _ h=>h,λs s' t x hs h=>Hy hs (zg1z _) h⟩
  .exact(Er a_).trans (aT C m)
open Classical in
noncomputable def pc(f:FuncId)(args:List AV):Option AV:=if h:∃n r,(orc C n).pure f args=some r then some h.choose_spec.choose else none
open Classical in
noncomputable def rc(f:FuncId)(args:List AV)(h:AH):Option (AV×AH):=if h:∃n r,(orc C n).raw f args h=some r then some h.choose_spec.choose else none
open Classical in
noncomputable def lp(step:St->Option (Ex×St))(s:St):Option (Ex×St):=if h:∃n x,Lw step n s=some x then some h.choose_spec.choose else none
noncomputable def m6:Orc:=⟨pc C,rc C,lp⟩
theorem XS{f args r}(h:pc C f args=some r):∃n,(orc C n).pure f args=some r:=by
 unfold pc at h;split at h
 .rename_i hx;cases h;exact⟨hx.choose,hx.choose_spec.choose_spec⟩
 .cases h
theorem gk{n f args r}(h:(orc C n).pure f args=some r):pc C f args=some r:=by
 have hx:∃n r,(orc C n).pure f args=some r:=⟨n,r,h⟩;unfold pc;rw[dif_pos hx];have h1:=(Er C (zf2z n hx.choose)).pure f args r h;have h2:=(Er C (zf1z n hx.choose)).pure f args _ hx.choose_spec.choose_spec;rw[h1]at h2;exact h2.symm
theorem rc_orc{f args h r}(he:rc C f args h=some r):∃n,(orc C n).raw f args h=some r:=by
 unfold rc at he;split at he
 .rename_i hx;cases he;exact⟨hx.choose,hx.choose_spec.choose_spec⟩
 .cases he
theorem orc_rc{n f args h r}(he:(orc C n).raw f args h=some r):rc C f args h=some r:=by
 have hx:∃n r,(orc C n).raw f args h=some r:=⟨n,r,he⟩;unfold rc;rw[dif_pos hx];have h1:=(Er C (zf2z n hx.choose)).raw f args h r he;have h2:=(Er C (zf1z n hx.choose)).raw f args h _ hx.choose_spec.choose_spec;rw[h1]at h2;exact h2.symm
theorem gY{step s x}(h:lp step s=some x):∃n,Lw step n s=some x:=by
 unfold lp at h;split at h
 .rename_i hx;cases h;exact⟨hx.choose,hx.choose_spec.choose_spec⟩
 .cases h
theorem VW{step n s x}(h:Lw step n s=some x):lp step s=some x:=by
 have hx:∃n x,Lw step n s=some x:=⟨n,x,h⟩;unfold lp;rw[dif_pos hx];have h1:=Hy (λ_ _ h=>h) (zf2z n hx.choose) h;have h2:=Hy (λ_ _ h=>h) (zf1z n hx.choose) hx.choose_spec.choose_spec;rw[h1]at h2;exact h2.symm
theorem lp_go{step s s' x}(h:step s=some (.normal,s'))(k:lp step s'=some x):lp step s=some x:=by
 obtain⟨n,hn⟩:=gY k;exact VW (n:=n+1) (by simp only[Lw,h];exact hn)
theorem tB{step s s' id}(h:step s=some (.exit id,s')):lp step s=some (.exit id,s'):=VW (n:=1) (by simp only[Lw,h])
theorem A0c{step s s'}(h:step s=some (.ret,s')):lp step s=some (.ret,s'):=VW (n:=1) (by simp only[Lw,h])
theorem UI{c r fr h x}(he:A7 (m6 C) c r fr h=some x):∃n,A7 (orc C n) c r fr h=some x:=by
 have hcall:∀f args,Gu (m6 C) c f args h=some x->∃n,Gu (orc C n) c f args h=some x:=by
  intro f args he;unfold Gu at he ⊢;split at he
  .rename_i hr;obtain⟨y,h1⟩:=kT he;rw[h1]at he;obtain⟨n,hn⟩:=rc_orc C h1;exact⟨n,by rw[if_pos hr,hn];exact he⟩
  .rename_i hr;cases has:AX h true args with
   |none=>rw[has]at he;cases he
   |some aas =>
    rw[has]at he;dsimp only at he ⊢;cases hp:(m6 C).pure f aas with
    |none=>rw[hp]at he;cases he
    |some r =>
     rw[hp]at he;obtain⟨n,hn⟩:=XS C hp;exact⟨n,by rw[if_neg hr,hn];exact he⟩
 cases r
 case call f aas=>exact hcall _ _ he
 case callv y aas =>
  simp only[A7]at he ⊢;split at he
  .split at he
   .cases he
   .rename_i hc;obtain⟨n,hn⟩:=hcall _ _ he;exact⟨n,by rw[if_neg hc];exact hn⟩
  .cases he
 case len b x=>cases b<;>exact⟨0,he⟩
 all_goals exact⟨0,he⟩
theorem Ru{c}:∀{C9:List RO} {fr:Fr} {h:AH} {x:Fr×AH},M8 (m6 C) c C9 fr h=some x->∃n,M8 (orc C n) c C9 fr h=some x
 | [],_,_,_,he=>⟨0,he⟩
 |o::C9,fr,h,x,he=>by
  simp only[M8]at he ⊢;cases hw:O8 fr o.guard with
  |none=>rw[hw]at he;cases he
  |some b =>
   rw[hw]at he;cases b with
   |false=>exact Ru he
   |true =>
    dsimp only at he ⊢;cases AT:A7 (m6 C) c o.op fr h with
    |none=>rw[AT]at he;cases he
    |some y =>
     rw[AT]at he;obtain⟨n,hn⟩:=UI C AT;obtain⟨m,hm⟩:=Ru he;refine⟨max n m,?_⟩;rw[Do (Er C (zf2z n m)) hn];exact Mi (Er C (zf1z n m)) hm
theorem Qk{c}:∀{C9:List RO} {fr:Fr} {h:AH} {x:List Foot×Fr×AH},P0 (m6 C) c C9 fr h=some x->∃n,P0 (orc C n) c C9 fr h=some x
 | [],_,_,_,he=>⟨0,he⟩
 |o::C9,fr,h,x,he=>by
  simp only[P0]at he ⊢;cases hw:O8 fr o.guard with
  |none=>rw[hw]at he;cases he
  |some b =>
   rw[hw]at he;cases b with
   |false =>
    dsimp only at he ⊢;rw[zf0z]at he;obtain⟨p,hp,e⟩:=he;obtain⟨n,hn⟩:=Qk hp;exact⟨n,by rw[hn,←e];rfl⟩
   |true =>
    dsimp only at he ⊢;cases AT:A7 (m6 C) c o.op fr h with
    |none=>rw[AT]at he;cases he
    |some y =>
     rw[AT]at he;dsimp only at he;rw[zf0z]at he;obtain⟨p,hp,e⟩:=he;obtain⟨n,hn⟩:=UI C AT;obtain⟨m,hm⟩:=Qk hp;refine⟨max n m,?_⟩;rw[Do (Er C (zf2z n m)) hn];dsimp only;rw[Ik (Er C (zf1z n m)) hm,←e];rfl
theorem Ql{c}:∀{C9:List RO} {fr:Fr} {h:AH} {x:List (Fr×AH)},Z2 (m6 C) c C9 fr h=some x->∃n,Z2 (orc C n) c C9 fr h=some x
 | [],_,_,_,he=>⟨0,he⟩
 |o::C9,fr,h,x,he=>by
  simp only[Z2]at he ⊢;cases hw:O8 fr o.guard with
  |none=>rw[hw]at he;cases he
  |some b =>
   rw[hw]at he;cases b with
   |false =>
    dsimp only at he ⊢;rw[zf0z]at he;obtain⟨p,hp,e⟩:=he;obtain⟨n,hn⟩:=Ql hp;exact⟨n,by rw[hn,←e];rfl⟩
   |true =>
    dsimp only at he ⊢;cases AT:A7 (m6 C) c o.op fr h with
    |none=>rw[AT]at he;cases he
    |some y =>
     rw[AT]at he;dsimp only at he;rw[zf0z]at he;obtain⟨p,hp,e⟩:=he;obtain⟨n,hn⟩:=UI C AT;obtain⟨m,hm⟩:=Ql hp;refine⟨max n m,?_⟩;rw[Do (Er C (zf2z n m)) hn];dsimp only;rw[LD (Er C (zf1z n m)) hm,←e];rfl
theorem gt{c bs C9 fr h fs}(he:Dx (m6 C) c bs C9 fr h fs=true):∃n,Dx (orc C n) c bs C9 fr h fs=true:=by
 unfold Dx at he;cases ht:Z2 (m6 C) c C9 fr h with
 |none=>rw[ht]at he;cases he
 |some ts =>
  rw[ht]at he;obtain⟨n,hn⟩:=Ql C ht;exact⟨n,by unfold Dx;rw[hn];exact he⟩
theorem gI{c}:∀(rcode:RCode) (s:St) (x:Ex×St),A8 (m6 C) c rcode s=some x->∃n,A8 (orc C n) c rcode s=some x:=by
 intro rcode
 induction rcode with
 |skip=>exact λs x he=>⟨0,he⟩
 |region d C9 =>
  intro s x he;simp only[A8]at he ⊢;cases hs:M8 (m6 C) c C9 s.1 s.2 with
  |none=>rw[hs]at he;cases he
  |some y =>
   rw[hs]at he;obtain⟨n,hn⟩:=Ru C hs;exact⟨n,by rw[hn];exact he⟩
 |regd bs C9 =>
  intro s x he;simp only[A8]at he ⊢;cases hs:P0 (m6 C) c C9 s.1 (s.2.holes (cN C9))with
  |none=>rw[hs]at he;cases he
  |some y =>
   rw[hs]at he;obtain⟨n,hn⟩:=Qk C hs;dsimp only at he;split at he
   .rename_i hp;rw[zf5z]at hp;rcases hp with hp|hp
    .exact⟨n,by rw[hn];dsimp only;rw[if_pos (by rw[hp];rfl)];exact he⟩
    .obtain⟨m,hm⟩:=gt C hp;refine⟨max n m,?_⟩;rw[Ik (Er C (zf2z n m)) hn];dsimp only;rw[if_pos (by rw[Tw (Er C (zf1z n m)) hm,Bool.or_true])];exact he
   .cases he
 |seq a b iha ihb =>
  intro s x he;simp only[A8]at he ⊢;cases hs:A8 (m6 C) c a s with
  |none=>rw[hs]at he;cases he
  |some y =>
   rw[hs]at he;obtain⟨n,hn⟩:=iha s y hs;obtain⟨e,s'⟩:=y;cases e with
   |normal =>
    obtain⟨m,hm⟩:=ihb _ _ he;refine⟨max n m,?_⟩;rw[GM (Er C (zf2z n m)) _ _ _ hn];exact GM (Er C (zf1z n m)) _ _ _ hm
   |exit id=>exact⟨n,by rw[hn];exact he⟩
   |ret=>exact⟨n,by rw[hn];exact he⟩
 |cond q a b iha ihb =>
  intro s x he;simp only[A8]at he ⊢;split at he
  .exact iha _ _ he
  .exact ihb _ _ he
  .cases he
 |block id a ih =>
  intro s x he;simp only[A8]at he ⊢;cases hs:A8 (m6 C) c a s with
  |none=>rw[hs]at he;cases he
  |some y =>
   rw[hs]at he;obtain⟨n,hn⟩:=ih s y hs;exact⟨n,by rw[hn];exact he⟩
 |loop a ih =>
  intro s x he;simp only[A8]at he ⊢;obtain⟨m,hm⟩:=gY he;have key:∃n,Lw (A8 (orc C n) c a) m s=some x:=by
   clear he
   induction m generalizing s with
   |zero=>simp[Lw]at hm
   |succ m ihm =>
    simp only[Lw]at hm ⊢;cases h1:A8 (m6 C) c a s with
    |none=>rw[h1]at hm;cases hm
    |some y =>
     rw[h1]at hm;obtain⟨n,hn⟩:=ih s y h1;obtain⟨e,s'⟩:=y;cases e with
     |normal =>
      obtain⟨k,hk⟩:=ihm s' hm;refine⟨max n k,?_⟩;rw[GM (Er C (zf2z n k)) _ _ _ hn];exact Hy (GM (Er C (zf1z n k)) a) (zg1z _) hk
     |exit id=>exact⟨n,by rw[hn];exact hm⟩
     |ret=>exact⟨n,by rw[hn];exact hm⟩
  obtain⟨n,hn⟩:=key;refine⟨max n m+1,?_⟩;show Lw _ (max n m+1) s=some x;exact Hy (GM (Er C a_) a) a_ hn
 |exit id=>exact λs x he=>⟨0,he⟩
 |ret=>exact λs x he=>⟨0,he⟩
 |bad=>exact λs x he=>⟨0,he⟩
theorem lz{f args h x}(he:IG C (m6 C) f args h=some x):∃n,IG C (orc C n) f args h=some x:=by
 unfold IG at he ⊢;split at he
 .unfold Ij at he ⊢;rename_i rf _;cases hs:A8 (m6 C) (C.ctx f) rf.body (Ec rf args,h)with
  |none=>rw[hs]at he;cases he
  |some y =>
   rw[hs]at he;obtain⟨n,hn⟩:=gI C _ _ _ hs;exact⟨n,by rw[hn];exact he⟩
 .split at he
  .rename_i s hs;obtain⟨l,h1,h2⟩:=s.fin _ args h x he;have key:∀l:List (FuncId×List AV×AV),(∀p∈l,(m6 C).pure p.1 p.2.1=some p.2.2)->∃n,∀p∈l,(orc C n).pure p.1 p.2.1=some p.2.2:=by
    intro l
    induction l with
    |nil=>exact λ_=>⟨0,λp hp=>by simp at hp⟩
    |cons a l ih =>
     intro hl;obtain⟨n,hn⟩:=ih λp hp=>hl p (List.mem_cons_of_mem _ hp);obtain⟨m,hm⟩:=XS C (hl a e_);refine⟨max n m,λp hp=>?_⟩;rcases zf7z.1 hp with rfl|hp
     .exact(Er C (zf1z n m)).pure _ _ _ hm
     .exact(Er C (zf2z n m)).pure _ _ _ (hn p hp)
   obtain⟨n,hn⟩:=key l h1;exact⟨n,h2 _ hn⟩
  .cases he
theorem uE{f args h x}(he:IG C (m6 C) f args h=some x):rc C f args h=some (rstQ (C.ctx f).rst x):=by
 obtain⟨n,hn⟩:=lz C he;refine orc_rc C (n:=n+1) ?_;show WK C (orc C n) f args h=_;unfold WK;rw[hn,TH]
theorem YN{f args x}(he:FN C (m6 C) f args=some x):pc C f args=some x:=by
 unfold FN at he;split at he
 .rename_i s hs;refine gk C (n:=1) ?_;show FN C _ f args=some x;unfold FN;simp only[hs];exact he
 .rename_i hs;cases hr:IG C (m6 C) f args AH.empty with
  |none=>rw[hr]at he;cases he
  |some y =>
   rw[hr]at he;obtain⟨n,hn⟩:=lz C hr;refine gk C (n:=n+1) ?_;show FN C _ f args=some x;unfold FN;simp only[hs,hn];exact he
theorem WG{P C}(hC:CfgS P C){f args r}(h:pc C f args=some r)(w ok0 vs)(O9:∀b o,ok0 b o->b<w.heap.size)(hG:Fo w ok0)(hv:DV w ok0 args vs.toList) :
  Calls P f vs w λe w'=>∃u,e=.returned u/\Bl w.heap.size w w'/\PV w' (λb o=>ok0 b o\/(w.heap.size<=b/\b<w'.heap.size)) r u:=by
 obtain⟨n,hn⟩:=XS C h;exact((XQ hC n).1 f args r hn).2 w ok0 vs O9 hG hv
end Go.Abs
namespace Go.Abs
def B2(fr:Fr)(n:Nat):AV:=fr.getD n B9
@[simp]theorem get_t(fr n):get fr (.t n)=B2 fr n:=p_ rfl
@[simp]theorem get_c(fr v):get fr (.c v)=v:=p_ rfl
@[simp]theorem put_some(fr d v):put fr (some d) v=zf9z fr d v:=p_ rfl
@[simp]theorem put_none(fr v):put fr none v=fr:=p_ rfl
theorem E5(fr){i j}(v)(h:i≠j):B2 (zf9z fr i v) j=B2 fr j:=by
 simp[B2,zf6z,List.getElem?_set_ne h]
theorem E6(fr){i j}(v)(e:i=j)(h:i<fr.length):B2 (zf9z fr i v) j=v:=by
 subst e;simp[B2,zf6z,List.getElem?_set_self h]
def nxt(r:Option (AV×AH))(O:Orc)(c:Ctx)(d:Option Nat)(C9:List RO)(fr:Fr):Option (Fr×AH):=match r with|some (v,h)=>M8 O c C9 (put fr d v) h|none=>none
@[congr] theorem nxt_congr{r r' O c d C9 fr}(h:r=r'):nxt r O c d C9 fr=nxt r' O c d C9 fr:=by rw[h]
@[simp]theorem nxt_some(v h O c d C9 fr):nxt (some (v,h)) O c d C9 fr=M8 O c C9 (put fr d v) h:=p_ rfl
def grd(b:AV)(w:Bool)(O:Orc)(c:Ctx)(d:Option Nat)(op:ROp)(C9:List RO)(fr:Fr)(h:AH):Option (Fr×AH) :=
 match b with
 | .bool b=>if b=w then nxt (A7 O c op fr h) O c d C9 fr else M8 O c C9 (put fr d B9) h
 | .tup _=>M8 O c C9 (put fr d B9) h
 |_=>none
@[congr] theorem grd_congr{b b' w O c d op C9 fr h}(e:b=b'):grd b w O c d op C9 fr h=grd b' w O c d op C9 fr h:=by rw[e]
section
variable (O:Orc) (c:Ctx) (d:Option Nat) (op:ROp) (C9:List RO) (fr:Fr) (h:AH)
@[simp]theorem grd_tt:grd (.bool true) true O c d op C9 fr h=nxt (A7 O c op fr h) O c d C9 fr:=p_ rfl
@[simp]theorem grd_ff:grd (.bool false) false O c d op C9 fr h=nxt (A7 O c op fr h) O c d C9 fr:=p_ rfl
@[simp]theorem grd_tf:grd (.bool true) false O c d op C9 fr h=M8 O c C9 (put fr d B9) h:=p_ rfl
@[simp]theorem grd_ft:grd (.bool false) true O c d op C9 fr h=M8 O c C9 (put fr d B9) h:=p_ rfl
@[simp]theorem grd_un(l:b9)(w:Bool):grd (.tup l) w O c d op C9 fr h=M8 O c C9 (put fr d B9) h:=p_ rfl
end
@[simp]theorem undef_tup:B9=.tup []:=p_ rfl
def brn(b:AV)(O:Orc)(c:Ctx)(x y:RCode)(fr:Fr)(h:AH):Option (Ex×St):=match b with | .bool true=>A8 O c x (fr,h) | .bool false=>A8 O c y (fr,h)|_=>none
@[congr] theorem brn_congr{b b' O c x y fr h}(e:b=b'):brn b O c x y fr h=brn b' O c x y fr h:=by rw[e]
@[simp]theorem brn_t(O c x y fr h):brn (.bool true) O c x y fr h=A8 O c x (fr,h):=p_ rfl
@[simp]theorem brn_f(O c x y fr h):brn (.bool false) O c x y fr h=A8 O c y (fr,h):=p_ rfl
def sqn(r:Option (Ex×St))(O:Orc)(c:Ctx)(y:RCode):Option (Ex×St):=match r with|some (.normal,fr,h)=>A8 O c y (fr,h)|r=>r
@[congr] theorem sqn_congr{r r' O c y}(h:r=r'):sqn r O c y=sqn r' O c y:=by rw[h]
@[simp]theorem sqn_n(fr h O c y):sqn (some (.normal,fr,h)) O c y=A8 O c y (fr,h):=p_ rfl
@[simp]theorem sqn_r(s O c y):sqn (some (.ret,s)) O c y=some (.ret,s):=p_ rfl
@[simp]theorem sqn_e(i s O c y):sqn (some (.exit i,s)) O c y=some (.exit i,s):=p_ rfl
def kbl(id:Nat)(r:Option (Ex×St)):Option (Ex×St):=match r with|some (.exit i,s)=>if i=id then some (.normal,s)else some (.exit i,s)|r=>r
@[simp]theorem kbl_n(id s):kbl id (some (.normal,s))=some (.normal,s):=p_ rfl
@[simp]theorem kbl_r(id s):kbl id (some (.ret,s))=some (.ret,s):=p_ rfl
@[simp]theorem kbl_e(id s):kbl id (some (.exit id,s))=some (.normal,s):=by simp[kbl]
def kend{β:Type}(r:Option (Ex×St))(k:Fr->AH->Option β):Option β:=match r with|some (.normal,fr,h)=>k fr h|some (.ret,fr,h)=>k fr h|_=>none
@[simp]theorem kend_n{β}(fr h)(k:Fr->AH->Option β):kend (some (.normal,fr,h)) k=k fr h:=p_ rfl
@[simp]theorem kend_r{β}(fr h)(k:Fr->AH->Option β):kend (some (.ret,fr,h)) k=k fr h:=p_ rfl
section
variable {O:Orc} {c:Ctx}
@[simp]theorem ops_nil(fr h):M8 O c [] fr h=some (fr,h):=p_ rfl
@[simp]theorem ops_cons(d op C9 fr h):M8 O c (⟨d,op,none⟩::C9) fr h=nxt (A7 O c op fr h) O c d C9 fr:=by
 simp only[M8,O8,nxt];cases A7 O c op fr h with
 |none=>rfl
 |some x=>rfl
@[simp]theorem ops_guard(d op s w C9 fr h) :
  M8 O c (⟨d,op,some (s,w)⟩::C9) fr h=grd (B2 fr s) w O c d op C9 fr h:=by
 simp only[M8,O8,B2,grd,nxt];cases fr.getD s B9 with
 |bool b =>
  dsimp only;cases b<;>cases w<;>simp<;>cases A7 O c op fr h<;>rfl
 |_=>rfl
def krg(r:Option (Fr×AH)):Option (Ex×St):=match r with|some s=>some (.normal,s)|none=>none
@[simp]theorem krg_s(s):krg (some s)=some (.normal,s):=p_ rfl
@[simp]theorem code_skip(s):A8 O c .skip s=some (.normal,s):=p_ rfl
@[simp]theorem code_region(d ops fr h):A8 O c (.region d ops) (fr,h)=krg (M8 O c ops fr h):=p_ rfl
@[simp]theorem code_seq(a b s):A8 O c (.seq a b) s=sqn (A8 O c a s) O c b:=by
 simp only[A8,sqn];split<;>simp_all
@[simp]theorem code_cond(q a b fr h):A8 O c (.cond q a b) (fr,h)=brn (get fr q) O c a b fr h:=by
 simp only[A8,brn];cases get fr q with
 |bool b=>cases b<;>rfl
 |_=>rfl
@[simp]theorem code_block(id a s):A8 O c (.block id a) s=kbl id (A8 O c a s):=by
 simp only[A8,kbl];split<;>simp_all
@[simp]theorem code_exit(id s):A8 O c (.exit id) s=some (.exit id,s):=p_ rfl
@[simp]theorem code_bad(s):A8 O c .bad s=none:=p_ rfl
@[simp]theorem code_ret(s):A8 O c .ret s=some (.ret,s):=p_ rfl
theorem H8{C}(a s):A8 (m6 C) c (.loop a) s=lp (A8 (m6 C) c a) s:=p_ rfl
end
def kcl(ys:Option (List AV))(k:List AV->Option AV)(tm:Bool)(h:AH):Option (AV×AH) :=
 match ys with|none=>none|some ys=>match k ys with|some r=>if r.scalar||tm then some (r,h)else none|none=>none
theorem tH{C c f}(hr:c.raw f=false)(xs fr h) :
  A7 (m6 C) c (.call f xs) fr h=kcl (AX h true (xs.map (get fr))) (λys=>pc C f ys) ((xs.map (get fr)).all (tame h)) h:=by
 simp only[A7,Gu,hr,kcl];rw[if_neg e_];cases AX h true (xs.map (get fr))with
 |none=>rfl
 |some ys =>
  show (match pc C f ys with|none=>none|some r=>_)=_
  cases hp:pc C f ys with
  |none=>simp only[hp]
  |some r=>simp only[hp]
theorem lL{C c f}(hr:c.raw f=true)(xs fr h) :
  A7 (m6 C) c (.call f xs) fr h=yG (c.noB f) h (rc C f (xs.map (get fr)) h):=by
 simp only[A7,Gu,hr];rfl
@[simp]theorem kpB_f(h r):yG false h r=r:=p_ rfl
def fin(rs:List UB)(fr:Fr)(h:AH):Option AV:=(Mx fr h rs).bind λvs=>Gj h (J4 vs)
theorem Qt{rf args}(h:args.length<=rf.ntmps):(Ec rf args).length=rf.ntmps/\∀i,B2 (Ec rf args) i=args.getD i B9:=by
 refine⟨by simp[Ec];omega,λi=>?_⟩;simp only[B2,Ec,zf6z];by_cases hi:i<args.length
 .rw[List.getElem?_append_left hi]
 .rw[List.getElem?_append_right a_,List.getElem?_eq_none (l:=args) a_,List.getElem?_replicate];split<;>rfl
theorem A1D{C f rf args r}(hs:C.spec f=none)(hc:C.code f=some rf)(hl:args.length<=rf.ntmps)
  (H:∀fr,fr.length=rf.ntmps->(∀i,B2 fr i=args.getD i B9)->kend (A8 (m6 C) (C.ctx f) rf.body (fr,⟨[],[]⟩)) (fin rf.results)=some r):pc C f args=some r:=by
 have:=H (Ec rf args) (Qt hl).1 (Qt hl).2;apply YN;unfold FN IG;simp only[hs,hc];unfold Ij kend fin at *
 cases he:A8 (m6 C) (C.ctx f) rf.body (Ec rf args,AH.empty)with
 |none=>rw[show (⟨[],[]⟩:AH)=AH.empty from rfl,he]at this;cases this
 |some x =>
  rw[show (⟨[],[]⟩:AH)=AH.empty from rfl,he]at this;obtain⟨e,fr,h⟩:=x;cases e with
  |exit i=>cases this
  |normal=>cases hr:Mx fr h rf.results with|none=>simp[hr]at this|some vs=>simpa[hr]using this
  |ret=>cases hr:Mx fr h rf.results with|none=>simp[hr]at this|some vs=>simpa[hr]using this
def sl(m:Bool×Bool)(sz:Nat)(xs:List AV):AV:=.vs m.1 (if xs.isEmpty&&!m.2 then 0 else sz) xs
theorem iR(f sz xs):.vs f sz xs=sl (f,true) sz xs:=by simp[sl]
theorem sl_nil(sz):.vs true 0 []=sl (true,false) sz []:=by simp[sl]
@[simp]theorem sl_isTup(m sz xs):(sl m sz xs).isTup=false:=p_ rfl
@[simp]theorem sl_cells(m sz xs):(sl m sz xs).cells=[sl m sz xs]:=p_ rfl
@[simp]theorem sl_frz1(h am m sz xs):Cr h am (sl m sz xs)=some (sl m sz xs):=p_ rfl
@[simp]theorem sl_frz(h am m sz xs):frz h am (sl m sz xs)=some (sl m sz xs):=p_ rfl
@[simp]theorem sl_tame1(h m sz xs):Hl h (sl m sz xs)=true:=p_ rfl
@[simp]theorem sl_tame(h m sz xs):tame h (sl m sz xs)=true:=p_ rfl
@[simp]theorem sl_flat(m sz xs):(sl m sz xs).flat=true:=p_ rfl
@[simp]theorem sl_ofCells(m sz xs rest):Q6 false 1 (sl m sz xs::rest)=some (sl m sz xs):=p_ rfl
@[simp]theorem W0(h m sz xs):elems h sz (sl m sz xs)=some xs:=by
 cases xs with
 |nil=>simp[elems,sl]
 |cons x xs=>simp[elems,sl]
@[simp]theorem sl_scalar(m sz xs):(sl m sz xs).scalar=false:=p_ rfl
@[simp]theorem frz_int(h am k n):frz h am (.int k n)=some (.int k n):=p_ rfl
@[simp]theorem frz_bool(h am b):frz h am (.bool b)=some (.bool b):=p_ rfl
@[simp]theorem frz_str(h am s):frz h am (.str s)=some (.str s):=p_ rfl
@[simp]theorem frz_fn(h am f):frz h am (.fn f [])=some (.fn f []):=p_ rfl
@[simp]theorem frz_nilp(h am):frz h am .nilp=some .nilp:=p_ rfl
@[simp]theorem frzL_nil(h am):NV h am []=some []:=p_ rfl
@[simp]theorem frzL_cons(h am x xs):NV h am (x::xs)=(Cr h am x).bind λy=>(NV h am xs).map (y::·):=p_ rfl
@[simp]theorem frz1_int(h am k n):Cr h am (.int k n)=some (.int k n):=p_ rfl
@[simp]theorem frz1_bool(h am b):Cr h am (.bool b)=some (.bool b):=p_ rfl
@[simp]theorem frz1_str(h am s):Cr h am (.str s)=some (.str s):=p_ rfl
@[simp]theorem frz_agg(h am cs):frz h am (.agg cs)=(NV h am cs).map .agg:=p_ rfl
@[simp]theorem frzAll_nil(h am):AX h am []=some []:=p_ rfl
@[simp]theorem kQ(h am x xs):AX h am (x::xs)=(frz h am x).bind λy=>(AX h am xs).map (y::·):=p_ rfl
@[simp]theorem frzRes_int(h k n):Gj h (.int k n)=some (.int k n):=p_ rfl
@[simp]theorem frzRes_bool(h b):Gj h (.bool b)=some (.bool b):=p_ rfl
@[simp]theorem frzRes_str(h s):Gj h (.str s)=some (.str s):=p_ rfl
@[simp]theorem frzRes_sl(h m sz xs):Gj h (sl m sz xs)=some (sl m sz xs):=p_ rfl
@[simp]theorem frzRes_agg(h cs):Gj h (.agg cs)=(NV h true cs).map .agg:=p_ rfl
@[simp]theorem frzRes_tup(h cs):Gj h (.tup cs)=(AX h true cs).map .tup:=p_ rfl
@[simp]theorem kcl_some(ys k tm h):kcl (some ys) k tm h=(match k ys with|some r=>if r.scalar||tm then some (r,h)else none|none=>none):=p_ rfl
@[simp]theorem scalar_int(k n):(AV.int k n).scalar=true:=p_ rfl
@[simp]theorem scalar_bool(b):(AV.bool b).scalar=true:=p_ rfl
@[simp]theorem scalar_str(s):(AV.str s).scalar=true:=p_ rfl
@[simp]theorem isTup_int(k n):(AV.int k n).isTup=false:=p_ rfl
@[simp]theorem isTup_bool(b):(AV.bool b).isTup=false:=p_ rfl
@[simp]theorem isTup_str(b):(AV.str b).isTup=false:=p_ rfl
@[simp]theorem isTup_agg(cs):(AV.agg cs).isTup=false:=p_ rfl
@[simp]theorem dW(cs):(AV.agg cs).cells=cs:=p_ rfl
@[simp]theorem cells_int(k n):(AV.int k n).cells=[.int k n]:=p_ rfl
@[simp]theorem cells_bool(b):(AV.bool b).cells=[.bool b]:=p_ rfl
@[simp]theorem cells_str(b):(AV.str b).cells=[.str b]:=p_ rfl
@[simp]theorem ofCells_true(n cs):Q6 true n cs=if n<=cs.length then some (.agg (cs.take n))else none:=p_ rfl
@[simp]theorem ofCells_false(n cs):Q6 false n cs=cs.head?:=p_ rfl
def iaA(h:AH)(sz:Nat)(x i:AV):Option (AV×AH) :=
 match x,i with
 | .vs _ z xs,.int _ j=>if 0<=j/\z=sz then (match xs[j.toNat]? with|some e=>some (.pv e.cells,h)|none=>none)else none
 | .sl k n off len,.int _ j=>if 0<=j/\j<len then some (.ep k n (off+j.toNat) 0 sz,h)else none
 | .bsl b s off len,.int _ j=>if 0<=j/\j<len/\s=sz then some (.ptr b (off+j.toNat*sz),h)else none
 |_,_=>none
def oh(h:AH)(x:AV):Option (AV×AH) :=
 match x with
 | .vs _ _ xs=>some (.int .i64 xs.length,h)
 | .sl _ _ _ len=>some (.int .i64 len,h)
 | .bsl _ _ _ len=>some (.int .i64 len,h)
 |_=>none
def slcA(h:AH)(sz:Nat)(x:AV)(l u m:Option (Option Int)):Option (AV×AH) :=
 match l,u,m with
 |some l,some u,some m=>match KM h sz x l u m with|some v=>some (v,h)|none=>none
 |_,_,_=>none
theorem XP(neg h m sz)(X9:0<sz)(xs):nqA neg h (sl m sz xs)=some (.bool (if neg then !(xs.isEmpty&&!m.2)else (xs.isEmpty&&!m.2)),h):=by
 unfold nqA sl;by_cases hx:(xs.isEmpty&&!m.2)=true
 .simp[hx]
 .have:(sz == 0)=false:=by simp;omega
  simp[hx,this]
section
variable {O:Orc} {c:Ctx} (fr:Fr) (h:AH)
@[simp]theorem op_mov(x):A7 O c (.mov x) fr h=some (get fr x,h):=p_ rfl
@[simp]theorem op_pick(q a b):A7 O c (.pick q a b) fr h=(match get fr q with | .bool t=>some (if t then get fr a else get fr b,h)|_=>none):=p_ rfl
@[simp]theorem op_box(x):A7 O c (.box x) fr h=if (get fr x).isTup then none else some (.ptr h.boxes.length 0,{h with boxes:=h.boxes++[(get fr x).cells]}):=p_ rfl
@[simp]theorem op_alloc(z):A7 O c (.alloc z) fr h=some (.ptr h.boxes.length 0,{h with boxes:=h.boxes++[z.cells]}):=p_ rfl
@[simp]theorem op_build(z parts):A7 O c (.build z parts) fr h=(B5 fr z.cells.length parts).map λps=>(.agg (C0 z.cells ps),h):=by
 simp only[A7];cases B5 fr z.cells.length parts<;>rfl
@[simp]theorem op_bslice(n z parts):A7 O c (.bslice n z parts) fr h=(A9 fr h (zf4z n z) parts).map λxs=>(sl (true,true) z.cells.length xs,h):=by
 simp only[A7,iR];cases A9 fr h (zf4z n z) parts<;>rfl
@[simp]theorem op_bslicev(n z parts):A7 O c (.bslicev n z parts) fr h=if parts.all (λp=>M9 (get fr p.2))then (A9 fr h (zf4z n z) parts).map λxs=>(sl (true,true) z.cells.length xs,h)else none:=by
 simp only[A7,iR];cases A9 fr h (zf4z n z) parts<;>rfl
@[simp]theorem op_ldb(agg n x):A7 O c (.ldb agg n x) fr h=(match get fr x with | .ep ..=>none|p=>(match X3 h agg n p with|some v=>some (v,h)|none=>none)):=p_ rfl
@[simp]theorem op_nilck(x):A7 O c (.nilck x) fr h=(match get fr x with | .pv cs=>some (.pv cs,h) | .ptr b o=>some (.ptr b o,h) | .ep k n i q s=>some (.ep k n i q s,h) | .fn f cs=>some (.fn f cs,h)|_=>none):=p_ rfl
@[simp]theorem op_bin(op x y):A7 O c (.bin op x y) fr h=(M7 op (get fr x) (get fr y)).map λv=>(v,h):=by
 simp only[A7];cases M7 op (get fr x) (get fr y)<;>rfl
@[simp]theorem op_beq(neg x y):A7 O c (.beq neg x y) fr h=(match get fr x,get fr y with | .bool a,.bool b=>some (.bool (if neg then !(a == b)else a == b),h)|_,_=>none):=p_ rfl
@[simp]theorem op_nileq(neg x):A7 O c (.nileq neg x) fr h=nqA neg h (get fr x):=p_ rfl
@[simp]theorem op_un(op x):A7 O c (.un op x) fr h=(Rv op (get fr x)).map λv=>(v,h):=by
 simp only[A7];cases Rv op (get fr x)<;>rfl
@[simp]theorem op_conv(k x):A7 O c (.conv k x) fr h=(match get fr x with | .int _ n=>some (.int k (k.wrap n),h)|_=>none):=p_ rfl
@[simp]theorem op_bstr(x):A7 O c (.bstr x) fr h=ZY h (get fr x):=p_ rfl
def kro(b:Bool)(x y:Option (AV×AH)):Option (AV×AH):=if b then x else y
@[simp]theorem kro_t(x y):kro true x y=x:=p_ rfl
@[simp]theorem kro_f(x y):kro false x y=y:=p_ rfl
@[simp]theorem op_clos(f caps):A7 O c (.clos f caps) fr h=kro c.ro ((Aw h (caps.map (get fr))).map λp=>(.fn f p.1,p.2)) (some (.fn f (caps.map (get fr)),h)):=p_ rfl
@[simp]theorem op_mkslice(z bytes l q):A7 O c (.mkslice z bytes l q) fr h=(match get fr l,get fr q with
  | .int _ a,.int _ b =>
   if 0<=a/\a<=b/\b*bytes<=K7/\b<=maxLen then
    some (.sl h.fams.length a.toNat 0 a.toNat,{h with fams:=h.fams++[⟨zf4z a.toNat z,z.cells.length,true⟩]})
   else none
  |_,_=>none):=p_ rfl
@[simp]theorem op_faddr(off x):A7 O c (.faddr off x) fr h=(match get fr x with | .pv cs=>some (.pv (cs.drop off),h) | .ptr b o=>some (.ptr b (o+off),h) | .ep k n i q s=>some (.ep k n i (q+off) s,h)|_=>none):=p_ rfl
@[simp]theorem op_fld(agg off n x):A7 O c (.fld agg off n x) fr h=(match get fr x with | .agg cs=>(match Q6 agg n (cs.drop off)with|some v=>some (v,h)|none=>none)|_=>none):=p_ rfl
@[simp]theorem op_idx(x i):A7 O c (.idx x i) fr h=(match get fr x,get fr i with
  | .str s,.int _ j=>if 0<=j then (match s[j.toNat]? with|some b=>some (.int .u8 b.toNat,h)|none=>none)else none
  |_,_=>none):=p_ rfl
@[simp]theorem op_ext(x i):A7 O c (.ext x i) fr h=(match get fr x with | .tup vs=>(match vs[i]? with|some v=>some (v,h)|none=>none)|_=>none):=p_ rfl
@[simp]theorem op_slen(x):A7 O c (.len true x) fr h=(match get fr x with | .str s=>some (.int .i64 s.size,h)|_=>none):=p_ rfl
@[simp]theorem op_max(x y):A7 O c (.max x y) fr h=(match get fr x,get fr y with | .int k a,.int k' b=>if k=k' then some (.int k (if b > a then b else a),h)else none|_,_=>none):=p_ rfl
@[simp]theorem op_iaddr(sz x i):A7 O c (.iaddr sz x i) fr h=iaA h sz (get fr x) (get fr i):=p_ rfl
@[simp]theorem op_ste(n a x):A7 O c (.ste n a x) fr h=WW h n (get fr a) (get fr x):=p_ rfl
@[simp]theorem op_stb(n a x):A7 O c (.stb n a x) fr h=TP h n (get fr a) (get fr x):=p_ rfl
@[simp]theorem op_mkv(z bytes l q):A7 O c (.mkv z bytes l q) fr h=pb h z bytes (get fr l) (get fr q):=p_ rfl
@[simp]theorem op_mkb(z bytes l q):A7 O c (.mkb z bytes l q) fr h=aI h z bytes (get fr l) (get fr q):=p_ rfl
@[simp]theorem op_clr(z x):A7 O c (.clr z x) fr h=VN h z (get fr x):=p_ rfl
@[simp]theorem op_len(x):A7 O c (.len false x) fr h=oh h (get fr x):=p_ rfl
def wO(b:Bool)(x y:Unit->Option (AV×AH)):Option (AV×AH):=if b then x ()else y ()
@[simp]theorem kraw_t(x y):wO true x y=x ():=p_ rfl
@[simp]theorem kraw_f(x y):wO false x y=y ():=p_ rfl
@[congr] theorem kraw_congr{b b' x y}(h:b=b'):wO b x y=wO b' x y:=by rw[h]
@[simp]theorem op_calls{C}(f xs):A7 (m6 C) c (.call f xs) fr h=wO (c.raw f) (λ_=>yG (c.noB f) h (rc C f (xs.map (get fr)) h)) (λ_=>kcl (AX h true (xs.map (get fr))) (λys=>pc C f ys) ((xs.map (get fr)).all (tame h)) h):=by
 cases hr:c.raw f with
 |false=>exact tH hr xs fr h
 |true=>exact lL hr xs fr h
def kif(b:Bool)(x:Option (AV×AH)):Option (AV×AH):=if b then none else x
@[simp]theorem kif_t(x):kif true x=none:=p_ rfl
@[simp]theorem kif_f(x):kif false x=x:=p_ rfl
@[simp]theorem op_callv{C}(x xs):A7 (m6 C) c (.callv x xs) fr h=(match get fr x with
  | .fn f caps=>kif (c.raw f&&!c.rawv) (wO (c.raw f) (λ_=>yG (c.noB f) h (rc C f (xs.map (get fr)++caps) h)) (λ_=>kcl (AX h true (xs.map (get fr)++caps)) (λys=>pc C f ys) ((xs.map (get fr)++caps).all (tame h)) h))
  |_=>none):=by
 simp only[A7];cases get fr x with
 |fn f caps =>
  simp only;unfold kif;by_cases hq:(c.raw f&&!c.rawv)=true
  .rw[if_pos hq,if_pos hq]
  .rw[if_neg hq,if_neg hq];cases hr:c.raw f with
   |false =>
    have:=tH (C:=C) hr ((xs.map (get fr)++caps).map Opd.c) fr h;simp only[A7,zf8z]at this;rw[show (get fr∘Opd.c)=id from rfl,zg0z]at this;exact this
   |true =>
    have:=lL (C:=C) hr ((xs.map (get fr)++caps).map Opd.c) fr h;simp only[A7,zf8z]at this;rw[show (get fr∘Opd.c)=id from rfl,zg0z]at this;exact this
 |_=>rfl
@[simp]theorem op_apps(bytes s x):A7 O c (.apps bytes s x) fr h=ZV c h bytes (get fr s) (get fr x):=p_ rfl
@[simp]theorem op_allocAt(r z):A7 O c (.allocAt r z) fr h=AW h r z:=p_ rfl
@[simp]theorem op_min(x y):A7 O c (.min x y) fr h=(match get fr x,get fr y with | .int k a,.int k' b=>if k=k' then some (.int k (if b<a then b else a),h)else none|_,_=>none):=p_ rfl
@[simp]theorem op_mkmap:A7 O c .mkmap fr h=some (.mp h.boxes.length,{h with boxes:=h.boxes++[[.mbox [] []]]}):=p_ rfl
@[simp]theorem op_mlook(str ok z x k):A7 O c (.mlook str ok z x k) fr h=Js str ok z h (get fr x) (get fr k):=p_ rfl
@[simp]theorem op_mup(str x k v):A7 O c (.mup str x k v) fr h=cv str h (get fr x) (get fr k) (get fr v):=p_ rfl
@[simp]theorem op_slc(sz x lo hi mx):A7 O c (.slc sz x lo hi mx) fr h=slcA h sz (get fr x) (AA fr lo) (AA fr hi) (AA fr mx):=p_ rfl
@[simp]theorem op_app(sz bytes s x):A7 O c (.app sz bytes s x) fr h=N0 c h sz bytes (get fr s) (get fr x):=p_ rfl
@[simp]theorem op_ld(agg n x):A7 O c (.ld agg n x) fr h=(X3 h agg n (get fr x)).map λv=>(v,h):=by
 simp only[A7];cases X3 h agg n (get fr x)<;>rfl
@[simp]theorem layS_false(h x):XM false h x=h:=p_ rfl
@[simp]theorem op_st(n a x):A7 O c (.st n a x) fr h=(DX h n (get fr x) (get fr a)).map λh'=>(B9,XM c.lay h' (get fr x)):=by
 simp only[A7];cases DX h n (get fr x) (get fr a)<;>rfl
end
def KW(xs:List AV)(i:Nat):Option AV:=xs[i]?
@[simp]theorem nth_zero(x xs):KW (x::xs) 0=some x:=p_ rfl
@[simp]theorem nth_succ(x xs i):KW (x::xs) (i+1)=KW xs i:=p_ rfl
theorem J5{α:Type}{f}{l:List α}{i x}(h:l[i]?=some x):KW (l.map f) i=some (f x):=by simp[KW,h]
@[simp]theorem iaA_sl(h m sz xs k j):iaA h sz (sl m sz xs) (.int k j)=if 0<=j then (KW xs j.toNat).map (λe=>(.pv e.cells,h))else none:=by
 unfold iaA sl KW;simp only;by_cases hj:0<=j
 .rw[if_pos hj];cases hx:xs[j.toNat]? with
  |none=>simp
  |some e =>
   cases xs with
   |nil=>simp at hx
   |cons y ys=>simp[hj]
 .rw[if_neg hj,if_neg a_]
@[simp]theorem lenA_sl(h m sz xs):oh h (sl m sz xs)=some (.int .i64 xs.length,h):=p_ rfl
@[simp]theorem lenA_box(h b s off len):oh h (.bsl b s off len)=some (.int .i64 len,h):=p_ rfl
@[simp]theorem iaA_box(h sz b s off len kd j):iaA h sz (.bsl b s off len) (.int kd j)=if 0<=j/\j<len/\s=sz then some (.ptr b (off+j.toNat*sz),h)else none:=p_ rfl
@[simp]theorem lenA_view(h k n off len):oh h (.sl k n off len)=some (.int .i64 len,h):=p_ rfl
@[simp]theorem A0B(h am k n off len):frz h am (.sl k n off len)=Cr h am (.sl k n off len):=p_ rfl
@[simp]theorem loadA_pv(h agg n cs):X3 h agg n (.pv cs)=Q6 agg n cs:=p_ rfl
@[simp]theorem isMB_nil:BE []=false:=p_ rfl
@[simp]theorem Jr(x y l):BE (x::y::l)=false:=by cases x<;>rfl
@[simp]theorem isMB_int(k n):BE [.int k n]=false:=p_ rfl
@[simp]theorem isMB_bool(b):BE [.bool b]=false:=p_ rfl
@[simp]theorem isMB_str(b):BE [.str b]=false:=p_ rfl
@[simp]theorem isMB_vs(f sz xs):BE [.vs f sz xs]=false:=p_ rfl
@[simp]theorem isMB_sl(m sz xs):BE [sl m sz xs]=false:=p_ rfl
@[simp]theorem isMB_view(k n off len):BE [.sl k n off len]=false:=p_ rfl
@[simp]theorem isMB_ptr(b off):BE [.ptr b off]=false:=p_ rfl
@[simp]theorem isMB_agg(cs):BE [.agg cs]=false:=p_ rfl
@[simp]theorem isMB_mp(b):BE [.mp b]=false:=p_ rfl
@[simp]theorem isMB_vm(ks vs):BE [.vm ks vs]=false:=p_ rfl
@[simp]theorem isMB_fn(f cs):BE [.fn f cs]=false:=p_ rfl
@[simp]theorem isMB_rbox(cs):BE [.rbox cs]=true:=p_ rfl
@[simp]theorem rdRo_r(agg n off ys):au agg n off [.rbox ys]=Q6 agg n (ys.drop off):=p_ rfl
@[simp]theorem loadA_ptr(h agg n b off):X3 h agg n (.ptr b off)=(h.boxes[b]?).bind λcs=>if BE cs then au agg n off cs else Q6 agg n (cs.drop off):=by
 simp only[X3];cases h.boxes[b]?<;>rfl
@[simp]theorem storeA_ptr(h n v b off):DX h n v (.ptr b off)=(h.boxes[b]?).bind λcs=>if BE cs=false/\v.isTup=false/\v.cells.length=n/\off+n<=cs.length then some {h with boxes:=h.boxes.set b (j8 cs off v.cells)} else mz h b n off v cs:=by
 simp only[DX];cases h.boxes[b]?<;>rfl
@[simp]theorem layH_def(h v):kU h v=match frz h false v with|some _=>some h|none=>mG h v:=p_ rfl
@[simp]theorem rstF_sl(h k n off len):mG h (.sl k n off len)=(h.fams[k]?).map λf=>{h with fams:=h.fams.set k {f with wr:=false}}:=by
 simp only[mG];cases h.fams[k]?<;>rfl
@[simp]theorem storeA_ep(h n v k m i q sz):DX h n v (.ep k m i q sz)=(kU h v).bind λh=>(h.fams[k]?).bind λf =>
  if f.xs.length=m/\f.sz=sz/\f.wr=true then
   (f.xs[i]?).bind λx=>(frz h false v).bind λu=>if u.cells.length=n/\q+n<=x.cells.length then
    (x.reform (j8 x.cells q u.cells)).map λy=>{h with fams:=h.fams.set k {f with xs:=f.xs.set i y}} else none
  else none:=by
 simp only[DX];cases kU h v with
 |none=>rfl
 |some h =>
  simp only[zf3z,Ic];cases h.fams[k]? with
  |none=>rfl
  |some f =>
   simp only[zf3z];split
   .cases f.xs[i]? with
    |none=>rfl
    |some x=>cases frz h false v<;>rfl
   .rfl
@[simp]theorem loadA_ep(h agg n k m i q sz):X3 h agg n (.ep k m i q sz)=(h.fams[k]?).bind λf=>if f.xs.length=m/\f.sz=sz then (f.xs[i]?).bind λx=>Q6 agg n (x.cells.drop q)else none:=by
 simp only[X3];cases h.fams[k]? with
 |none=>rfl
 |some f =>
  simp only[zf3z];split
  .cases f.xs[i]?<;>rfl
  .rfl
@[simp]theorem iaA_view(h sz k n off len kd j):iaA h sz (.sl k n off len) (.int kd j)=if 0<=j/\j<len then some (.ep k n (off+j.toNat) 0 sz,h)else none:=p_ rfl
@[simp]theorem splice_def(cs off new):j8 cs off new=cs.take off++new++cs.drop (off+new.length):=p_ rfl
@[simp]theorem bin_lss(k a b):M7 .lss (.int k a) (.int k b)=some (.bool (decide (a<b))):=by simp[M7]
@[simp]theorem bin_leq(k a b):M7 .leq (.int k a) (.int k b)=some (.bool (decide (a<=b))):=by simp[M7]
@[simp]theorem bin_gtr(k a b):M7 .gtr (.int k a) (.int k b)=some (.bool (decide (b<a))):=by simp[M7]
@[simp]theorem bin_geq(k a b):M7 .geq (.int k a) (.int k b)=some (.bool (decide (b<=a))):=by simp[M7]
@[simp]theorem bin_eql(k a b):M7 .eql (.int k a) (.int k b)=some (.bool (decide (a=b))):=by simp only[M7,if_true];rfl
@[simp]theorem bin_neq(k a b):M7 .neq (.int k a) (.int k b)=some (.bool (!decide (a=b))):=by simp only[M7,if_true];rfl
@[simp]theorem bin_add(k a b):M7 .add (.int k a) (.int k b)=some (.int k (k.wrap (a+b))):=by simp[M7]
@[simp]theorem bin_sub(k a b):M7 .sub (.int k a) (.int k b)=some (.int k (k.wrap (a-b))):=by simp[M7]
theorem fZ(a b:List UInt8):(a == b)=decide (a=b):=by
 by_cases h:a=b<;>simp[h]
@[simp]theorem bin_slss(a b):M7 .lss (.str a) (.str b)=some (.bool (Op.bytesLess a.toList b.toList)):=p_ rfl
@[simp]theorem bin_sgtr(a b):M7 .gtr (.str a) (.str b)=some (.bool !(Op.bytesLess a.toList b.toList||decide (a.toList=b.toList))):=by simp only[M7];rw[fZ]
@[simp]theorem bin_seql(a b):M7 .eql (.str a) (.str b)=some (.bool (decide (a.toList=b.toList))):=by simp only[M7];rw[fZ]
@[simp]theorem bin_sneq(a b):M7 .neq (.str a) (.str b)=some (.bool !(decide (a.toList=b.toList))):=by simp only[M7];rw[fZ]
@[simp]theorem resA_nil(fr h):Mx fr h []=some []:=p_ rfl
@[simp]theorem resA_tmp(fr h t rs):Mx fr h (.tmp t::rs)=(Mx fr h rs).map (B2 fr t::·):=p_ rfl
@[simp]theorem resA_cell(fr h a n agg rs):Mx fr h (.cell a agg n::rs)=(X3 h agg n (B2 fr a)).bind λv=>(Mx fr h rs).map (v::·):=p_ rfl
@[simp]theorem un_not(b):Rv .not (.bool b)=some (.bool !b):=p_ rfl
theorem Y8{n}(h0:-9223372036854775808<=n)(h1:n<=9223372036854775807):IntKind.i64.wrap n=n:=by
 simp only[IntKind.wrap,IntKind.bits,IntKind.signed];simp only[Bool.true_and,decide_eq_true_eq,ge_iff_le];split<;>omega
theorem J6(i:Nat)(h:i<9223372036854775807):IntKind.i64.wrap ((i:Int)+1)=(i:Int)+1:=Y8 a_ a_
theorem wrNexn(i:Nat)(h:i<9223372036854775807):IntKind.i64.wrap ((i:Int)+1)=((i+1:Nat):Int):=Y8 a_ a_
@[simp]theorem Sw(h am k n off len):Cr h am (.sl k n off len)=(h.fams[k]?).bind λf=>if f.xs.length=n/\off+len<=n/\(am||!f.wr)=true then some (sl (false,true) f.sz ((f.xs.drop off).take len))else none:=by
 simp only[Cr];cases h.fams[k]? with
 |none=>rfl
 |some f=>simp only[zf3z,iR]
@[simp]theorem frz_nil(h am):frz h am (.vs true 0 [])=some (sl (true,false) 1 []):=p_ rfl
@[simp]theorem frz1_nil(h am):Cr h am (.vs true 0 [])=some (sl (true,false) 1 []):=p_ rfl
theorem qZ(m)(hm:m.2=false)(a b):sl m a []=sl m b []:=by simp[sl,hm]
@[simp]theorem app_nil(c h sz bytes x):N0 c h sz bytes (.vs true 0 []) x=(elems h sz x).bind λys =>
  if ys.length=0 then some (.vs true 0 [],h)else if ys.length*bytes<=K7/\ys.length<=maxLen then some (.sl h.fams.length ys.length 0 ys.length,{h with fams:=h.fams++[⟨ys,sz,c.mutApp⟩]})else none:=by
 simp only[N0,q9];cases elems h sz x with
 |none=>rfl
 |some ys=>simp
def appPre(h:AH)(sz k n off len:Nat)(f:Fam)(ys:List AV):Option (AV×AH) :=
 if f.xs.length=n/\f.sz=sz/\f.wr=true/\off+len+ys.length<=n then some (.sl k n off (len+ys.length),{h with fams:=h.fams.set k {f with xs:=f.xs.take (off+len)++ys++f.xs.drop (off+len+ys.length)}})else none
@[simp]theorem yf(c h sz bytes k n off len x):N0 c h sz bytes (.sl k n off len) x=(elems h sz x).bind λys=>(h.fams[k]?).bind λf =>
  if f.xs.length=n/\f.sz=sz/\off+len=n/\(n+ys.length)*bytes<=K7/\n+ys.length<=maxLen then some (.sl k (n+ys.length) off (len+ys.length),{h with fams:=h.fams.set k {f with xs:=f.xs++ys}})else appPre h sz k n off len f ys:=by
 simp only[N0,q9];cases elems h sz x with
 |none=>rfl
 |some ys=>cases h.fams[k]?<;>rfl
theorem Jo(c h sz bytes b xs x):N0 c h sz bytes (sl (true,b) sz xs) x=(elems h sz x).bind λys =>
  if ys.length=0 then some (sl (true,b) sz xs,h)else if (xs.length+ys.length)*bytes<=K7/\xs.length+ys.length<=maxLen then some (.sl h.fams.length (xs.length+ys.length) 0 (xs.length+ys.length),{h with fams:=h.fams++[⟨xs++ys,sz,c.mutApp⟩]})else none:=by
 simp only[N0,q9,sl];cases elems h sz x with
 |none=>rfl
 |some ys =>
  simp only[zf3z];cases xs<;>simp
inductive Tm where
 |mk (kind:Int) (name:ByteArray) (sort:Int) (m:Bool×Bool) (kids:List Tm)
abbrev Be:=List Tm
mutual
def I8:Tm->AV
 | .mk k n s m l=>.agg [.int .i64 k,.str n,.int .i64 s,sl m 4 (C4 l)]
def C4:List Tm->List AV
 | []=>[]
 |t::l=>I8 t::C4 l
end
theorem b5(l):C4 l=l.map I8:=by
 induction l with
 |nil=>rfl
 |cons t l ih=>simp[C4,ih]
theorem Ep{l i t}(h:l[i]?=some t):KW (C4 l) i=some (I8 t):=by rw[b5];exact J5 h
@[simp]theorem Z9(l):(C4 l).length=l.length:=by simp[b5]
mutual
def Tm.size:Tm->Nat
 | .mk _ _ _ _ l=>1+Tm.sizes l
def Tm.sizes:List Tm->Nat
 | []=>0
 |t::l=>t.size+Tm.sizes l
end
theorem Tm.size_pos(t:Tm):0<t.size:=by cases t;simp[Tm.size];omega
theorem Tm.sizes_append(l r):Tm.sizes (l++r)=Tm.sizes l+Tm.sizes r:=by
 induction l with
 |nil=>simp[Tm.sizes]
 |cons t l ih=>simp[Tm.sizes,ih];omega
theorem Tm.size_le{t l}(h:t∈l):t.size<=Tm.sizes l:=by
 induction l with
 |nil=>cases h
 |cons x l ih =>
  simp only[Tm.sizes];rcases zf7z.1 h with rfl|h
  .omega
  .have:=ih h;omega
theorem Tm.length_le(l):l.length<=Tm.sizes l:=by
 induction l with
 |nil=>simp
 |cons x l ih=>have:=x.size_pos;simp only[Tm.sizes,List.length_cons];omega
end Go.Abs
