/- A part of the proof. -/
import Derived.Test.YtjhgilockkmniaaGreatDoorSH14
set_option linter.all false
open Nat renaming le_max_right->zf0z,le_max_left->zf1z,le_refl->zf5z
open Option renaming map_eq_some_iff->zf2z
open List renaming getD->zf3z,set->zf4z
namespace Go.Abs
open Go.RowKit (Below)
structure Le (O O':Orc):Prop where
 pure:∀f args r,O.pure f args=some r->O'.pure f args=some r
 raw:∀f args h r,O.raw f args h=some r->O'.raw f args h=some r
 loop:∀(step step':St->Option (Ex×St)) (s:St) (x:Ex×St),(∀s x,step s=some x->step' s=some x)->O.loop step s=some x->O'.loop step' s=some x
theorem Le.trans {A B C:Orc} (h:Le A B) (k:Le B C):Le A C :=
 ⟨λf a r e=>k.pure f a r (h.pure f a r e),λf a g r e=>k.raw f a g r (h.raw f a g r e),λs s' t x hs e=>k.loop s' s' t x (λ_ _ h=>h) (h.loop s s' t x hs e)⟩
section
variable {O O':Orc} {c:Ctx}
theorem Nv (hO:Le O O') {f:FuncId} {args:C6} {h:AH} {x:AV×AH} (he:DE O c f args h=some x):DE O' c f args h=some x:=by
 unfold DE at he ⊢;split
 .rename_i hr;rw[if_pos hr]at he;obtain⟨y,h1⟩:=TX he;rw[h1]at he;rw[hO.raw _ _ _ _ h1];exact he
 .rename_i hr;rw[if_neg hr]at he;cases has:i4 h true args with
  |none=>rw[has]at he;cases he
  |some aas =>
   rw[has]at he;dsimp only at he ⊢;cases hp:O.pure f aas with
   |none=>rw[hp]at he;cases he
   |some r =>
    rw[hp]at he;rw[hO.pure _ _ _ hp];exact he
theorem Dy (hO:Le O O') {r:ROp} {fr:Fr} {h:AH} {x:AV×AH} (he:A3 O c r fr h=some x):A3 O' c r fr h=some x:=by
 cases r
 case call f aas=>exact Nv hO he
 case callv y aas =>
  simp only[A3]at he ⊢;split at he
  .split at he
   .cases he
   .rename_i hc;rw[if_neg hc];exact Nv hO he
  .cases he
 case len b x=>cases b<;>exact he
 all_goals exact he
theorem GV (hO:Le O O'):∀{C5:List RO} {fr:Fr} {h:AH} {x:Fr×AH},E9 O c C5 fr h=some x->E9 O' c C5 fr h=some x
 | [],_,_,_,he=>he
 |o::C5,fr,h,x,he=>by
  simp only[E9]at he ⊢;cases hw:M7 fr o.guard with
  |none=>rw[hw]at he;cases he
  |some b =>
   rw[hw]at he;cases b with
   |false=>exact GV hO he
   |true =>
    dsimp only at he ⊢;cases U2:A3 O c o.op fr h with
    |none=>rw[U2]at he;cases he
    |some y =>
     rw[U2]at he;rw[Dy hO U2];exact GV hO he
theorem Fb (hO:Le O O'):∀{C5:List RO} {fr:Fr} {h:AH} {x:List Foot×Fr×AH},J4 O c C5 fr h=some x->J4 O' c C5 fr h=some x
 | [],_,_,_,he=>he
 |o::C5,fr,h,x,he=>by
  simp only[J4]at he ⊢;cases hw:M7 fr o.guard with
  |none=>rw[hw]at he;cases he
  |some b =>
   rw[hw]at he;cases b with
   |false =>
    dsimp only at he ⊢;rw[zf2z]at he ⊢;obtain⟨p,hp,e⟩:=he;exact⟨p,Fb hO hp,e⟩
   |true =>
    dsimp only at he ⊢;cases U2:A3 O c o.op fr h with
    |none=>rw[U2]at he;cases he
    |some y =>
     rw[U2]at he;rw[Dy hO U2];dsimp only at he ⊢;rw[zf2z]at he ⊢;obtain⟨p,hp,e⟩:=he;exact⟨p,Fb hO hp,e⟩
theorem By (hO:Le O O'):∀(rc:RCode) (s:St) (x:Ex×St),A4 O c rc s=some x->A4 O' c rc s=some x:=by
 intro rc
 induction rc with
 |skip=>exact λs x he=>he
 |region d C5 =>
  intro s x he;simp only[A4]at he ⊢;cases hs:E9 O c C5 s.1 s.2 with
  |none=>rw[hs]at he;cases he
  |some y=>rw[hs]at he;rw[GV hO hs];exact he
 |regd bs C5 =>
  intro s x he;simp only[A4]at he ⊢;cases hs:J4 O c C5 s.1 (s.2.holes (XG C5))with
  |none=>rw[hs]at he;cases he
  |some y=>rw[hs]at he;rw[Fb hO hs];exact he
 |seq a b iha ihb =>
  intro s x he;simp only[A4]at he ⊢;cases hs:A4 O c a s with
  |none=>rw[hs]at he;cases he
  |some y =>
   rw[hs]at he;rw[iha s y hs];obtain⟨e,s'⟩:=y;cases e with
   |normal=>exact ihb _ _ he
   |exit id=>exact he
   |ret=>exact he
 |cond q a b iha ihb =>
  intro s x he;simp only[A4]at he ⊢;split at he
  .exact iha _ _ he
  .exact ihb _ _ he
  .cases he
 |block id a ih =>
  intro s x he;simp only[A4]at he ⊢;cases hs:A4 O c a s with
  |none=>rw[hs]at he;cases he
  |some y=>rw[hs]at he;rw[ih s y hs];exact he
 |loop a ih=>intro s x he;exact hO.loop _ _ _ _ ih he
 |exit id=>exact λs x he=>he
 |ret=>exact λs x he=>he
 |bad=>exact λs x he=>he
theorem MO {C:Cfg} (hO:Le O O') {f:FuncId} {args:C6} {h:AH} {x:AV×AH} (he:Ge C O f args h=some x):Ge C O' f args h=some x:=by
 unfold Ge at he ⊢;split at he
 .unfold Fu at he ⊢;rename_i rf _;cases hs:A4 O (C.ctx f) rf.body (Ao rf args,h)with
  |none=>rw[hs]at he;cases he
  |some y=>rw[hs]at he;rw[By hO _ _ _ hs];exact he
 .rename_i hc;split at he
  .rename_i s hs;obtain⟨l,h1,h2⟩:=s.fin O args h x he;exact h2 O' λp hp=>hO.pure _ _ _ (h1 p hp)
  .cases he
theorem ZO {C:Cfg} (hO:Le O O') {f:FuncId} {args:C6} {h:AH} {x:AV×AH} (he:Oy C O f args h=some x):Oy C O' f args h=some x:=by
 unfold Oy at he ⊢;cases hr:Ge C O f args h with
 |none=>rw[hr]at he;unfold UZ at he;split at he<;>cases he
 |some y=>rw[hr]at he;rw[MO hO hr];exact he
theorem WO {C:Cfg} (hO:Le O O') {f:FuncId} {args:C6} {x:AV} (he:Em C O f args=some x):Em C O' f args=some x:=by
 unfold Em at he ⊢;split at he
 .exact he
 .cases hs:Ge C O f args AH.empty with
  |none=>rw[hs]at he;cases he
  |some y=>rw[hs]at he;rw[MO hO hs];exact he
end
theorem EB {step step':St->Option (Ex×St)} (hs:∀s x,step s=some x->step' s=some x):∀{n m:Nat},n<=m->∀{s:St} {x:Ex×St},GF step n s=some x->GF step' m s=some x
 |0,_,_,s,x,he=>by simp[GF]at he
 |n+1,0,h,s,x,he=>by omega
 |n+1,m+1,h,s,x,he=>by
  simp only[GF]at he ⊢;cases h1:step s with
  |none=>rw[h1]at he;cases he
  |some y =>
   rw[h1]at he;rw[hs s y h1];obtain⟨e,s'⟩:=y;cases e with
   |normal=>exact EB hs (by omega) he
   |exit id=>exact he
   |ret=>exact he
variable (C:Cfg)
theorem Od:∀n,Le (orc C n) (orc C (n+1))
 |0=>⟨λf a r h=>(nomatch h),λf a g r h=>(nomatch h),λs s' t x _ h=>(nomatch h)⟩
 |n+1=>⟨λf a r h=>WO (Od n) h,λf a g r h=>ZO (Od n) h,λs s' t x hs h=>EB hs (by omega) h⟩
theorem DM:∀{n m:Nat},n<=m->Le (orc C n) (orc C m)
 |n,0,h=>by
  have:n=0:=by omega
  subst this;exact⟨λ_ _ _ h=>h,λ_ _ _ _ h=>h,λs s' t x _ h=>(nomatch h)⟩
 |n,m+1,h=>by
  by_cases hn:n=m+1
  .subst hn;exact⟨λ_ _ _ h=>h,λ_ _ _ _ h=>h,λs s' t x hs h=>EB hs (zf5z _) h⟩
  .exact(DM (by omega)).trans (Od C m)
open Classical in
noncomputable def pc (f:FuncId) (args:List AV):Option AV:=if h:∃n r,(orc C n).pure f args=some r then some h.choose_spec.choose else none
open Classical in
noncomputable def rc (f:FuncId) (args:List AV) (h:AH):Option (AV×AH):=if h:∃n r,(orc C n).raw f args h=some r then some h.choose_spec.choose else none
open Classical in
noncomputable def lp (step:St->Option (Ex×St)) (s:St):Option (Ex×St):=if h:∃n x,GF step n s=some x then some h.choose_spec.choose else none
noncomputable def M3:Orc:=⟨pc C,rc C,lp⟩
theorem Rv {f:FuncId} {args:C6} {r:AV} (h:pc C f args=some r):∃n,(orc C n).pure f args=some r:=by
 unfold pc at h;split at h
 .rename_i hx;cases h;exact⟨hx.choose,hx.choose_spec.choose_spec⟩
 .cases h
theorem WE {n:Nat} {f:FuncId} {args:C6} {r:AV} (h:(orc C n).pure f args=some r):pc C f args=some r:=by
 have hx:∃n r,(orc C n).pure f args=some r:=⟨n,r,h⟩;unfold pc;rw[dif_pos hx];have h1:=(DM C (zf1z n hx.choose)).pure f args r h;have h2:=(DM C (zf0z n hx.choose)).pure f args _ hx.choose_spec.choose_spec;rw[h1]at h2;exact h2.symm
theorem jl {f:FuncId} {args:C6} {h:AH} {r:AV×AH} (he:rc C f args h=some r):∃n,(orc C n).raw f args h=some r:=by
 unfold rc at he;split at he
 .rename_i hx;cases he;exact⟨hx.choose,hx.choose_spec.choose_spec⟩
 .cases he
theorem jV {n:Nat} {f:FuncId} {args:C6} {h:AH} {r:AV×AH} (he:(orc C n).raw f args h=some r):rc C f args h=some r:=by
 have hx:∃n r,(orc C n).raw f args h=some r:=⟨n,r,he⟩;unfold rc;rw[dif_pos hx];have h1:=(DM C (zf1z n hx.choose)).raw f args h r he;have h2:=(DM C (zf0z n hx.choose)).raw f args h _ hx.choose_spec.choose_spec;rw[h1]at h2;exact h2.symm
theorem Ri {step:St->Option (Ex×St)} {s:St} {x:Ex×St} (h:lp step s=some x):∃n,GF step n s=some x:=by
 unfold lp at h;split at h
 .rename_i hx;cases h;exact⟨hx.choose,hx.choose_spec.choose_spec⟩
 .cases h
theorem Nb {step:St->Option (Ex×St)} {n:Nat} {s:St} {x:Ex×St} (h:GF step n s=some x):lp step s=some x:=by
 have hx:∃n x,GF step n s=some x:=⟨n,x,h⟩;unfold lp;rw[dif_pos hx];have h1:=EB (λ_ _ h=>h) (zf1z n hx.choose) h;have h2:=EB (λ_ _ h=>h) (zf0z n hx.choose) hx.choose_spec.choose_spec;rw[h1]at h2;exact h2.symm
theorem ni {step:St->Option (Ex×St)} {s s':St} {x:Ex×St} (h:step s=some (.normal,s')) (k:lp step s'=some x):lp step s=some x:=by
 obtain⟨n,hn⟩:=Ri k;exact Nb (n:=n+1) (by simp only[GF,h];exact hn)
theorem fN {step:St->Option (Ex×St)} {s s':St} {id:Nat} (h:step s=some (.exit id,s')):lp step s=some (.exit id,s'):=Nb (n:=1) (by simp only[GF,h])
theorem jQ {step:St->Option (Ex×St)} {s s':St} (h:step s=some (.ret,s')):lp step s=some (.ret,s'):=Nb (n:=1) (by simp only[GF,h])
theorem OE {c:Ctx} {r:ROp} {fr:Fr} {h:AH} {x:AV×AH} (he:A3 (M3 C) c r fr h=some x):∃n,A3 (orc C n) c r fr h=some x:=by
 have hcall:∀f args,DE (M3 C) c f args h=some x->∃n,DE (orc C n) c f args h=some x:=by
  intro f args he;unfold DE at he ⊢;split at he
  .rename_i hr;obtain⟨y,h1⟩:=TX he;rw[h1]at he;obtain⟨n,hn⟩:=jl C h1;exact⟨n,by rw[if_pos hr,hn];exact he⟩
  .rename_i hr;cases has:i4 h true args with
   |none=>rw[has]at he;cases he
   |some aas =>
    rw[has]at he;dsimp only at he ⊢;cases hp:(M3 C).pure f aas with
    |none=>rw[hp]at he;cases he
    |some r =>
     rw[hp]at he;obtain⟨n,hn⟩:=Rv C hp;exact⟨n,by rw[if_neg hr,hn];exact he⟩
 cases r
 case call f aas=>exact hcall _ _ he
 case callv y aas =>
  simp only[A3]at he ⊢;split at he
  .split at he
   .cases he
   .rename_i hc;obtain⟨n,hn⟩:=hcall _ _ he;exact⟨n,by rw[if_neg hc];exact hn⟩
  .cases he
 case len b x=>cases b<;>exact⟨0,he⟩
 all_goals exact⟨0,he⟩
theorem Ja {c:Ctx}:∀{C5:List RO} {fr:Fr} {h:AH} {x:Fr×AH},E9 (M3 C) c C5 fr h=some x->∃n,E9 (orc C n) c C5 fr h=some x
 | [],_,_,_,he=>⟨0,he⟩
 |o::C5,fr,h,x,he=>by
  simp only[E9]at he ⊢;cases hw:M7 fr o.guard with
  |none=>rw[hw]at he;cases he
  |some b =>
   rw[hw]at he;cases b with
   |false=>exact Ja he
   |true =>
    dsimp only at he ⊢;cases U2:A3 (M3 C) c o.op fr h with
    |none=>rw[U2]at he;cases he
    |some y =>
     rw[U2]at he;obtain⟨n,hn⟩:=OE C U2;obtain⟨m,hm⟩:=Ja he;refine⟨max n m,?_⟩;rw[Dy (DM C (zf1z n m)) hn];exact GV (DM C (zf0z n m)) hm
theorem Il {c:Ctx}:∀{C5:List RO} {fr:Fr} {h:AH} {x:List Foot×Fr×AH},J4 (M3 C) c C5 fr h=some x->∃n,J4 (orc C n) c C5 fr h=some x
 | [],_,_,_,he=>⟨0,he⟩
 |o::C5,fr,h,x,he=>by
  simp only[J4]at he ⊢;cases hw:M7 fr o.guard with
  |none=>rw[hw]at he;cases he
  |some b =>
   rw[hw]at he;cases b with
   |false =>
    dsimp only at he ⊢;rw[zf2z]at he;obtain⟨p,hp,e⟩:=he;obtain⟨n,hn⟩:=Il hp;exact⟨n,by rw[hn,←e];rfl⟩
   |true =>
    dsimp only at he ⊢;cases U2:A3 (M3 C) c o.op fr h with
    |none=>rw[U2]at he;cases he
    |some y =>
     rw[U2]at he;dsimp only at he;rw[zf2z]at he;obtain⟨p,hp,e⟩:=he;obtain⟨n,hn⟩:=OE C U2;obtain⟨m,hm⟩:=Il hp;refine⟨max n m,?_⟩;rw[Dy (DM C (zf1z n m)) hn];dsimp only;rw[Fb (DM C (zf0z n m)) hm,←e];rfl
theorem RK {c:Ctx}:∀(rcode:RCode) (s:St) (x:Ex×St),A4 (M3 C) c rcode s=some x->∃n,A4 (orc C n) c rcode s=some x:=by
 intro rcode
 induction rcode with
 |skip=>exact λs x he=>⟨0,he⟩
 |region d C5 =>
  intro s x he;simp only[A4]at he ⊢;cases hs:E9 (M3 C) c C5 s.1 s.2 with
  |none=>rw[hs]at he;cases he
  |some y =>
   rw[hs]at he;obtain⟨n,hn⟩:=Ja C hs;exact⟨n,by rw[hn];exact he⟩
 |regd bs C5 =>
  intro s x he;simp only[A4]at he ⊢;cases hs:J4 (M3 C) c C5 s.1 (s.2.holes (XG C5))with
  |none=>rw[hs]at he;cases he
  |some y =>
   rw[hs]at he;obtain⟨n,hn⟩:=Il C hs;exact⟨n,by rw[hn];exact he⟩
 |seq a b iha ihb =>
  intro s x he;simp only[A4]at he ⊢;cases hs:A4 (M3 C) c a s with
  |none=>rw[hs]at he;cases he
  |some y =>
   rw[hs]at he;obtain⟨n,hn⟩:=iha s y hs;obtain⟨e,s'⟩:=y;cases e with
   |normal =>
    obtain⟨m,hm⟩:=ihb _ _ he;refine⟨max n m,?_⟩;rw[By (DM C (zf1z n m)) _ _ _ hn];exact By (DM C (zf0z n m)) _ _ _ hm
   |exit id=>exact⟨n,by rw[hn];exact he⟩
   |ret=>exact⟨n,by rw[hn];exact he⟩
 |cond q a b iha ihb =>
  intro s x he;simp only[A4]at he ⊢;split at he
  .exact iha _ _ he
  .exact ihb _ _ he
  .cases he
 |block id a ih =>
  intro s x he;simp only[A4]at he ⊢;cases hs:A4 (M3 C) c a s with
  |none=>rw[hs]at he;cases he
  |some y =>
   rw[hs]at he;obtain⟨n,hn⟩:=ih s y hs;exact⟨n,by rw[hn];exact he⟩
 |loop a ih =>
  intro s x he;simp only[A4]at he ⊢;obtain⟨m,hm⟩:=Ri he;have key:∃n,GF (A4 (orc C n) c a) m s=some x:=by
   clear he
   induction m generalizing s with
   |zero=>simp[GF]at hm
   |succ m ihm =>
    simp only[GF]at hm ⊢;cases h1:A4 (M3 C) c a s with
    |none=>rw[h1]at hm;cases hm
    |some y =>
     rw[h1]at hm;obtain⟨n,hn⟩:=ih s y h1;obtain⟨e,s'⟩:=y;cases e with
     |normal =>
      obtain⟨k,hk⟩:=ihm s' hm;refine⟨max n k,?_⟩;rw[By (DM C (zf1z n k)) _ _ _ hn];exact EB (By (DM C (zf0z n k)) a) (zf5z _) hk
     |exit id=>exact⟨n,by rw[hn];exact hm⟩
     |ret=>exact⟨n,by rw[hn];exact hm⟩
  obtain⟨n,hn⟩:=key;refine⟨max n m+1,?_⟩;show GF _ (max n m+1) s=some x;exact EB (By (DM C (by omega)) a) (by omega) hn
 |exit id=>exact λs x he=>⟨0,he⟩
 |ret=>exact λs x he=>⟨0,he⟩
 |bad=>exact λs x he=>⟨0,he⟩
theorem UN {f:FuncId} {args:C6} {h:AH} {x:AV×AH} (he:Ge C (M3 C) f args h=some x):∃n,Ge C (orc C n) f args h=some x:=by
 unfold Ge at he ⊢;split at he
 .unfold Fu at he ⊢;rename_i rf _;cases hs:A4 (M3 C) (C.ctx f) rf.body (Ao rf args,h)with
  |none=>rw[hs]at he;cases he
  |some y =>
   rw[hs]at he;obtain⟨n,hn⟩:=RK C _ _ _ hs;exact⟨n,by rw[hn];exact he⟩
 .split at he
  .rename_i s hs;obtain⟨l,h1,h2⟩:=s.fin _ args h x he;have key:∀l:List (FuncId×List AV×AV),(∀p∈l,(M3 C).pure p.1 p.2.1=some p.2.2)->∃n,∀p∈l,(orc C n).pure p.1 p.2.1=some p.2.2:=by
    intro l
    induction l with
    |nil=>exact λ_=>⟨0,λp hp=>by simp at hp⟩
    |cons a l ih =>
     intro hl;obtain⟨n,hn⟩:=ih λp hp=>hl p (List.mem_cons_of_mem _ hp);obtain⟨m,hm⟩:=Rv C (hl a (by simp));refine⟨max n m,λp hp=>?_⟩;rcases List.mem_cons.1 hp with rfl|hp
     .exact(DM C (zf0z n m)).pure _ _ _ hm
     .exact(DM C (zf1z n m)).pure _ _ _ (hn p hp)
   obtain⟨n,hn⟩:=key l h1;exact⟨n,h2 _ hn⟩
  .cases he
theorem iD {f:FuncId} {args:C6} {h:AH} {x:AV×AH} (he:Ge C (M3 C) f args h=some x):rc C f args h=some (gG (C.ctx f).rst x):=by
 obtain⟨n,hn⟩:=UN C he;refine jV C (n:=n+1) ?_;show Oy C (orc C n) f args h=_;unfold Oy;rw[hn,MR]
theorem XO {f:FuncId} {args:C6} {x:AV} (he:Em C (M3 C) f args=some x):pc C f args=some x:=by
 unfold Em at he;split at he
 .rename_i s hs;refine WE C (n:=1) ?_;show Em C _ f args=some x;unfold Em;simp only[hs];exact he
 .rename_i hs;cases hr:Ge C (M3 C) f args AH.empty with
  |none=>rw[hr]at he;cases he
  |some y =>
   rw[hr]at he;obtain⟨n,hn⟩:=UN C hr;refine WE C (n:=n+1) ?_;show Em C _ f args=some x;unfold Em;simp only[hs,hn];exact he
theorem UH {P:Program} {C:Cfg} (hC:CfgS P C) {f:FuncId} {args:C6} {r:AV} (h:pc C f args=some r) (w:World) (ok0:Nat->Nat->Prop) (vs:Array Value) (AI:∀b o,ok0 b o->b<w.heap.size) (hG:CS w ok0) (hv:U3 w ok0 args vs.toList) :
  Calls P f vs w λe w'=>∃u,e=.returned u/\Bl w.heap.size w w'/\PV w' (λb o=>ok0 b o\/(w.heap.size<=b/\b<w'.heap.size)) r u:=by
 obtain⟨n,hn⟩:=Rv C h;exact((QZ hC n).1 f args r hn).2 w ok0 vs AI hG hv
end Go.Abs
namespace Go.Abs
def A2 (fr:Fr) (n:Nat):AV:=fr.getD n B3
@[simp] theorem tI (fr:Fr) (n:Nat):get fr (.t n)=A2 fr n:=_root_.id rfl
@[simp] theorem tH (fr:Fr) (v:AV):get fr (.c v)=v:=_root_.id rfl
@[simp] theorem cj (fr:Fr) (d:Nat) (v:AV):put fr (some d) v=zf4z fr d v:=_root_.id rfl
@[simp] theorem ci (fr:Fr) (v:AV):put fr none v=fr:=_root_.id rfl
theorem D3 (fr:Fr) {i j:Nat} (v:AV) (h:i≠j):A2 (zf4z fr i v) j=A2 fr j:=by
 simp[A2,zf3z,List.getElem?_set_ne h]
theorem D6 (fr:Fr) {i j:Nat} (v:AV) (e:i=j) (h:i<fr.length):A2 (zf4z fr i v) j=v:=by
 subst e;simp[A2,zf3z,List.getElem?_set_self h]
def dn (r:Option (AV×AH)) (O:Orc) (c:Ctx) (d:Option Nat) (C5:List RO) (fr:Fr):Option (Fr×AH):=match r with|some (v,h)=>E9 O c C5 (put fr d v) h|none=>none
@[congr] theorem kn {r r':Option (AV×AH)} {O:Orc} {c:Ctx} {d:Option Nat} {C5:List RO} {fr:Fr} (h:r=r'):dn r O c d C5 fr=dn r' O c d C5 fr:=by rw[h]
@[simp] theorem nr (v:AV) (h:AH) (O:Orc) (c:Ctx) (d:Option Nat) (C5:List RO) (fr:Fr):dn (some (v,h)) O c d C5 fr=E9 O c C5 (put fr d v) h:=_root_.id rfl
def dj (b:AV) (w:Bool) (O:Orc) (c:Ctx) (d:Option Nat) (op:ROp) (C5:List RO) (fr:Fr) (h:AH):Option (Fr×AH) :=
 match b with
 | .bool b=>if b=w then dn (A3 O c op fr h) O c d C5 fr else E9 O c C5 (put fr d B3) h
 | .tup _=>E9 O c C5 (put fr d B3) h
 |_=>none
@[congr] theorem kV {b b':AV} {w:Bool} {O:Orc} {c:Ctx} {d:Option Nat} {op:ROp} {C5:List RO} {fr:Fr} {h:AH} (e:b=b'):dj b w O c d op C5 fr h=dj b' w O c d op C5 fr h:=by rw[e]
section
variable (O:Orc) (c:Ctx) (d:Option Nat) (op:ROp) (C5:List RO) (fr:Fr) (h:AH)
@[simp] theorem rh:dj (.bool true) true O c d op C5 fr h=dn (A3 O c op fr h) O c d C5 fr:=_root_.id rfl
@[simp] theorem rd:dj (.bool false) false O c d op C5 fr h=dn (A3 O c op fr h) O c d C5 fr:=_root_.id rfl
@[simp] theorem rg:dj (.bool true) false O c d op C5 fr h=E9 O c C5 (put fr d B3) h:=_root_.id rfl
@[simp] theorem re:dj (.bool false) true O c d op C5 fr h=E9 O c C5 (put fr d B3) h:=_root_.id rfl
@[simp] theorem rn (l:C6) (w:Bool):dj (.tup l) w O c d op C5 fr h=E9 O c C5 (put fr d B3) h:=_root_.id rfl
end
@[simp] theorem lF:B3=.tup []:=_root_.id rfl
def iR (b:AV) (O:Orc) (c:Ctx) (x y:RCode) (fr:Fr) (h:AH):Option (Ex×St):=match b with | .bool true=>A4 O c x (fr,h) | .bool false=>A4 O c y (fr,h)|_=>none
@[congr] theorem kJ {b b':AV} {O:Orc} {c:Ctx} {x y:RCode} {fr:Fr} {h:AH} (e:b=b'):iR b O c x y fr h=iR b' O c x y fr h:=by rw[e]
@[simp] theorem tG (O:Orc) (c:Ctx) (x y:RCode) (fr:Fr) (h:AH):iR (.bool true) O c x y fr h=A4 O c x (fr,h):=_root_.id rfl
@[simp] theorem tF (O:Orc) (c:Ctx) (x y:RCode) (fr:Fr) (h:AH):iR (.bool false) O c x y fr h=A4 O c y (fr,h):=_root_.id rfl
def iF (r:Option (Ex×St)) (O:Orc) (c:Ctx) (y:RCode):Option (Ex×St):=match r with|some (.normal,fr,h)=>A4 O c y (fr,h)|r=>r
@[congr] theorem ky {r r':Option (Ex×St)} {O:Orc} {c:Ctx} {y:RCode} (h:r=r'):iF r O c y=iF r' O c y:=by rw[h]
@[simp] theorem tf (fr:Fr) (h:AH) (O:Orc) (c:Ctx) (y:RCode):iF (some (.normal,fr,h)) O c y=A4 O c y (fr,h):=_root_.id rfl
@[simp] theorem tg (s:St) (O:Orc) (c:Ctx) (y:RCode):iF (some (.ret,s)) O c y=some (.ret,s):=_root_.id rfl
@[simp] theorem td (i:Nat) (s:St) (O:Orc) (c:Ctx) (y:RCode):iF (some (.exit i,s)) O c y=some (.exit i,s):=_root_.id rfl
def fJ (id:Nat) (r:Option (Ex×St)):Option (Ex×St):=match r with|some (.exit i,s)=>if i=id then some (.normal,s)else some (.exit i,s)|r=>r
@[simp] theorem tL (id:Nat) (s:St):fJ id (some (.normal,s))=some (.normal,s):=_root_.id rfl
@[simp] theorem tM (id:Nat) (s:St):fJ id (some (.ret,s))=some (.ret,s):=_root_.id rfl
@[simp] theorem tK (id:Nat) (s:St):fJ id (some (.exit id,s))=some (.normal,s):=by simp[fJ]
def fK {β:Type} (r:Option (Ex×St)) (k:Fr->AH->Option β):Option β:=match r with|some (.normal,fr,h)=>k fr h|some (.ret,fr,h)=>k fr h|_=>none
@[simp] theorem rx {β:Type} (fr:Fr) (h:AH) (k:Fr->AH->Option β):fK (some (.normal,fr,h)) k=k fr h:=_root_.id rfl
@[simp] theorem ry {β:Type} (fr:Fr) (h:AH) (k:Fr->AH->Option β):fK (some (.ret,fr,h)) k=k fr h:=_root_.id rfl
section
variable {O:Orc} {c:Ctx}
@[simp] theorem qq (fr:Fr) (h:AH):E9 O c [] fr h=some (fr,h):=_root_.id rfl
@[simp] theorem od (d:Option Nat) (op:ROp) (C5:List RO) (fr:Fr) (h:AH):E9 O c (⟨d,op,none⟩::C5) fr h=dn (A3 O c op fr h) O c d C5 fr:=by
 simp only[E9,M7,dn];cases A3 O c op fr h with
 |none=>rfl
 |some x=>rfl
@[simp] theorem kv (d:Option Nat) (op:ROp) (s:Nat) (w:Bool) (C5:List RO) (fr:Fr) (h:AH) :
  E9 O c (⟨d,op,some (s,w)⟩::C5) fr h=dj (A2 fr s) w O c d op C5 fr h:=by
 simp only[E9,M7,A2,dj,dn];cases fr.getD s B3 with
 |bool b =>
  dsimp only;cases b<;>cases w<;>simp<;>cases A3 O c op fr h<;>rfl
 |_=>rfl
def nU (r:Option (Fr×AH)):Option (Ex×St):=match r with|some s=>some (.normal,s)|none=>none
@[simp] theorem tQ (s:St):nU (some s)=some (.normal,s):=_root_.id rfl
@[simp] theorem kP (s:St):A4 O c .skip s=some (.normal,s):=_root_.id rfl
@[simp] theorem gk (d:Bool) (ops:List RO) (fr:Fr) (h:AH):A4 O c (.region d ops) (fr,h)=nU (E9 O c ops fr h):=_root_.id rfl
@[simp] theorem mH (a b:RCode) (s:St):A4 O c (.seq a b) s=iF (A4 O c a s) O c b:=by
 simp only[A4,iF];split<;>simp_all
@[simp] theorem kN (q:Opd) (a b:RCode) (fr:Fr) (h:AH):A4 O c (.cond q a b) (fr,h)=iR (get fr q) O c a b fr h:=by
 simp only[A4,iR];cases get fr q with
 |bool b=>cases b<;>rfl
 |_=>rfl
@[simp] theorem ig (id:Nat) (a:RCode) (s:St):A4 O c (.block id a) s=fJ id (A4 O c a s):=by
 simp only[A4,fJ];split<;>simp_all
@[simp] theorem kO (id:Nat) (s:St):A4 O c (.exit id) s=some (.exit id,s):=_root_.id rfl
@[simp] theorem mF (s:St):A4 O c .bad s=none:=_root_.id rfl
@[simp] theorem mG (s:St):A4 O c .ret s=some (.ret,s):=_root_.id rfl
theorem G2 {C:Cfg} (a:RCode) (s:St):A4 (M3 C) c (.loop a) s=lp (A4 (M3 C) c a) s:=_root_.id rfl
end
def nR (ys:Option (List AV)) (k:List AV->Option AV) (tm:Bool) (h:AH):Option (AV×AH) :=
 match ys with|none=>none|some ys=>match k ys with|some r=>if r.scalar||tm then some (r,h)else none|none=>none
theorem XJ {C:Cfg} {c:Ctx} {f:FuncId} (hr:c.raw f=false) (xs:List Opd) (fr:Fr) (h:AH) :
  A3 (M3 C) c (.call f xs) fr h=nR (i4 h true (xs.map (get fr))) (λys=>pc C f ys) ((xs.map (get fr)).all (tame h)) h:=by
 simp only[A3,DE,hr,nR];rw[if_neg (by simp)];cases i4 h true (xs.map (get fr))with
 |none=>rfl
 |some ys =>
  show (match pc C f ys with|none=>none|some r=>_)=_
  cases hp:pc C f ys with
  |none=>simp only[hp]
  |some r=>simp only[hp]
theorem Ts {C:Cfg} {c:Ctx} {f:FuncId} (hr:c.raw f=true) (xs:List Opd) (fr:Fr) (h:AH) :
  A3 (M3 C) c (.call f xs) fr h=YU (c.noB f) h (rc C f (xs.map (get fr)) h):=by
 simp only[A3,DE,hr];rfl
@[simp] theorem tP (h:AH) (r:Option (AV×AH)):YU false h r=r:=_root_.id rfl
@[simp] theorem nT (h:AH) (v:AV) (f:List Fam):YU true h (some (v,⟨h.boxes,f⟩))=some (v,⟨h.boxes,f⟩):=by simp[YU,LN]
def fin (rs:List RRes) (fr:Fr) (h:AH):Option AV:=(Gf fr h rs).bind λvs=>BW h (H4 vs)
theorem Ir {rf:RFunc} {args:C6} (h:args.length<=rf.ntmps):(Ao rf args).length=rf.ntmps/\∀i,A2 (Ao rf args) i=args.getD i B3:=by
 refine⟨by simp[Ao];omega,λi=>?_⟩;simp only[A2,Ao,zf3z];by_cases hi:i<args.length
 .rw[List.getElem?_append_left hi]
 .rw[List.getElem?_append_right (by omega),List.getElem?_eq_none (l:=args) (by omega),List.getElem?_replicate];split<;>rfl
theorem cZ {C:Cfg} {f:FuncId} {rf:RFunc} {args:C6} {r:AV} (hs:C.spec f=none) (hc:C.code f=some rf) (hl:args.length<=rf.ntmps)
  (H:∀fr:Fr,fr.length=rf.ntmps->(∀i,A2 fr i=args.getD i B3)->fK (A4 (M3 C) (C.ctx f) rf.body (fr,⟨[],[]⟩)) (fin rf.results)=some r):pc C f args=some r:=by
 have:=H (Ao rf args) (Ir hl).1 (Ir hl).2;apply XO;unfold Em Ge;simp only[hs,hc];unfold Fu fK fin at *
 cases he:A4 (M3 C) (C.ctx f) rf.body (Ao rf args,AH.empty)with
 |none=>rw[show (⟨[],[]⟩:AH)=AH.empty from rfl,he]at this;cases this
 |some x =>
  rw[show (⟨[],[]⟩:AH)=AH.empty from rfl,he]at this;obtain⟨e,fr,h⟩:=x;cases e with
  |exit i=>cases this
  |normal=>cases hr:Gf fr h rf.results with|none=>simp[hr]at this|some vs=>simpa[hr]using this
  |ret=>cases hr:Gf fr h rf.results with|none=>simp[hr]at this|some vs=>simpa[hr]using this
end Go.Abs
