/- Laws by which simp carries out single operations; terms and lists as abstract values. -/
import Derived.Test.YtpkegmgepnhfnaaVL4
/- Code, loops, calls: the abstract interpreter is sound. -/
namespace Go.Abs
open Go.RowKit (Below)

def exOf : Ex → Exit
  | .normal => .normal
  | .exit id => .exit id
  | .ret => .ret

/-- A loop that ends has ended after some rounds. -/
def LoopS (O : Orc) : Prop := ∀ (step : St → Option (Ex × St)) (s : St) (x : Ex × St), O.loop step s = some x → ∃ n, iter step n s = some x

section
variable {P : Program} {O : Orc} {c : Ctx}

theorem code_sound (hP : PureS P O) (hR : RawS P O) (hL : LoopS O) (hm : P.follows .mixedOrders = true) :
    ∀ (code : Code) (rc : RCode), resCode P c code = some rc → ∀ (E : Env) (fr : Fr) (a : Act), SR E → FR E fr a.tmps → ∀ (ex : Ex) (fr' : Fr) (h' : AH), evalCode O c rc (fr, E.h) = some (ex, (fr', h')) →
      ∀ Q : Exit → Act → World → Prop, (∀ a' E', Ext E E' → SR E' → E'.h = h' → FR E' fr' a'.tmps → a'.defers = a.defers → Q (exOf ex) a' E'.w) → code.wp P Q a E.w := by
  intro code
  induction code with
  | skip =>
    intro rc hr E fr a hS hf ex fr' h' hev Q hQ
    simp only [resCode] at hr; cases hr
    simp only [evalCode] at hev; cases hev
    exact wp_skip (hQ a E (Ext.refl E) hS rfl hf rfl)
  | region id ops draw =>
    intro rc hr E fr a hS hf ex fr' h' hev Q hQ
    have hr' := hr
    simp only [resCode] at hr'
    obtain ⟨d, ros, rfl⟩ : ∃ d ros, rc = .region d ros := by
      split at hr'
      · split at hr'
        · cases hr'; exact ⟨_, _, rfl⟩
        · split at hr'
          · cases hr'; exact ⟨_, _, rfl⟩
          · cases hr'
      · cases hr'
    simp only [evalCode] at hev
    split at hev
    · rename_i s hs
      cases hev
      exact region_sound hP hR hm hr hS hf hs hQ
    · cases hev
  | seq x y ihx ihy =>
    intro rc hr E fr a hS hf ex fr' h' hev Q hQ
    simp only [resCode] at hr
    split at hr
    · rename_i x' y' hx hy
      cases hr
      simp only [evalCode] at hev
      refine wp_seq ?_
      split at hev
      · rename_i s hs
        obtain ⟨fr1, h1⟩ := s
        refine ihx x' hx E fr a hS hf .normal fr1 h1 hs _ fun a' E' k1 k2 k3 k4 k5 => ?_
        show y.wp P Q a' E'.w
        refine ihy y' hy E' fr1 a' k2 k4 ex fr' h' (by rw [k3]; exact hev) Q fun a'' E'' m1 m2 m3 m4 m5 => ?_
        exact hQ a'' E'' (k1.trans m1) m2 m3 m4 (m5.trans k5)
      · rename_i hne
        refine ihx x' hx E fr a hS hf ex fr' h' hev _ fun a' E' k1 k2 k3 k4 k5 => ?_
        have := hQ a' E' k1 k2 k3 k4 k5
        cases ex with
        | normal => exact absurd hev (hne _)
        | exit id => exact this
        | ret => exact this
    · cases hr
  | cond q x y ihx ihy =>
    intro rc hr E fr a hS hf ex fr' h' hev Q hQ
    simp only [resCode] at hr
    split at hr
    · rename_i q' x' y' hq hx hy
      cases hr
      simp only [evalCode] at hev
      have hv := opd_sound hf hq
      split at hev
      · rename_i hg
        rw [hg] at hv
        simp only [VR] at hv
        exact wp_cond_true hv (ihx x' hx E fr a hS hf ex fr' h' hev Q hQ)
      · rename_i hg
        rw [hg] at hv
        simp only [VR] at hv
        exact wp_cond_false hv (ihy y' hy E fr a hS hf ex fr' h' hev Q hQ)
      · cases hev
    · cases hr
  | block id x ih =>
    intro rc hr E fr a hS hf ex fr' h' hev Q hQ
    simp only [resCode, Option.map_eq_some_iff] at hr
    obtain ⟨x', hx, rfl⟩ := hr
    simp only [evalCode] at hev
    refine wp_block ?_
    split at hev
    · rename_i id' s hs
      obtain ⟨fr1, h1⟩ := s
      refine ih x' hx E fr a hS hf (.exit id') fr1 h1 hs _ fun a' E' k1 k2 k3 k4 k5 => ?_
      show if id' = id then Q .normal a' E'.w else Q (.exit id') a' E'.w
      split at hev
      · rename_i he
        cases hev
        rw [if_pos he]
        exact hQ a' E' k1 k2 k3 k4 k5
      · rename_i he
        cases hev
        rw [if_neg he]
        exact hQ a' E' k1 k2 k3 k4 k5
    · rename_i hne
      refine ih x' hx E fr a hS hf ex fr' h' hev _ fun a' E' k1 k2 k3 k4 k5 => ?_
      have := hQ a' E' k1 k2 k3 k4 k5
      cases ex with
      | normal => exact this
      | exit id' => exact absurd hev (hne _ _)
      | ret => exact this
  | loop x ih =>
    intro rc hr E fr a hS hf ex fr' h' hev Q hQ
    simp only [resCode, Option.map_eq_some_iff] at hr
    obtain ⟨x', hx, rfl⟩ := hr
    simp only [evalCode] at hev
    obtain ⟨n, hn⟩ := hL _ _ _ hev
    refine wp_loop_rounds n ?_
    clear hev
    induction n generalizing E fr a with
    | zero => simp only [iter] at hn; cases hn
    | succ n ihn =>
      simp only [iter] at hn
      rw [rounds_succ]
      split at hn
      · rename_i s hs
        obtain ⟨fr1, h1⟩ := s
        refine ih x' hx E fr a hS hf .normal fr1 h1 hs _ fun a' E' k1 k2 k3 k4 k5 => ?_
        show Code.rounds P x Q n a' E'.w
        exact ihn E' fr1 a' k2 k4 (fun a'' E'' m1 m2 m3 m4 m5 => hQ a'' E'' (k1.trans m1) m2 m3 m4 (m5.trans k5)) (by rw [k3]; exact hn)
      · rename_i hne
        refine ih x' hx E fr a hS hf ex fr' h' hn _ fun a' E' k1 k2 k3 k4 k5 => ?_
        have := hQ a' E' k1 k2 k3 k4 k5
        cases ex with
        | normal => exact absurd hn (hne _)
        | exit id => exact this
        | ret => exact this
  | exit id =>
    intro rc hr E fr a hS hf ex fr' h' hev Q hQ
    simp only [resCode] at hr; cases hr
    simp only [evalCode] at hev; cases hev
    exact wp_exit (hQ a E (Ext.refl E) hS rfl hf rfl)
  | ret =>
    intro rc hr E fr a hS hf ex fr' h' hev Q hQ
    simp only [resCode] at hr; cases hr
    simp only [evalCode] at hev; cases hev
    exact wp_ret (hQ a E (Ext.refl E) hS rfl hf rfl)
  | rangeFunc _ _ _ _ _ _ => intro rc hr; simp [resCode] at hr
  | scope _ _ => intro rc hr; simp [resCode] at hr
  | label _ => intro rc hr; simp [resCode] at hr
  | goto _ => intro rc hr; simp [resCode] at hr
  | refuse _ => intro rc hr; simp [resCode] at hr

theorem start_FR {E : Env} {args : List AV} {vs : Array Value} (hv : VRs E args vs.toList) (rf : RFunc) : FR E (startFr rf args) (vs ++ Array.replicate (rf.ntmps - vs.size) undef) := by
  obtain ⟨hl, hg⟩ := VRs_get hv
  have hl' : vs.size = args.length := by simpa using hl
  refine ⟨by simp [startFr, hl'], fun t => ?_⟩
  unfold startFr
  by_cases ht : t < args.length
  · obtain ⟨u, h1, h2⟩ := hg (List.getElem?_eq_getElem ht)
    have e1 : (args ++ List.replicate (rf.ntmps - args.length) undefA).getD t undefA = args[t] := by simp [List.getD, List.getElem?_append_left ht, ht]
    have e2 : (vs ++ Array.replicate (rf.ntmps - vs.size) undef).getD t undef = u := by
      rw [Array.getD_eq_getD_getElem?, Array.getElem?_append_left (by omega)]
      rw [Array.getElem?_toList] at h1
      rw [h1]; rfl
    rw [e1, e2]; exact h2
  · have e1 : (args ++ List.replicate (rf.ntmps - args.length) undefA).getD t undefA = undefA := by
      rw [List.getD, List.getElem?_append_right (by omega), List.getElem?_replicate]
      split <;> rfl
    have e2 : (vs ++ Array.replicate (rf.ntmps - vs.size) undef).getD t undef = undef := by
      rw [Array.getD_eq_getD_getElem?, Array.getElem?_append_right (by omega), Array.getElem?_replicate]
      split <;> rfl
    rw [e1, e2]; exact VR_undef E

theorem results_sound {E : Env} {fr : Fr} {tmps : Array Value} (hS : SR E) (hf : FR E fr tmps) (g : ResultVar → Sem Value) (g1 : ∀ t, g (.tmp t) = pure (tmps.getD t undef)) (g2 : ∀ a t, g (.cell a t) = (do loadVar t (← asAddr (tmps.getD a undef)))) : ∀ {rs : List ResultVar} {rrs : List RRes} {vs : List AV}, mapO (resRes P) rs = some rrs → resA fr E.h rrs = some vs →
    ∃ us : List Value, (rs.mapM g).run P E.w = .ok us E.w ∧ VRs E vs us
  | [], rrs, vs, hr, he => by
    simp [mapO] at hr; subst hr
    simp [resA] at he; subst he
    exact ⟨[], by simp, by simp [VRs]⟩
  | r :: rs, rrs, vs, hr, he => by
    simp only [mapO] at hr
    split at hr
    · rename_i rr rrs' h1 h2
      cases hr
      cases r with
      | tmp t =>
        simp only [resRes] at h1; cases h1
        simp only [resA, Option.map_eq_some_iff] at he
        obtain ⟨vs', hvs', rfl⟩ := he
        obtain ⟨us, u1, u2⟩ := results_sound hS hf g g1 g2 h2 hvs'
        refine ⟨tmps.getD t undef :: us, ?_, by simp only [VRs]; exact ⟨_, _, rfl, hf.val t, u2⟩⟩
        rw [List.mapM_cons, g1]
        simp only [Sem.run_bind, Sem.run_pure, Result.andThen_ok]
        rw [u1]
        simp
      | cell a t =>
        simp only [resRes] at h1
        split at h1
        · rename_i b n hb hn
          cases h1
          simp only [resA, Option.bind_eq_some_iff, Option.map_eq_some_iff] at he
          obtain ⟨v, hv, vs', hvs', rfl⟩ := he
          obtain ⟨us, u1, u2⟩ := results_sound hS hf g g1 g2 h2 hvs'
          obtain ⟨bl, of, cs, e1, e2, e3⟩ := loadA_cells hS (hf.val a) hv
          obtain ⟨u, h3, h4⟩ := run_load_cells (P := P) e2 e3 hb hn
          refine ⟨u :: us, ?_, by simp only [VRs]; exact ⟨_, _, rfl, h4, u2⟩⟩
          rw [List.mapM_cons, g2]
          have hadr : (asAddr (tmps.getD a undef)).run P E.w = .ok ⟨bl, of, none⟩ E.w := by rw [e1]; rfl
          simp only [Sem.run_bind, hadr, Sem.run_pure, Result.andThen_ok, h3]
          rw [u1]
          simp
        · cases h1
    · cases hr

theorem tupled_VR {E : Env} {vs : List AV} {us : List Value} (h : VRs E vs us) : VR E (tupled vs) (if h : us.toArray.size = 1 then us.toArray[0] else .tuple us.toArray) := by
  cases vs with
  | nil =>
    simp only [VRs] at h; subst h
    simp [tupled, VR, VRs]
  | cons v vs =>
    simp only [VRs] at h
    obtain ⟨u, us', rfl, h1, h2⟩ := h
    cases vs with
    | nil =>
      simp only [VRs] at h2; subst h2
      simpa [tupled] using h1
    | cons v' vs =>
      simp only [VRs] at h2
      obtain ⟨u', us'', rfl, h3, h4⟩ := h2
      simp only [tupled]
      rw [dif_neg (by simp)]
      simp only [VR]
      refine ⟨_, rfl, ?_⟩
      simp only [VRs]
      exact ⟨u, _, rfl, h1, u', us'', rfl, h3, h4⟩

end

/-- A function's text, resolved, and its settings, are this program's. -/
structure CfgS (P : Program) (C : Cfg) : Prop where
  code : ∀ f rf, C.code f = some rf → resFunc P C.ctx f = some rf
  spec : ∀ (f : FuncId) (s : List AV → Option AV), C.spec f = some s → ∀ (args : List AV) (r : AV), s args = some r → Program.enterable P f = true ∧
    ∀ (w : World) (ok0 : Nat → Nat → Prop) (vs : Array Value), (∀ b o, ok0 b o → b < w.heap.size) → PVs w ok0 args vs.toList →
      Calls P f vs w fun e w' => ∃ u, e = .returned u ∧ Below w.heap.size w w' ∧ PV w' (fun b o => ok0 b o ∨ (w.heap.size ≤ b ∧ b < w'.heap.size)) r u
  mixed : P.follows .mixedOrders = true

section
variable {P : Program} {C : Cfg} {O : Orc}

theorem rawA_sound (hC : CfgS P C) (hP : PureS P O) (hR : RawS P O) (hL : LoopS O) {f : FuncId} {args : List AV} {h h' : AH} {r : AV} (he : rawA C O f args h = some (r, h')) :
    Program.enterable P f = true ∧ ∀ (E : Env) (vs : Array Value), SR E → E.h = h → VRs E args vs.toList →
      Calls P f vs E.w fun e w' => ∃ u E', e = .returned u ∧ w' = E'.w ∧ Ext E E' ∧ SR E' ∧ E'.h = h' ∧ VR E' r u := by
  unfold rawA at he
  split at he
  · rename_i rf hrf
    have h1 := hC.code f rf hrf
    unfold resFunc at h1
    split at h1
    · rename_i hent
      refine ⟨hent, fun E vs hS hh hv => ?_⟩
      split at h1
      · rename_i fn hfn
        split at h1
        · rename_i b hb
          split at h1
          · rename_i rs rb hrs hrb
            cases h1
            refine calls_of_wp hfn hb ?_
            subst hh
            -- the end of the body, on either of its two ways
            have fin : ∀ (s : St) (a' : Act) (E' : Env), Ext E E' → SR E' → E'.h = s.2 → FR E' s.1 a'.tmps → a'.defers = [] → (resA s.1 s.2 rs).map (fun vs => (tupled vs, s.2)) = some (r, h') →
                a'.defers = [] ∧ ∃ v, (results fn a'.tmps).run P E'.w = .ok v E'.w ∧ ∃ u E'', Ending.returned v = .returned u ∧ E'.w = E''.w ∧ Ext E E'' ∧ SR E'' ∧ E''.h = h' ∧ VR E'' r u := by
              intro s a' E' k1 k2 k3 k4 k5 k6
              simp only [Option.map_eq_some_iff] at k6
              obtain ⟨avs, k7, k8⟩ := k6
              cases k8
              rw [← k3] at k7
              obtain ⟨us, u1, u2⟩ := results_sound (P := P) k2 k4 (fun | .tmp t => pure (a'.tmps.getD t undef) | .cell a t => do loadVar t (← asAddr (a'.tmps.getD a undef))) (fun _ => rfl) (fun _ _ => rfl) hrs k7
              refine ⟨k5, _, ?_, _, E', rfl, rfl, k1, k2, k3, tupled_VR u2⟩
              unfold results
              rw [Array.mapM_eq_mapM_toList]
              simp only [bind_map_left, Sem.run_bind]
              refine Eq.trans (congrArg (fun r => Result.andThen r _) u1) ?_
              rfl
            unfold evalBody at he
            split at he
            · rename_i s hs
              refine code_sound hP hR hL hC.mixed b rb hrb E _ _ hS (start_FR hv ⟨fn.ntmps, rs, rb⟩) .normal s.1 s.2 hs _ fun a' E' k1 k2 k3 k4 k5 => ?_
              exact fin s a' E' k1 k2 k3 k4 k5 he
            · rename_i s hs
              refine code_sound hP hR hL hC.mixed b rb hrb E _ _ hS (start_FR hv ⟨fn.ntmps, rs, rb⟩) .ret s.1 s.2 hs _ fun a' E' k1 k2 k3 k4 k5 => ?_
              exact fin s a' E' k1 k2 k3 k4 k5 he
            · cases he
          · cases h1
        · cases h1
      · cases h1
    · cases h1
  · cases he

theorem pureA_sound (hC : CfgS P C) (hP : PureS P O) (hR : RawS P O) (hL : LoopS O) {f : FuncId} {args : List AV} {r : AV} (he : pureA C O f args = some r) :
    Program.enterable P f = true ∧ ∀ (w : World) (ok0 : Nat → Nat → Prop) (vs : Array Value), (∀ b o, ok0 b o → b < w.heap.size) → PVs w ok0 args vs.toList →
      Calls P f vs w fun e w' => ∃ u, e = .returned u ∧ Below w.heap.size w w' ∧ PV w' (fun b o => ok0 b o ∨ (w.heap.size ≤ b ∧ b < w'.heap.size)) r u := by
  unfold pureA at he
  split at he
  · rename_i s hs
    exact hC.spec f s hs args r he
  · split at he
    · rename_i r0 h0 hr
      obtain ⟨h1, h2⟩ := rawA_sound hC hP hR hL hr
      refine ⟨h1, fun w ok0 vs hok hv => ?_⟩
      have hS : SR ⟨w, w.heap.size, ok0, fun _ => 0, fun _ => ⟨0, 0, 0, 0⟩, AH.empty⟩ :=
        ⟨Nat.le_refl _, fun i cs hi => by simp [AH.empty] at hi, fun k f hk => by simp [AH.empty] at hk, fun i j hi => by simp [AH.empty] at hi, fun i j hi => by simp [AH.empty] at hi, fun i j hi => by simp [AH.empty] at hi⟩
      have hv' : VRs ⟨w, w.heap.size, ok0, fun _ => 0, fun _ => ⟨0, 0, 0, 0⟩, AH.empty⟩ args vs.toList :=
        VRs_of_PVs _ _ (PVs_mono (fun b o ho => ⟨.inl ⟨hok b o ho, ho⟩, rfl⟩) _ _ hv)
      refine (h2 _ vs hS rfl hv').mono fun e w' ⟨u, E', k1, k2, k3, k4, k5, k6⟩ => ?_
      subst k2
      refine ⟨u, k1, k3.below, ?_⟩
      rw [← k5] at he
      have hbase : E'.base = w.heap.size := k3.base
      have hok0 : E'.ok0 = ok0 := k3.ok0
      refine frzRes_sound k4 ⟨fun b o ho => ?_, fun _ b o hb hlt => .inr ⟨by rw [← hbase]; exact hb, hlt⟩⟩ k6 he
      rcases ho with ⟨_, ho⟩ | ⟨ho1, ho2, _⟩
      · rw [hok0] at ho; exact .inl ho
      · rw [hbase] at ho1; exact .inr ⟨ho1, ho2⟩
    · cases he

theorem orc_sound (hC : CfgS P C) : ∀ n, PureS P (orc C n) ∧ RawS P (orc C n) ∧ LoopS (orc C n)
  | 0 => ⟨fun f args r h => (nomatch h), fun f args h r h' he => (nomatch he), fun step s x h => (nomatch h)⟩
  | n + 1 => by
    obtain ⟨h1, h2, h3⟩ := orc_sound hC n
    exact ⟨fun f args r he => pureA_sound hC h1 h2 h3 he, fun f args h r h' he => rawA_sound hC h1 h2 h3 he, fun step s x he => ⟨n + 1, he⟩⟩

end
end Go.Abs

/- The limit of the oracles: calls as partial functions, without fuel. -/
namespace Go.Abs
open Go.RowKit (Below)

/-- O' answers whatever O answers. -/
structure Le (O O' : Orc) : Prop where
  pure : ∀ f args r, O.pure f args = some r → O'.pure f args = some r
  raw : ∀ f args h r, O.raw f args h = some r → O'.raw f args h = some r
  loop : ∀ (step step' : St → Option (Ex × St)) (s : St) (x : Ex × St), (∀ s x, step s = some x → step' s = some x) → O.loop step s = some x → O'.loop step' s = some x

theorem Le.trans {A B C : Orc} (h : Le A B) (k : Le B C) : Le A C :=
  ⟨fun f a r e => k.pure f a r (h.pure f a r e), fun f a g r e => k.raw f a g r (h.raw f a g r e), fun s s' t x hs e => k.loop s' s' t x (fun _ _ h => h) (h.loop s s' t x hs e)⟩

section
variable {O O' : Orc} {c : Ctx}

theorem callA_mono (hO : Le O O') {f : FuncId} {args : List AV} {h : AH} {x : AV × AH} (he : callA O c f args h = some x) : callA O' c f args h = some x := by
  unfold callA at he ⊢
  split
  · rename_i hr; rw [if_pos hr] at he; exact hO.raw _ _ _ _ he
  · rename_i hr
    rw [if_neg hr] at he
    cases has : frzAll h true args with
    | none => rw [has] at he; cases he
    | some aas =>
      rw [has] at he
      dsimp only at he ⊢
      cases hp : O.pure f aas with
      | none => rw [hp] at he; cases he
      | some r =>
        rw [hp] at he
        rw [hO.pure _ _ _ hp]
        exact he

theorem evalOp_mono (hO : Le O O') {r : ROp} {fr : Fr} {h : AH} {x : AV × AH} (he : evalOp O c r fr h = some x) : evalOp O' c r fr h = some x := by
  cases r
  case call f aas => exact callA_mono hO he
  case callv y aas =>
    simp only [evalOp] at he ⊢
    split at he
    · exact callA_mono hO he
    · cases he
  case len b x => cases b <;> exact he
  all_goals exact he

theorem evalOps_mono (hO : Le O O') : ∀ {ros : List RO} {fr : Fr} {h : AH} {x : Fr × AH}, evalOps O c ros fr h = some x → evalOps O' c ros fr h = some x
  | [], _, _, _, he => he
  | o :: ros, fr, h, x, he => by
    simp only [evalOps] at he ⊢
    cases hw : wantedA fr o.guard with
    | none => rw [hw] at he; cases he
    | some b =>
      rw [hw] at he
      cases b with
      | false => exact evalOps_mono hO he
      | true =>
        dsimp only at he ⊢
        cases hop : evalOp O c o.op fr h with
        | none => rw [hop] at he; cases he
        | some y =>
          rw [hop] at he
          rw [evalOp_mono hO hop]
          exact evalOps_mono hO he

theorem evalCode_mono (hO : Le O O') : ∀ (rc : RCode) (s : St) (x : Ex × St), evalCode O c rc s = some x → evalCode O' c rc s = some x := by
  intro rc
  induction rc with
  | skip => exact fun s x he => he
  | region d ros =>
    intro s x he
    simp only [evalCode] at he ⊢
    cases hs : evalOps O c ros s.1 s.2 with
    | none => rw [hs] at he; cases he
    | some y => rw [hs] at he; rw [evalOps_mono hO hs]; exact he
  | seq a b iha ihb =>
    intro s x he
    simp only [evalCode] at he ⊢
    cases hs : evalCode O c a s with
    | none => rw [hs] at he; cases he
    | some y =>
      rw [hs] at he
      rw [iha s y hs]
      obtain ⟨e, s'⟩ := y
      cases e with
      | normal => exact ihb _ _ he
      | exit id => exact he
      | ret => exact he
  | cond q a b iha ihb =>
    intro s x he
    simp only [evalCode] at he ⊢
    split at he
    · exact iha _ _ he
    · exact ihb _ _ he
    · cases he
  | block id a ih =>
    intro s x he
    simp only [evalCode] at he ⊢
    cases hs : evalCode O c a s with
    | none => rw [hs] at he; cases he
    | some y => rw [hs] at he; rw [ih s y hs]; exact he
  | loop a ih => intro s x he; exact hO.loop _ _ _ _ ih he
  | exit id => exact fun s x he => he
  | ret => exact fun s x he => he

theorem rawA_mono {C : Cfg} (hO : Le O O') {f : FuncId} {args : List AV} {h : AH} {x : AV × AH} (he : rawA C O f args h = some x) : rawA C O' f args h = some x := by
  unfold rawA at he ⊢
  split at he
  · unfold evalBody at he ⊢
    rename_i rf _
    cases hs : evalCode O (C.ctx f) rf.body (startFr rf args, h) with
    | none => rw [hs] at he; cases he
    | some y => rw [hs] at he; rw [evalCode_mono hO _ _ _ hs]; exact he
  · cases he

theorem pureA_mono {C : Cfg} (hO : Le O O') {f : FuncId} {args : List AV} {x : AV} (he : pureA C O f args = some x) : pureA C O' f args = some x := by
  unfold pureA at he ⊢
  split at he
  · exact he
  · cases hs : rawA C O f args AH.empty with
    | none => rw [hs] at he; cases he
    | some y => rw [hs] at he; rw [rawA_mono hO hs]; exact he
end

theorem iter_mono {step step' : St → Option (Ex × St)} (hs : ∀ s x, step s = some x → step' s = some x) : ∀ {n m : Nat}, n ≤ m → ∀ {s : St} {x : Ex × St}, iter step n s = some x → iter step' m s = some x
  | 0, _, _, s, x, he => by simp [iter] at he
  | n + 1, 0, h, s, x, he => by omega
  | n + 1, m + 1, h, s, x, he => by
    simp only [iter] at he ⊢
    cases h1 : step s with
    | none => rw [h1] at he; cases he
    | some y =>
      rw [h1] at he
      rw [hs s y h1]
      obtain ⟨e, s'⟩ := y
      cases e with
      | normal => exact iter_mono hs (by omega) he
      | exit id => exact he
      | ret => exact he

variable (C : Cfg)

theorem orc_step : ∀ n, Le (orc C n) (orc C (n + 1))
  | 0 => ⟨fun f a r h => (nomatch h), fun f a g r h => (nomatch h), fun s s' t x _ h => (nomatch h)⟩
  | n + 1 => ⟨fun f a r h => pureA_mono (orc_step n) h, fun f a g r h => rawA_mono (orc_step n) h, fun s s' t x hs h => iter_mono hs (by omega) h⟩

theorem orc_le : ∀ {n m : Nat}, n ≤ m → Le (orc C n) (orc C m)
  | n, 0, h => by
    have : n = 0 := by omega
    subst this
    exact ⟨fun _ _ _ h => h, fun _ _ _ _ h => h, fun s s' t x _ h => (nomatch h)⟩
  | n, m + 1, h => by
    by_cases hn : n = m + 1
    · subst hn
      exact ⟨fun _ _ _ h => h, fun _ _ _ _ h => h, fun s s' t x hs h => iter_mono hs (Nat.le_refl _) h⟩
    · exact (orc_le (by omega)).trans (orc_step C m)

open Classical in
/-- A call of a pure function. -/
noncomputable def pc (f : FuncId) (args : List AV) : Option AV := if h : ∃ n r, (orc C n).pure f args = some r then some h.choose_spec.choose else none
open Classical in
/-- A call of a function that shares the heap. -/
noncomputable def rc (f : FuncId) (args : List AV) (h : AH) : Option (AV × AH) := if h : ∃ n r, (orc C n).raw f args h = some r then some h.choose_spec.choose else none
open Classical in
/-- A loop. -/
noncomputable def lp (step : St → Option (Ex × St)) (s : St) : Option (Ex × St) := if h : ∃ n x, iter step n s = some x then some h.choose_spec.choose else none

noncomputable def lim : Orc := ⟨pc C, rc C, lp⟩

theorem pc_orc {f : FuncId} {args : List AV} {r : AV} (h : pc C f args = some r) : ∃ n, (orc C n).pure f args = some r := by
  unfold pc at h
  split at h
  · rename_i hx
    cases h
    exact ⟨hx.choose, hx.choose_spec.choose_spec⟩
  · cases h

theorem orc_pc {n : Nat} {f : FuncId} {args : List AV} {r : AV} (h : (orc C n).pure f args = some r) : pc C f args = some r := by
  have hx : ∃ n r, (orc C n).pure f args = some r := ⟨n, r, h⟩
  unfold pc
  rw [dif_pos hx]
  have h1 := (orc_le C (Nat.le_max_left n hx.choose)).pure f args r h
  have h2 := (orc_le C (Nat.le_max_right n hx.choose)).pure f args _ hx.choose_spec.choose_spec
  rw [h1] at h2
  exact h2.symm

theorem rc_orc {f : FuncId} {args : List AV} {h : AH} {r : AV × AH} (he : rc C f args h = some r) : ∃ n, (orc C n).raw f args h = some r := by
  unfold rc at he
  split at he
  · rename_i hx
    cases he
    exact ⟨hx.choose, hx.choose_spec.choose_spec⟩
  · cases he

theorem orc_rc {n : Nat} {f : FuncId} {args : List AV} {h : AH} {r : AV × AH} (he : (orc C n).raw f args h = some r) : rc C f args h = some r := by
  have hx : ∃ n r, (orc C n).raw f args h = some r := ⟨n, r, he⟩
  unfold rc
  rw [dif_pos hx]
  have h1 := (orc_le C (Nat.le_max_left n hx.choose)).raw f args h r he
  have h2 := (orc_le C (Nat.le_max_right n hx.choose)).raw f args h _ hx.choose_spec.choose_spec
  rw [h1] at h2
  exact h2.symm

theorem lp_iter {step : St → Option (Ex × St)} {s : St} {x : Ex × St} (h : lp step s = some x) : ∃ n, iter step n s = some x := by
  unfold lp at h
  split at h
  · rename_i hx
    cases h
    exact ⟨hx.choose, hx.choose_spec.choose_spec⟩
  · cases h

theorem iter_lp {step : St → Option (Ex × St)} {n : Nat} {s : St} {x : Ex × St} (h : iter step n s = some x) : lp step s = some x := by
  have hx : ∃ n x, iter step n s = some x := ⟨n, x, h⟩
  unfold lp
  rw [dif_pos hx]
  have h1 := iter_mono (fun _ _ h => h) (Nat.le_max_left n hx.choose) h
  have h2 := iter_mono (fun _ _ h => h) (Nat.le_max_right n hx.choose) hx.choose_spec.choose_spec
  rw [h1] at h2
  exact h2.symm

/-- A loop goes one round, and then on. -/
theorem lp_go {step : St → Option (Ex × St)} {s s' : St} {x : Ex × St} (h : step s = some (.normal, s')) (k : lp step s' = some x) : lp step s = some x := by
  obtain ⟨n, hn⟩ := lp_iter k
  exact iter_lp (n := n + 1) (by simp only [iter, h]; exact hn)
theorem lp_exit {step : St → Option (Ex × St)} {s s' : St} {id : Nat} (h : step s = some (.exit id, s')) : lp step s = some (.exit id, s') := iter_lp (n := 1) (by simp only [iter, h])
theorem lp_ret {step : St → Option (Ex × St)} {s s' : St} (h : step s = some (.ret, s')) : lp step s = some (.ret, s') := iter_lp (n := 1) (by simp only [iter, h])

theorem evalOp_lim {c : Ctx} {r : ROp} {fr : Fr} {h : AH} {x : AV × AH} (he : evalOp (lim C) c r fr h = some x) : ∃ n, evalOp (orc C n) c r fr h = some x := by
  have hcall : ∀ f args, callA (lim C) c f args h = some x → ∃ n, callA (orc C n) c f args h = some x := by
    intro f args he
    unfold callA at he ⊢
    split at he
    · rename_i hr
      obtain ⟨n, hn⟩ := rc_orc C he
      exact ⟨n, by rw [if_pos hr]; exact hn⟩
    · rename_i hr
      cases has : frzAll h true args with
      | none => rw [has] at he; cases he
      | some aas =>
        rw [has] at he
        dsimp only at he ⊢
        cases hp : (lim C).pure f aas with
        | none => rw [hp] at he; cases he
        | some r =>
          rw [hp] at he
          obtain ⟨n, hn⟩ := pc_orc C hp
          exact ⟨n, by rw [if_neg hr, hn]; exact he⟩
  cases r
  case call f aas => exact hcall _ _ he
  case callv y aas =>
    simp only [evalOp] at he ⊢
    split at he
    · exact hcall _ _ he
    · cases he
  case len b x => cases b <;> exact ⟨0, he⟩
  all_goals exact ⟨0, he⟩

theorem evalOps_lim {c : Ctx} : ∀ {ros : List RO} {fr : Fr} {h : AH} {x : Fr × AH}, evalOps (lim C) c ros fr h = some x → ∃ n, evalOps (orc C n) c ros fr h = some x
  | [], _, _, _, he => ⟨0, he⟩
  | o :: ros, fr, h, x, he => by
    simp only [evalOps] at he ⊢
    cases hw : wantedA fr o.guard with
    | none => rw [hw] at he; cases he
    | some b =>
      rw [hw] at he
      cases b with
      | false => exact evalOps_lim he
      | true =>
        dsimp only at he ⊢
        cases hop : evalOp (lim C) c o.op fr h with
        | none => rw [hop] at he; cases he
        | some y =>
          rw [hop] at he
          obtain ⟨n, hn⟩ := evalOp_lim C hop
          obtain ⟨m, hm⟩ := evalOps_lim he
          refine ⟨max n m, ?_⟩
          rw [evalOp_mono (orc_le C (Nat.le_max_left n m)) hn]
          exact evalOps_mono (orc_le C (Nat.le_max_right n m)) hm

theorem evalCode_lim {c : Ctx} : ∀ (rcode : RCode) (s : St) (x : Ex × St), evalCode (lim C) c rcode s = some x → ∃ n, evalCode (orc C n) c rcode s = some x := by
  intro rcode
  induction rcode with
  | skip => exact fun s x he => ⟨0, he⟩
  | region d ros =>
    intro s x he
    simp only [evalCode] at he ⊢
    cases hs : evalOps (lim C) c ros s.1 s.2 with
    | none => rw [hs] at he; cases he
    | some y =>
      rw [hs] at he
      obtain ⟨n, hn⟩ := evalOps_lim C hs
      exact ⟨n, by rw [hn]; exact he⟩
  | seq a b iha ihb =>
    intro s x he
    simp only [evalCode] at he ⊢
    cases hs : evalCode (lim C) c a s with
    | none => rw [hs] at he; cases he
    | some y =>
      rw [hs] at he
      obtain ⟨n, hn⟩ := iha s y hs
      obtain ⟨e, s'⟩ := y
      cases e with
      | normal =>
        obtain ⟨m, hm⟩ := ihb _ _ he
        refine ⟨max n m, ?_⟩
        rw [evalCode_mono (orc_le C (Nat.le_max_left n m)) _ _ _ hn]
        exact evalCode_mono (orc_le C (Nat.le_max_right n m)) _ _ _ hm
      | exit id => exact ⟨n, by rw [hn]; exact he⟩
      | ret => exact ⟨n, by rw [hn]; exact he⟩
  | cond q a b iha ihb =>
    intro s x he
    simp only [evalCode] at he ⊢
    split at he
    · exact iha _ _ he
    · exact ihb _ _ he
    · cases he
  | block id a ih =>
    intro s x he
    simp only [evalCode] at he ⊢
    cases hs : evalCode (lim C) c a s with
    | none => rw [hs] at he; cases he
    | some y =>
      rw [hs] at he
      obtain ⟨n, hn⟩ := ih s y hs
      exact ⟨n, by rw [hn]; exact he⟩
  | loop a ih =>
    intro s x he
    simp only [evalCode] at he ⊢
    obtain ⟨m, hm⟩ := lp_iter he
    have key : ∃ n, iter (evalCode (orc C n) c a) m s = some x := by
      clear he
      induction m generalizing s with
      | zero => simp [iter] at hm
      | succ m ihm =>
        simp only [iter] at hm ⊢
        cases h1 : evalCode (lim C) c a s with
        | none => rw [h1] at hm; cases hm
        | some y =>
          rw [h1] at hm
          obtain ⟨n, hn⟩ := ih s y h1
          obtain ⟨e, s'⟩ := y
          cases e with
          | normal =>
            obtain ⟨k, hk⟩ := ihm s' hm
            refine ⟨max n k, ?_⟩
            rw [evalCode_mono (orc_le C (Nat.le_max_left n k)) _ _ _ hn]
            exact iter_mono (evalCode_mono (orc_le C (Nat.le_max_right n k)) a) (Nat.le_refl _) hk
          | exit id => exact ⟨n, by rw [hn]; exact hm⟩
          | ret => exact ⟨n, by rw [hn]; exact hm⟩
    obtain ⟨n, hn⟩ := key
    refine ⟨max n m + 1, ?_⟩
    show iter _ (max n m + 1) s = some x
    exact iter_mono (evalCode_mono (orc_le C (by omega)) a) (by omega) hn
  | exit id => exact fun s x he => ⟨0, he⟩
  | ret => exact fun s x he => ⟨0, he⟩

theorem rawA_lim {f : FuncId} {args : List AV} {h : AH} {x : AV × AH} (he : rawA C (lim C) f args h = some x) : ∃ n, rawA C (orc C n) f args h = some x := by
  unfold rawA at he ⊢
  split at he
  · unfold evalBody at he ⊢
    rename_i rf _
    cases hs : evalCode (lim C) (C.ctx f) rf.body (startFr rf args, h) with
    | none => rw [hs] at he; cases he
    | some y =>
      rw [hs] at he
      obtain ⟨n, hn⟩ := evalCode_lim C _ _ _ hs
      exact ⟨n, by rw [hn]; exact he⟩
  · cases he

/-- The contract of a function that shares the heap, from its body. -/
theorem rc_of {f : FuncId} {args : List AV} {h : AH} {x : AV × AH} (he : rawA C (lim C) f args h = some x) : rc C f args h = some x := by
  obtain ⟨n, hn⟩ := rawA_lim C he
  exact orc_rc C (n := n + 1) hn

/-- The contract of a pure function, from its body. -/
theorem pc_of {f : FuncId} {args : List AV} {x : AV} (he : pureA C (lim C) f args = some x) : pc C f args = some x := by
  unfold pureA at he
  split at he
  · rename_i s hs
    refine orc_pc C (n := 1) ?_
    show pureA C _ f args = some x
    unfold pureA; simp only [hs]; exact he
  · rename_i hs
    cases hr : rawA C (lim C) f args AH.empty with
    | none => rw [hr] at he; cases he
    | some y =>
      rw [hr] at he
      obtain ⟨n, hn⟩ := rawA_lim C hr
      refine orc_pc C (n := n + 1) ?_
      show pureA C _ f args = some x
      unfold pureA; simp only [hs, hn]; exact he

/-- What a contract says of the program. -/
theorem pc_sound {P : Program} {C : Cfg} (hC : CfgS P C) {f : FuncId} {args : List AV} {r : AV} (h : pc C f args = some r) (w : World) (ok0 : Nat → Nat → Prop) (vs : Array Value) (hok : ∀ b o, ok0 b o → b < w.heap.size) (hv : PVs w ok0 args vs.toList) :
    Calls P f vs w fun e w' => ∃ u, e = .returned u ∧ Below w.heap.size w w' ∧ PV w' (fun b o => ok0 b o ∨ (w.heap.size ≤ b ∧ b < w'.heap.size)) r u := by
  obtain ⟨n, hn⟩ := pc_orc C h
  exact ((orc_sound hC n).1 f args r hn).2 w ok0 vs hok hv

#print axioms pc_sound
end Go.Abs

/- Laws by which simp carries out resolved code on symbolic values. -/
namespace Go.Abs

def look (fr : Fr) (n : Nat) : AV := fr.getD n undefA

@[simp] theorem get_t (fr : Fr) (n : Nat) : get fr (.t n) = look fr n := _root_.id rfl
@[simp] theorem get_c (fr : Fr) (v : AV) : get fr (.c v) = v := _root_.id rfl
@[simp] theorem put_some (fr : Fr) (d : Nat) (v : AV) : put fr (some d) v = List.set fr d v := _root_.id rfl
@[simp] theorem put_none (fr : Fr) (v : AV) : put fr none v = fr := _root_.id rfl
theorem look_set_ne (fr : Fr) {i j : Nat} (v : AV) (h : i ≠ j) : look (List.set fr i v) j = look fr j := by
  simp [look, List.getD, List.getElem?_set_ne h]
theorem look_set_eq (fr : Fr) {i j : Nat} (v : AV) (e : i = j) (h : i < fr.length) : look (List.set fr i v) j = v := by
  subst e
  simp [look, List.getD, List.getElem?_set_self h]

/-- An operation's answer, and the operations that go on with it. -/
def nxt (r : Option (AV × AH)) (O : Orc) (c : Ctx) (d : Option Nat) (ros : List RO) (fr : Fr) : Option (Fr × AH) := match r with | some (v, h) => evalOps O c ros (put fr d v) h | none => none
@[congr] theorem nxt_congr {r r' : Option (AV × AH)} {O : Orc} {c : Ctx} {d : Option Nat} {ros : List RO} {fr : Fr} (h : r = r') : nxt r O c d ros fr = nxt r' O c d ros fr := by rw [h]
@[simp] theorem nxt_some (v : AV) (h : AH) (O : Orc) (c : Ctx) (d : Option Nat) (ros : List RO) (fr : Fr) : nxt (some (v, h)) O c d ros fr = evalOps O c ros (put fr d v) h := _root_.id rfl

/-- A guard. -/
def grd (b : AV) (w : Bool) (O : Orc) (c : Ctx) (d : Option Nat) (op : ROp) (ros : List RO) (fr : Fr) (h : AH) : Option (Fr × AH) :=
  match b with
  | .bool b => if b = w then nxt (evalOp O c op fr h) O c d ros fr else evalOps O c ros (put fr d undefA) h
  | .tup _ => evalOps O c ros (put fr d undefA) h
  | _ => none
@[congr] theorem grd_congr {b b' : AV} {w : Bool} {O : Orc} {c : Ctx} {d : Option Nat} {op : ROp} {ros : List RO} {fr : Fr} {h : AH} (e : b = b') : grd b w O c d op ros fr h = grd b' w O c d op ros fr h := by rw [e]
section
variable (O : Orc) (c : Ctx) (d : Option Nat) (op : ROp) (ros : List RO) (fr : Fr) (h : AH)
@[simp] theorem grd_tt : grd (.bool true) true O c d op ros fr h = nxt (evalOp O c op fr h) O c d ros fr := _root_.id rfl
@[simp] theorem grd_ff : grd (.bool false) false O c d op ros fr h = nxt (evalOp O c op fr h) O c d ros fr := _root_.id rfl
@[simp] theorem grd_tf : grd (.bool true) false O c d op ros fr h = evalOps O c ros (put fr d undefA) h := _root_.id rfl
@[simp] theorem grd_ft : grd (.bool false) true O c d op ros fr h = evalOps O c ros (put fr d undefA) h := _root_.id rfl
@[simp] theorem grd_un (l : List AV) (w : Bool) : grd (.tup l) w O c d op ros fr h = evalOps O c ros (put fr d undefA) h := _root_.id rfl
end
@[simp] theorem undef_tup : undefA = .tup [] := _root_.id rfl

/-- A branch. -/
def brn (b : AV) (O : Orc) (c : Ctx) (x y : RCode) (fr : Fr) (h : AH) : Option (Ex × St) := match b with | .bool true => evalCode O c x (fr, h) | .bool false => evalCode O c y (fr, h) | _ => none
@[congr] theorem brn_congr {b b' : AV} {O : Orc} {c : Ctx} {x y : RCode} {fr : Fr} {h : AH} (e : b = b') : brn b O c x y fr h = brn b' O c x y fr h := by rw [e]
@[simp] theorem brn_t (O : Orc) (c : Ctx) (x y : RCode) (fr : Fr) (h : AH) : brn (.bool true) O c x y fr h = evalCode O c x (fr, h) := _root_.id rfl
@[simp] theorem brn_f (O : Orc) (c : Ctx) (x y : RCode) (fr : Fr) (h : AH) : brn (.bool false) O c x y fr h = evalCode O c y (fr, h) := _root_.id rfl

/-- Code, and what goes on behind it. -/
def sqn (r : Option (Ex × St)) (O : Orc) (c : Ctx) (y : RCode) : Option (Ex × St) := match r with | some (.normal, fr, h) => evalCode O c y (fr, h) | r => r
@[congr] theorem sqn_congr {r r' : Option (Ex × St)} {O : Orc} {c : Ctx} {y : RCode} (h : r = r') : sqn r O c y = sqn r' O c y := by rw [h]
@[simp] theorem sqn_n (fr : Fr) (h : AH) (O : Orc) (c : Ctx) (y : RCode) : sqn (some (.normal, fr, h)) O c y = evalCode O c y (fr, h) := _root_.id rfl
@[simp] theorem sqn_r (s : St) (O : Orc) (c : Ctx) (y : RCode) : sqn (some (.ret, s)) O c y = some (.ret, s) := _root_.id rfl
@[simp] theorem sqn_e (i : Nat) (s : St) (O : Orc) (c : Ctx) (y : RCode) : sqn (some (.exit i, s)) O c y = some (.exit i, s) := _root_.id rfl

def kbl (id : Nat) (r : Option (Ex × St)) : Option (Ex × St) := match r with | some (.exit i, s) => if i = id then some (.normal, s) else some (.exit i, s) | r => r
@[simp] theorem kbl_n (id : Nat) (s : St) : kbl id (some (.normal, s)) = some (.normal, s) := _root_.id rfl
@[simp] theorem kbl_r (id : Nat) (s : St) : kbl id (some (.ret, s)) = some (.ret, s) := _root_.id rfl
@[simp] theorem kbl_e (id : Nat) (s : St) : kbl id (some (.exit id, s)) = some (.normal, s) := by simp [kbl]
theorem kbl_o {id i : Nat} (h : i ≠ id) (s : St) : kbl id (some (.exit i, s)) = some (.exit i, s) := by simp [kbl, h]

/-- A function's end. -/
def kend {β : Type} (r : Option (Ex × St)) (k : Fr → AH → Option β) : Option β := match r with | some (.normal, fr, h) => k fr h | some (.ret, fr, h) => k fr h | _ => none
@[congr] theorem kend_congr {β : Type} {r r' : Option (Ex × St)} {k : Fr → AH → Option β} (h : r = r') : kend r k = kend r' k := by rw [h]
@[simp] theorem kend_n {β : Type} (fr : Fr) (h : AH) (k : Fr → AH → Option β) : kend (some (.normal, fr, h)) k = k fr h := _root_.id rfl
@[simp] theorem kend_r {β : Type} (fr : Fr) (h : AH) (k : Fr → AH → Option β) : kend (some (.ret, fr, h)) k = k fr h := _root_.id rfl

section
variable {O : Orc} {c : Ctx}

@[simp] theorem ops_nil (fr : Fr) (h : AH) : evalOps O c [] fr h = some (fr, h) := _root_.id rfl
@[simp] theorem ops_cons (d : Option Nat) (op : ROp) (ros : List RO) (fr : Fr) (h : AH) : evalOps O c (⟨d, op, none⟩ :: ros) fr h = nxt (evalOp O c op fr h) O c d ros fr := by
  simp only [evalOps, wantedA, nxt]
  cases evalOp O c op fr h with
  | none => rfl
  | some x => rfl
@[simp] theorem ops_guard (d : Option Nat) (op : ROp) (s : Nat) (w : Bool) (ros : List RO) (fr : Fr) (h : AH) :
    evalOps O c (⟨d, op, some (s, w)⟩ :: ros) fr h = grd (look fr s) w O c d op ros fr h := by
  simp only [evalOps, wantedA, look, grd, nxt]
  cases fr.getD s undefA with
  | bool b =>
    dsimp only
    cases b <;> cases w <;> simp <;> cases evalOp O c op fr h <;> rfl
  | _ => rfl

def krg (r : Option (Fr × AH)) : Option (Ex × St) := match r with | some s => some (.normal, s) | none => none
@[simp] theorem krg_s (s : St) : krg (some s) = some (.normal, s) := _root_.id rfl
@[simp] theorem code_skip (s : St) : evalCode O c .skip s = some (.normal, s) := _root_.id rfl
@[simp] theorem code_region (d : Bool) (ops : List RO) (fr : Fr) (h : AH) : evalCode O c (.region d ops) (fr, h) = krg (evalOps O c ops fr h) := _root_.id rfl
@[simp] theorem code_seq (a b : RCode) (s : St) : evalCode O c (.seq a b) s = sqn (evalCode O c a s) O c b := by
  simp only [evalCode, sqn]
  split <;> simp_all
@[simp] theorem code_cond (q : Opd) (a b : RCode) (fr : Fr) (h : AH) : evalCode O c (.cond q a b) (fr, h) = brn (get fr q) O c a b fr h := by
  simp only [evalCode, brn]
  cases get fr q with
  | bool b => cases b <;> rfl
  | _ => rfl
@[simp] theorem code_block (id : Nat) (a : RCode) (s : St) : evalCode O c (.block id a) s = kbl id (evalCode O c a s) := by
  simp only [evalCode, kbl]
  split <;> simp_all
@[simp] theorem code_exit (id : Nat) (s : St) : evalCode O c (.exit id) s = some (.exit id, s) := _root_.id rfl
@[simp] theorem code_ret (s : St) : evalCode O c .ret s = some (.ret, s) := _root_.id rfl
theorem code_loop {C : Cfg} (a : RCode) (s : St) : evalCode (lim C) c (.loop a) s = lp (evalCode (lim C) c a) s := _root_.id rfl
end

/-- A call of a function that shares no heap. -/
def kcl (ys : Option (List AV)) (k : List AV → Option AV) (tm : Bool) (h : AH) : Option (AV × AH) :=
  match ys with | none => none | some ys => match k ys with | some r => if r.scalar || tm then some (r, h) else none | none => none

theorem op_call {C : Cfg} {c : Ctx} {f : FuncId} (hr : c.raw f = false) (xs : List Opd) (fr : Fr) (h : AH) :
    evalOp (lim C) c (.call f xs) fr h = kcl (frzAll h true (xs.map (get fr))) (fun ys => pc C f ys) ((xs.map (get fr)).all (tame h)) h := by
  simp only [evalOp, callA, hr, kcl]
  rw [if_neg (by simp)]
  cases frzAll h true (xs.map (get fr)) with
  | none => rfl
  | some ys =>
    show (match pc C f ys with | none => none | some r => _) = _
    cases hp : pc C f ys with
    | none => simp only [hp]
    | some r => simp only [hp]
theorem op_callr {C : Cfg} {c : Ctx} {f : FuncId} (hr : c.raw f = true) (xs : List Opd) (fr : Fr) (h : AH) :
    evalOp (lim C) c (.call f xs) fr h = rc C f (xs.map (get fr)) h := by
  simp only [evalOp, callA, hr]
  rfl

/-- A result laid to rest. -/
def fin (rs : List RRes) (fr : Fr) (h : AH) : Option AV := (resA fr h rs).bind fun vs => frzRes h (tupled vs)

theorem look_start {rf : RFunc} {args : List AV} (h : args.length ≤ rf.ntmps) : (startFr rf args).length = rf.ntmps ∧ ∀ i, look (startFr rf args) i = args.getD i undefA := by
  refine ⟨by simp [startFr]; omega, fun i => ?_⟩
  simp only [look, startFr, List.getD]
  by_cases hi : i < args.length
  · rw [List.getElem?_append_left hi]
  · rw [List.getElem?_append_right (by omega), List.getElem?_eq_none (l := args) (by omega), List.getElem?_replicate]
    split <;> rfl

/-- The contract of a pure function, from its body. -/
theorem pc_run {C : Cfg} {f : FuncId} {rf : RFunc} {args : List AV} {r : AV} (hs : C.spec f = none) (hc : C.code f = some rf) (hl : args.length ≤ rf.ntmps)
    (H : ∀ fr : Fr, fr.length = rf.ntmps → (∀ i, look fr i = args.getD i undefA) → kend (evalCode (lim C) (C.ctx f) rf.body (fr, ⟨[], []⟩)) (fin rf.results) = some r) : pc C f args = some r := by
  have := H (startFr rf args) (look_start hl).1 (look_start hl).2
  apply pc_of
  unfold pureA rawA
  simp only [hs, hc]
  unfold evalBody kend fin at *
  cases he : evalCode (lim C) (C.ctx f) rf.body (startFr rf args, AH.empty) with
  | none => rw [show (⟨[], []⟩ : AH) = AH.empty from rfl, he] at this; cases this
  | some x =>
    rw [show (⟨[], []⟩ : AH) = AH.empty from rfl, he] at this
    obtain ⟨e, fr, h⟩ := x
    cases e with
    | exit i => cases this
    | normal => cases hr : resA fr h rf.results with | none => simp [hr] at this | some vs => simpa [hr] using this
    | ret => cases hr : resA fr h rf.results with | none => simp [hr] at this | some vs => simpa [hr] using this

/-- The contract of a function that shares the heap, from its body. -/
theorem rc_run {C : Cfg} {f : FuncId} {rf : RFunc} {args : List AV} {h : AH} {r : AV × AH} (hc : C.code f = some rf) (hl : args.length ≤ rf.ntmps)
    (H : ∀ fr : Fr, fr.length = rf.ntmps → (∀ i, look fr i = args.getD i undefA) → kend (evalCode (lim C) (C.ctx f) rf.body (fr, h)) (fun fr h => (resA fr h rf.results).map fun vs => (tupled vs, h)) = some r) : rc C f args h = some r := by
  have := H (startFr rf args) (look_start hl).1 (look_start hl).2
  apply rc_of
  unfold rawA
  simp only [hc]
  unfold evalBody kend at *
  cases he : evalCode (lim C) (C.ctx f) rf.body (startFr rf args, h) with
  | none => rw [he] at this; cases this
  | some x =>
    rw [he] at this
    obtain ⟨e, fr, h⟩ := x
    cases e with
    | exit i => cases this
    | normal => exact this
    | ret => exact this

end Go.Abs

namespace Go.Abs

/-- A slice; m: has it no spare capacity? is it typed, though it be empty? -/
def sl (m : Bool × Bool) (sz : Nat) (xs : List AV) : AV := .vs m.1 (if xs.isEmpty && !m.2 then 0 else sz) xs

theorem sl_def (f : Bool) (sz : Nat) (xs : List AV) : .vs f sz xs = sl (f, true) sz xs := by simp [sl]
theorem sl_nil (sz : Nat) : .vs true 0 [] = sl (true, false) sz [] := by simp [sl]

@[simp] theorem sl_isTup (m : Bool × Bool) (sz : Nat) (xs : List AV) : (sl m sz xs).isTup = false := _root_.id rfl
@[simp] theorem sl_cells (m : Bool × Bool) (sz : Nat) (xs : List AV) : (sl m sz xs).cells = [sl m sz xs] := _root_.id rfl
@[simp] theorem sl_frz1 (h : AH) (am : Bool) (m : Bool × Bool) (sz : Nat) (xs : List AV) : frz1 h am (sl m sz xs) = some (sl m sz xs) := _root_.id rfl
@[simp] theorem sl_frz (h : AH) (am : Bool) (m : Bool × Bool) (sz : Nat) (xs : List AV) : frz h am (sl m sz xs) = some (sl m sz xs) := _root_.id rfl
@[simp] theorem sl_tame1 (h : AH) (m : Bool × Bool) (sz : Nat) (xs : List AV) : tame1 h (sl m sz xs) = true := _root_.id rfl
@[simp] theorem sl_tame (h : AH) (m : Bool × Bool) (sz : Nat) (xs : List AV) : tame h (sl m sz xs) = true := _root_.id rfl
@[simp] theorem sl_flat (m : Bool × Bool) (sz : Nat) (xs : List AV) : (sl m sz xs).flat = true := _root_.id rfl
@[simp] theorem sl_ofCells (m : Bool × Bool) (sz : Nat) (xs : List AV) (rest : List AV) : ofCells false 1 (sl m sz xs :: rest) = some (sl m sz xs) := _root_.id rfl
@[simp] theorem sl_elems (h : AH) (m : Bool × Bool) (sz : Nat) (xs : List AV) : elems h sz (sl m sz xs) = some xs := by
  cases xs with
  | nil => simp [elems, sl]
  | cons x xs => simp [elems, sl]
@[simp] theorem sl_scalar (m : Bool × Bool) (sz : Nat) (xs : List AV) : (sl m sz xs).scalar = false := _root_.id rfl

/-- A cell that stays what it is when it is laid to rest. -/
@[simp] theorem frz_int (h : AH) (am : Bool) (k : IntKind) (n : Int) : frz h am (.int k n) = some (.int k n) := _root_.id rfl
@[simp] theorem frz_bool (h : AH) (am : Bool) (b : Bool) : frz h am (.bool b) = some (.bool b) := _root_.id rfl
@[simp] theorem frz_str (h : AH) (am : Bool) (s : ByteArray) : frz h am (.str s) = some (.str s) := _root_.id rfl
@[simp] theorem frz_fn (h : AH) (am : Bool) (f : FuncId) : frz h am (.fn f []) = some (.fn f []) := _root_.id rfl
@[simp] theorem frz_nilp (h : AH) (am : Bool) : frz h am .nilp = some .nilp := _root_.id rfl
@[simp] theorem frzL_nil (h : AH) (am : Bool) : frzL h am [] = some [] := _root_.id rfl
@[simp] theorem frzL_cons (h : AH) (am : Bool) (x : AV) (xs : List AV) : frzL h am (x :: xs) = (frz1 h am x).bind fun y => (frzL h am xs).map (y :: ·) := _root_.id rfl
@[simp] theorem frz1_int (h : AH) (am : Bool) (k : IntKind) (n : Int) : frz1 h am (.int k n) = some (.int k n) := _root_.id rfl
@[simp] theorem frz1_bool (h : AH) (am : Bool) (b : Bool) : frz1 h am (.bool b) = some (.bool b) := _root_.id rfl
@[simp] theorem frz1_str (h : AH) (am : Bool) (s : ByteArray) : frz1 h am (.str s) = some (.str s) := _root_.id rfl
@[simp] theorem frz_agg (h : AH) (am : Bool) (cs : List AV) : frz h am (.agg cs) = (frzL h am cs).map .agg := _root_.id rfl
@[simp] theorem frzAll_nil (h : AH) (am : Bool) : frzAll h am [] = some [] := _root_.id rfl
@[simp] theorem frzAll_cons (h : AH) (am : Bool) (x : AV) (xs : List AV) : frzAll h am (x :: xs) = (frz h am x).bind fun y => (frzAll h am xs).map (y :: ·) := _root_.id rfl
@[simp] theorem frzRes_int (h : AH) (k : IntKind) (n : Int) : frzRes h (.int k n) = some (.int k n) := _root_.id rfl
@[simp] theorem frzRes_bool (h : AH) (b : Bool) : frzRes h (.bool b) = some (.bool b) := _root_.id rfl
@[simp] theorem frzRes_str (h : AH) (s : ByteArray) : frzRes h (.str s) = some (.str s) := _root_.id rfl
@[simp] theorem frzRes_sl (h : AH) (m : Bool × Bool) (sz : Nat) (xs : List AV) : frzRes h (sl m sz xs) = some (sl m sz xs) := _root_.id rfl
@[simp] theorem frzRes_agg (h : AH) (cs : List AV) : frzRes h (.agg cs) = (frzL h true cs).map .agg := _root_.id rfl
@[simp] theorem frzRes_tup (h : AH) (cs : List AV) : frzRes h (.tup cs) = (frzAll h true cs).map .tup := _root_.id rfl

@[simp] theorem kcl_some (ys : List AV) (k : List AV → Option AV) (tm : Bool) (h : AH) : kcl (some ys) k tm h = (match k ys with | some r => if r.scalar || tm then some (r, h) else none | none => none) := _root_.id rfl
@[simp] theorem scalar_int (k : IntKind) (n : Int) : (AV.int k n).scalar = true := _root_.id rfl
@[simp] theorem scalar_bool (b : Bool) : (AV.bool b).scalar = true := _root_.id rfl
@[simp] theorem scalar_str (s : ByteArray) : (AV.str s).scalar = true := _root_.id rfl
@[simp] theorem isTup_int (k : IntKind) (n : Int) : (AV.int k n).isTup = false := _root_.id rfl
@[simp] theorem isTup_bool (b : Bool) : (AV.bool b).isTup = false := _root_.id rfl
@[simp] theorem isTup_str (b : ByteArray) : (AV.str b).isTup = false := _root_.id rfl
@[simp] theorem isTup_agg (cs : List AV) : (AV.agg cs).isTup = false := _root_.id rfl
@[simp] theorem cells_agg (cs : List AV) : (AV.agg cs).cells = cs := _root_.id rfl
@[simp] theorem cells_int (k : IntKind) (n : Int) : (AV.int k n).cells = [.int k n] := _root_.id rfl
@[simp] theorem cells_bool (b : Bool) : (AV.bool b).cells = [.bool b] := _root_.id rfl
@[simp] theorem cells_str (b : ByteArray) : (AV.str b).cells = [.str b] := _root_.id rfl
@[simp] theorem ofCells_true (n : Nat) (cs : List AV) : ofCells true n cs = if n ≤ cs.length then some (.agg (cs.take n)) else none := _root_.id rfl
@[simp] theorem ofCells_false (n : Nat) (cs : List AV) : ofCells false n cs = cs.head? := _root_.id rfl

/-! ### Operations on slices -/
def iaA (h : AH) (sz : Nat) (x i : AV) : Option (AV × AH) :=
  match x, i with
  | .vs _ z xs, .int _ j => if 0 ≤ j ∧ z = sz then (match xs[j.toNat]? with | some e => some (.pv e.cells, h) | none => none) else none
  | .sl k n off len, .int _ j =>
    match h.fams[k]? with
    | some f => if 0 ≤ j ∧ j < len ∧ f.sz = sz ∧ f.xs.length = n then some (.ep k n (off + j.toNat) 0, h) else none
    | none => none
  | _, _ => none
def lenA (h : AH) (x : AV) : Option (AV × AH) :=
  match x with
  | .vs _ _ xs => some (.int .i64 xs.length, h)
  | .sl _ _ _ len => some (.int .i64 len, h)
  | _ => none
def slcA (h : AH) (sz : Nat) (x : AV) (l u m : Option (Option Int)) : Option (AV × AH) :=
  match l, u, m with
  | some l, some u, some m => match sliceA h sz x l u m with | some v => some (v, h) | none => none
  | _, _, _ => none
/-- Is a slice nil? -/
def nqA (neg : Bool) (h : AH) (x : AV) : Option (AV × AH) := match x with | .vs _ z _ => some (.bool (if neg then !(z == 0) else z == 0), h) | _ => none
theorem nqA_sl (neg : Bool) (h : AH) (m : Bool × Bool) (sz : Nat) (hsz : 0 < sz) (xs : List AV) : nqA neg h (sl m sz xs) = some (.bool (if neg then !(xs.isEmpty && !m.2) else (xs.isEmpty && !m.2)), h) := by
  unfold nqA sl
  by_cases hx : (xs.isEmpty && !m.2) = true
  · simp [hx]
  · have : (sz == 0) = false := by simp; omega
    simp [hx, this]

section
variable {O : Orc} {c : Ctx} (fr : Fr) (h : AH)
@[simp] theorem op_mov (x : Opd) : evalOp O c (.mov x) fr h = some (get fr x, h) := _root_.id rfl
@[simp] theorem op_pick (q a b : Opd) : evalOp O c (.pick q a b) fr h = (match get fr q with | .bool t => some (if t then get fr a else get fr b, h) | _ => none) := _root_.id rfl
@[simp] theorem op_box (x : Opd) : evalOp O c (.box x) fr h = if (get fr x).isTup then none else some (.ptr h.boxes.length 0, { h with boxes := h.boxes ++ [(get fr x).cells] }) := _root_.id rfl
@[simp] theorem op_alloc (z : AV) : evalOp O c (.alloc z) fr h = some (.ptr h.boxes.length 0, { h with boxes := h.boxes ++ [z.cells] }) := _root_.id rfl
@[simp] theorem op_build (z : AV) (parts : List (Nat × Nat × Opd)) : evalOp O c (.build z parts) fr h = (buildParts fr z.cells.length parts).map fun ps => (.agg (fillParts z.cells ps), h) := by
  simp only [evalOp]
  cases buildParts fr z.cells.length parts <;> rfl
@[simp] theorem op_bslice (n : Nat) (z : AV) (parts : List (Nat × Opd)) : evalOp O c (.bslice n z parts) fr h = (sliceParts fr h (List.replicate n z) parts).map fun xs => (sl (true, true) z.cells.length xs, h) := by
  simp only [evalOp, sl_def]
  cases sliceParts fr h (List.replicate n z) parts <;> rfl
@[simp] theorem op_ldb (agg : Bool) (n : Nat) (x : Opd) : evalOp O c (.ldb agg n x) fr h = (match get fr x with | .ep .. => none | p => (match loadA h agg n p with | some v => some (v, h) | none => none)) := _root_.id rfl
@[simp] theorem op_nilck (x : Opd) : evalOp O c (.nilck x) fr h = (match get fr x with | .pv cs => some (.pv cs, h) | .ptr b o => some (.ptr b o, h) | .ep k n i q => some (.ep k n i q, h) | .fn f cs => some (.fn f cs, h) | _ => none) := _root_.id rfl
@[simp] theorem op_bin (op : BinOp) (x y : Opd) : evalOp O c (.bin op x y) fr h = (evalBin op (get fr x) (get fr y)).map fun v => (v, h) := by
  simp only [evalOp]
  cases evalBin op (get fr x) (get fr y) <;> rfl
@[simp] theorem op_beq (neg : Bool) (x y : Opd) : evalOp O c (.beq neg x y) fr h = (match get fr x, get fr y with | .bool a, .bool b => some (.bool (if neg then !(a == b) else a == b), h) | _, _ => none) := _root_.id rfl
@[simp] theorem op_nileq (neg : Bool) (x : Opd) : evalOp O c (.nileq neg x) fr h = nqA neg h (get fr x) := by
  simp only [evalOp, nqA]
  rfl
@[simp] theorem op_un (op : UnOp) (x : Opd) : evalOp O c (.un op x) fr h = (evalUn op (get fr x)).map fun v => (v, h) := by
  simp only [evalOp]
  cases evalUn op (get fr x) <;> rfl
@[simp] theorem op_conv (k : IntKind) (x : Opd) : evalOp O c (.conv k x) fr h = (match get fr x with | .int _ n => some (.int k (k.wrap n), h) | _ => none) := _root_.id rfl
@[simp] theorem op_cstr (x : Opd) : evalOp O c (.cstr x) fr h = (match get fr x with | .str s => some (.str s, h) | _ => none) := _root_.id rfl
@[simp] theorem op_clos (f : FuncId) (caps : List Opd) : evalOp O c (.clos f caps) fr h = some (.fn f (caps.map (get fr)), h) := _root_.id rfl
@[simp] theorem op_mkslice (z : AV) (bytes : Nat) (l q : Opd) : evalOp O c (.mkslice z bytes l q) fr h = (match get fr l, get fr q with
    | .int _ a, .int _ b =>
      if 0 ≤ a ∧ a ≤ b ∧ b * bytes ≤ roomA ∧ b ≤ maxLen then
        some (.sl h.fams.length a.toNat 0 a.toNat, { h with fams := h.fams ++ [⟨List.replicate a.toNat z, z.cells.length, true⟩] })
      else none
    | _, _ => none) := _root_.id rfl
@[simp] theorem op_faddr (off : Nat) (x : Opd) : evalOp O c (.faddr off x) fr h = (match get fr x with | .pv cs => some (.pv (cs.drop off), h) | .ptr b o => some (.ptr b (o + off), h) | .ep k n i q => some (.ep k n i (q + off), h) | _ => none) := _root_.id rfl
@[simp] theorem op_fld (agg : Bool) (off n : Nat) (x : Opd) : evalOp O c (.fld agg off n x) fr h = (match get fr x with | .agg cs => (match ofCells agg n (cs.drop off) with | some v => some (v, h) | none => none) | _ => none) := _root_.id rfl
@[simp] theorem op_idx (x i : Opd) : evalOp O c (.idx x i) fr h = (match get fr x, get fr i with
    | .str s, .int _ j => if 0 ≤ j then (match s[j.toNat]? with | some b => some (.int .u8 b.toNat, h) | none => none) else none
    | _, _ => none) := _root_.id rfl
@[simp] theorem op_ext (x : Opd) (i : Nat) : evalOp O c (.ext x i) fr h = (match get fr x with | .tup vs => (match vs[i]? with | some v => some (v, h) | none => none) | _ => none) := _root_.id rfl
@[simp] theorem op_slen (x : Opd) : evalOp O c (.len true x) fr h = (match get fr x with | .str s => some (.int .i64 s.size, h) | _ => none) := _root_.id rfl
@[simp] theorem op_max (x y : Opd) : evalOp O c (.max x y) fr h = (match get fr x, get fr y with | .int k a, .int k' b => if k = k' then some (.int k (if b > a then b else a), h) else none | _, _ => none) := _root_.id rfl
@[simp] theorem op_iaddr (sz : Nat) (x i : Opd) : evalOp O c (.iaddr sz x i) fr h = iaA h sz (get fr x) (get fr i) := _root_.id rfl
@[simp] theorem op_len (x : Opd) : evalOp O c (.len false x) fr h = lenA h (get fr x) := _root_.id rfl
def kraw (b : Bool) (x y : Unit → Option (AV × AH)) : Option (AV × AH) := if b then x () else y ()
@[simp] theorem kraw_t (x y : Unit → Option (AV × AH)) : kraw true x y = x () := _root_.id rfl
@[simp] theorem kraw_f (x y : Unit → Option (AV × AH)) : kraw false x y = y () := _root_.id rfl
@[congr] theorem kraw_congr {b b' : Bool} {x y : Unit → Option (AV × AH)} (h : b = b') : kraw b x y = kraw b' x y := by rw [h]
@[simp] theorem op_calls {C : Cfg} (f : FuncId) (xs : List Opd) : evalOp (lim C) c (.call f xs) fr h = kraw (c.raw f) (fun _ => rc C f (xs.map (get fr)) h) (fun _ => kcl (frzAll h true (xs.map (get fr))) (fun ys => pc C f ys) ((xs.map (get fr)).all (tame h)) h) := by
  cases hr : c.raw f with
  | false => exact op_call hr xs fr h
  | true => exact op_callr hr xs fr h
@[simp] theorem op_callv {C : Cfg} (x : Opd) (xs : List Opd) : evalOp (lim C) c (.callv x xs) fr h = (match get fr x with
    | .fn f caps => kraw (c.raw f) (fun _ => rc C f (xs.map (get fr) ++ caps) h) (fun _ => kcl (frzAll h true (xs.map (get fr) ++ caps)) (fun ys => pc C f ys) ((xs.map (get fr) ++ caps).all (tame h)) h)
    | _ => none) := by
  simp only [evalOp]
  cases get fr x with
  | fn f caps =>
    simp only
    cases hr : c.raw f with
    | false =>
      have := op_call (C := C) hr ((xs.map (get fr) ++ caps).map Opd.c) fr h
      simp only [evalOp, List.map_map] at this
      rw [show (get fr ∘ Opd.c) = id from rfl, List.map_id] at this
      exact this
    | true =>
      have := op_callr (C := C) hr ((xs.map (get fr) ++ caps).map Opd.c) fr h
      simp only [evalOp, List.map_map] at this
      rw [show (get fr ∘ Opd.c) = id from rfl, List.map_id] at this
      exact this
  | _ => rfl
@[simp] theorem op_slc (sz : Nat) (x : Opd) (lo hi mx : Option Opd) : evalOp O c (.slc sz x lo hi mx) fr h = slcA h sz (get fr x) (boundA fr lo) (boundA fr hi) (boundA fr mx) := _root_.id rfl
@[simp] theorem op_app (sz bytes : Nat) (s x : Opd) : evalOp O c (.app sz bytes s x) fr h = appendA c h sz bytes (get fr s) (get fr x) := _root_.id rfl
@[simp] theorem op_ld (agg : Bool) (n : Nat) (x : Opd) : evalOp O c (.ld agg n x) fr h = (loadA h agg n (get fr x)).map fun v => (v, h) := by
  simp only [evalOp]
  cases loadA h agg n (get fr x) <;> rfl
@[simp] theorem op_st (n : Nat) (a x : Opd) : evalOp O c (.st n a x) fr h = (storeA h n (get fr x) (get fr a)).map fun h' => (undefA, h') := by
  simp only [evalOp]
  cases storeA h n (get fr x) (get fr a) <;> rfl
end

/-- An element, where there is one. -/
def nth (xs : List AV) (i : Nat) : Option AV := xs[i]?
@[simp] theorem nth_zero (x : AV) (xs : List AV) : nth (x :: xs) 0 = some x := _root_.id rfl
@[simp] theorem nth_succ (x : AV) (xs : List AV) (i : Nat) : nth (x :: xs) (i + 1) = nth xs i := _root_.id rfl
theorem nth_map {α : Type} {f : α → AV} {l : List α} {i : Nat} {x : α} (h : l[i]? = some x) : nth (l.map f) i = some (f x) := by simp [nth, h]

@[simp] theorem iaA_sl (h : AH) (m : Bool × Bool) (sz : Nat) (xs : List AV) (k : IntKind) (j : Int) : iaA h sz (sl m sz xs) (.int k j) = if 0 ≤ j then (nth xs j.toNat).map (fun e => (.pv e.cells, h)) else none := by
  unfold iaA sl nth
  simp only
  by_cases hj : 0 ≤ j
  · rw [if_pos hj]
    cases hx : xs[j.toNat]? with
    | none => simp
    | some e =>
      cases xs with
      | nil => simp at hx
      | cons y ys => simp [hj]
  · rw [if_neg hj, if_neg (by omega)]
@[simp] theorem lenA_sl (h : AH) (m : Bool × Bool) (sz : Nat) (xs : List AV) : lenA h (sl m sz xs) = some (.int .i64 xs.length, h) := _root_.id rfl
@[simp] theorem lenA_view (h : AH) (k n off len : Nat) : lenA h (.sl k n off len) = some (.int .i64 len, h) := _root_.id rfl
@[simp] theorem frz_view (h : AH) (am : Bool) (k n off len : Nat) : frz h am (.sl k n off len) = frz1 h am (.sl k n off len) := _root_.id rfl
@[simp] theorem loadA_pv (h : AH) (agg : Bool) (n : Nat) (cs : List AV) : loadA h agg n (.pv cs) = ofCells agg n cs := _root_.id rfl
@[simp] theorem loadA_ptr (h : AH) (agg : Bool) (n b off : Nat) : loadA h agg n (.ptr b off) = (h.boxes[b]?).bind fun cs => ofCells agg n (cs.drop off) := by
  simp only [loadA]
  cases h.boxes[b]? <;> rfl

@[simp] theorem storeA_ptr (h : AH) (n : Nat) (v : AV) (b off : Nat) : storeA h n v (.ptr b off) = (h.boxes[b]?).bind fun cs => if v.isTup = false ∧ v.cells.length = n ∧ off + n ≤ cs.length then some { h with boxes := h.boxes.set b (splice cs off v.cells) } else none := by
  simp only [storeA]
  cases h.boxes[b]? <;> rfl
@[simp] theorem storeA_ep (h : AH) (n : Nat) (v : AV) (k m i q : Nat) : storeA h n v (.ep k m i q) = (h.fams[k]?).bind fun f =>
    if f.xs.length = m ∧ f.wr = true then
      (f.xs[i]?).bind fun x => (frz h false v).bind fun u => if u.cells.length = n ∧ q + n ≤ x.cells.length then
        (x.reform (splice x.cells q u.cells)).map fun y => { h with fams := h.fams.set k { f with xs := f.xs.set i y } } else none
    else none := by
  simp only [storeA]
  cases h.fams[k]? with
  | none => rfl
  | some f =>
    simp only [Option.bind_some]
    split
    · cases f.xs[i]? with
      | none => rfl
      | some x => cases frz h false v <;> rfl
    · rfl
@[simp] theorem loadA_ep (h : AH) (agg : Bool) (n k m i q : Nat) : loadA h agg n (.ep k m i q) = (h.fams[k]?).bind fun f => if f.xs.length = m then (f.xs[i]?).bind fun x => ofCells agg n (x.cells.drop q) else none := by
  simp only [loadA]
  cases h.fams[k]? with
  | none => rfl
  | some f =>
    simp only [Option.bind_some]
    split
    · cases f.xs[i]? <;> rfl
    · rfl
@[simp] theorem iaA_view (h : AH) (sz k n off len : Nat) (kd : IntKind) (j : Int) : iaA h sz (.sl k n off len) (.int kd j) = (h.fams[k]?).bind fun f => if 0 ≤ j ∧ j < len ∧ f.sz = sz ∧ f.xs.length = n then some (.ep k n (off + j.toNat) 0, h) else none := by
  simp only [iaA]
  cases h.fams[k]? <;> rfl
@[simp] theorem splice_def (cs : List AV) (off : Nat) (new : List AV) : splice cs off new = cs.take off ++ new ++ cs.drop (off + new.length) := _root_.id rfl
@[simp] theorem set_last {α : Type} (l : List α) (x y : α) : (l ++ [x]).set l.length y = l ++ [y] := by
  rw [List.set_append_right _ _ (Nat.le_refl _)]
  simp
@[simp] theorem bin_lss (k : IntKind) (a b : Int) : evalBin .lss (.int k a) (.int k b) = some (.bool (decide (a < b))) := by simp [evalBin]
@[simp] theorem bin_leq (k : IntKind) (a b : Int) : evalBin .leq (.int k a) (.int k b) = some (.bool (decide (a ≤ b))) := by simp [evalBin]
@[simp] theorem bin_gtr (k : IntKind) (a b : Int) : evalBin .gtr (.int k a) (.int k b) = some (.bool (decide (b < a))) := by simp [evalBin]
@[simp] theorem bin_geq (k : IntKind) (a b : Int) : evalBin .geq (.int k a) (.int k b) = some (.bool (decide (b ≤ a))) := by simp [evalBin]
@[simp] theorem bin_eql (k : IntKind) (a b : Int) : evalBin .eql (.int k a) (.int k b) = some (.bool (decide (a = b))) := by simp only [evalBin, if_true]; rfl
@[simp] theorem bin_neq (k : IntKind) (a b : Int) : evalBin .neq (.int k a) (.int k b) = some (.bool (!decide (a = b))) := by simp only [evalBin, if_true]; rfl
@[simp] theorem bin_add (k : IntKind) (a b : Int) : evalBin .add (.int k a) (.int k b) = some (.int k (k.wrap (a + b))) := by simp [evalBin]
@[simp] theorem bin_sub (k : IntKind) (a b : Int) : evalBin .sub (.int k a) (.int k b) = some (.int k (k.wrap (a - b))) := by simp [evalBin]
theorem beq_dec (a b : List UInt8) : (a == b) = decide (a = b) := by
  by_cases h : a = b <;> simp [h]
@[simp] theorem bin_slss (a b : ByteArray) : evalBin .lss (.str a) (.str b) = some (.bool (Op.bytesLess a.toList b.toList)) := _root_.id rfl
@[simp] theorem bin_sgtr (a b : ByteArray) : evalBin .gtr (.str a) (.str b) = some (.bool !(Op.bytesLess a.toList b.toList || decide (a.toList = b.toList))) := by simp only [evalBin]; rw [beq_dec]
@[simp] theorem bin_seql (a b : ByteArray) : evalBin .eql (.str a) (.str b) = some (.bool (decide (a.toList = b.toList))) := by simp only [evalBin]; rw [beq_dec]
@[simp] theorem bin_sneq (a b : ByteArray) : evalBin .neq (.str a) (.str b) = some (.bool !(decide (a.toList = b.toList))) := by simp only [evalBin]; rw [beq_dec]
@[simp] theorem resA_nil (fr : Fr) (h : AH) : resA fr h [] = some [] := _root_.id rfl
@[simp] theorem resA_tmp (fr : Fr) (h : AH) (t : Nat) (rs : List RRes) : resA fr h (.tmp t :: rs) = (resA fr h rs).map (look fr t :: ·) := _root_.id rfl
@[simp] theorem resA_cell (fr : Fr) (h : AH) (a n : Nat) (agg : Bool) (rs : List RRes) : resA fr h (.cell a agg n :: rs) = (loadA h agg n (look fr a)).bind fun v => (resA fr h rs).map (v :: ·) := _root_.id rfl
@[simp] theorem un_not (b : Bool) : evalUn .not (.bool b) = some (.bool !b) := _root_.id rfl
theorem wrap_id {n : Int} (h0 : -9223372036854775808 ≤ n) (h1 : n ≤ 9223372036854775807) : IntKind.i64.wrap n = n := by
  simp only [IntKind.wrap, IntKind.bits, IntKind.signed]
  simp only [Bool.true_and, decide_eq_true_eq, ge_iff_le]
  split <;> omega

@[simp] theorem frz1_view (h : AH) (am : Bool) (k n off len : Nat) : frz1 h am (.sl k n off len) = (h.fams[k]?).bind fun f => if f.xs.length = n ∧ off + len ≤ n ∧ (am || !f.wr) = true then some (sl (false, true) f.sz ((f.xs.drop off).take len)) else none := by
  simp only [frz1]
  cases h.fams[k]? with
  | none => rfl
  | some f => simp only [Option.bind_some, sl_def]
@[simp] theorem frz_nil (h : AH) (am : Bool) : frz h am (.vs true 0 []) = some (sl (true, false) 1 []) := _root_.id rfl
@[simp] theorem frz1_nil (h : AH) (am : Bool) : frz1 h am (.vs true 0 []) = some (sl (true, false) 1 []) := _root_.id rfl
theorem sl_nil_any (m : Bool × Bool) (hm : m.2 = false) (a b : Nat) : sl m a [] = sl m b [] := by simp [sl, hm]
@[simp] theorem app_nil (c : Ctx) (h : AH) (sz bytes : Nat) (x : AV) : appendA c h sz bytes (.vs true 0 []) x = (elems h sz x).bind fun ys =>
    if ys.length = 0 then some (.vs true 0 [], h) else if ys.length * bytes ≤ roomA ∧ ys.length ≤ maxLen then some (.sl h.fams.length ys.length 0 ys.length, { h with fams := h.fams ++ [⟨ys, sz, c.mutApp⟩] }) else none := by
  simp only [appendA]
  cases elems h sz x with
  | none => rfl
  | some ys => simp
@[simp] theorem app_view (c : Ctx) (h : AH) (sz bytes k n off len : Nat) (x : AV) : appendA c h sz bytes (.sl k n off len) x = (elems h sz x).bind fun ys => (h.fams[k]?).bind fun f =>
    if f.xs.length = n ∧ f.sz = sz ∧ off + len = n ∧ (n + ys.length) * bytes ≤ roomA ∧ n + ys.length ≤ maxLen then some (.sl k (n + ys.length) off (len + ys.length), { h with fams := h.fams.set k { f with xs := f.xs ++ ys } }) else none := by
  simp only [appendA]
  cases elems h sz x with
  | none => rfl
  | some ys => cases h.fams[k]? <;> rfl
theorem app_sl (c : Ctx) (h : AH) (sz bytes : Nat) (b : Bool) (xs : List AV) (x : AV) : appendA c h sz bytes (sl (true, b) sz xs) x = (elems h sz x).bind fun ys =>
    if ys.length = 0 then some (sl (true, b) sz xs, h) else if (xs.length + ys.length) * bytes ≤ roomA ∧ xs.length + ys.length ≤ maxLen then some (.sl h.fams.length (xs.length + ys.length) 0 (xs.length + ys.length), { h with fams := h.fams ++ [⟨xs ++ ys, sz, c.mutApp⟩] }) else none := by
  simp only [appendA, sl]
  cases elems h sz x with
  | none => rfl
  | some ys =>
    simp only [Option.bind_some]
    cases xs <;> simp

/-! ### Terms -/
inductive Tm where
  | mk (kind : Int) (name : ByteArray) (sort : Int) (m : Bool × Bool) (kids : List Tm)

mutual
def tmV : Tm → AV
  | .mk k n s m l => .agg [.int .i64 k, .str n, .int .i64 s, sl m 4 (tmVs l)]
def tmVs : List Tm → List AV
  | [] => []
  | t :: l => tmV t :: tmVs l
end
theorem tmVs_map (l : List Tm) : tmVs l = l.map tmV := by
  induction l with
  | nil => rfl
  | cons t l ih => simp [tmVs, ih]

theorem nth_tmVs {l : List Tm} {i : Nat} {t : Tm} (h : l[i]? = some t) : nth (tmVs l) i = some (tmV t) := by rw [tmVs_map]; exact nth_map h
@[simp] theorem tmVs_length (l : List Tm) : (tmVs l).length = l.length := by simp [tmVs_map]

mutual
def Tm.size : Tm → Nat
  | .mk _ _ _ _ l => 1 + Tm.sizes l
def Tm.sizes : List Tm → Nat
  | [] => 0
  | t :: l => t.size + Tm.sizes l
end

theorem Tm.size_pos (t : Tm) : 0 < t.size := by cases t; simp [Tm.size]; omega

theorem Tm.sizes_append (l r : List Tm) : Tm.sizes (l ++ r) = Tm.sizes l + Tm.sizes r := by
  induction l with
  | nil => simp [Tm.sizes]
  | cons t l ih => simp [Tm.sizes, ih]; omega

theorem Tm.size_le {t : Tm} {l : List Tm} (h : t ∈ l) : t.size ≤ Tm.sizes l := by
  induction l with
  | nil => cases h
  | cons x l ih =>
    simp only [Tm.sizes]
    rcases List.mem_cons.1 h with rfl | h
    · omega
    · have := ih h; omega

theorem Tm.length_le (l : List Tm) : l.length ≤ Tm.sizes l := by
  induction l with
  | nil => simp
  | cons x l ih => have := x.size_pos; simp only [Tm.sizes, List.length_cons]; omega
end Go.Abs
