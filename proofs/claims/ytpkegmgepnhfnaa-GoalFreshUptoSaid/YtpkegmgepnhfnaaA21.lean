/- Code, loops, calls: the abstract interpreter is sound. -/
import Derived.Test.YtpkegmgepnhfnaaA20
namespace Go.Abs
open Go.RowKit (Below)

def exOf : Ex → Exit
  | .normal => .normal
  | .exit id => .exit id
  | .ret => .ret

/-- A loop that ends has ended after some rounds. -/
def LoopS (O : Orc) : Prop := ∀ (step : St → Option (Ex × St)) (s : St) (x : Ex × St), O.loop step s = some x → ∃ n, iter step n s = some x

section
variable {P : Program} {O : Orc} {c : Ctx}

theorem code_sound (hP : PureS P O) (hR : RawS P O) (hL : LoopS O) (hm : P.follows .mixedOrders = true) :
    ∀ (code : Code) (rc : RCode), resCode P c code = some rc → ∀ (E : Env) (fr : Fr) (a : Act), SR E → FR E fr a.tmps → ∀ (ex : Ex) (fr' : Fr) (h' : AH), evalCode O c rc (fr, E.h) = some (ex, (fr', h')) →
      ∀ Q : Exit → Act → World → Prop, (∀ a' E', Ext E E' → SR E' → E'.h = h' → FR E' fr' a'.tmps → a'.defers = a.defers → Q (exOf ex) a' E'.w) → code.wp P Q a E.w := by
  intro code
  induction code with
  | skip =>
    intro rc hr E fr a hS hf ex fr' h' hev Q hQ
    simp only [resCode] at hr; cases hr
    simp only [evalCode] at hev; cases hev
    exact wp_skip (hQ a E (Ext.refl E) hS rfl hf rfl)
  | region id ops draw =>
    intro rc hr E fr a hS hf ex fr' h' hev Q hQ
    have hr' := hr
    simp only [resCode] at hr'
    obtain ⟨d, ros, rfl⟩ : ∃ d ros, rc = .region d ros := by
      split at hr'
      · split at hr'
        · cases hr'; exact ⟨_, _, rfl⟩
        · split at hr'
          · cases hr'; exact ⟨_, _, rfl⟩
          · cases hr'
      · cases hr'
    simp only [evalCode] at hev
    split at hev
    · rename_i s hs
      cases hev
      exact region_sound hP hR hm hr hS hf hs hQ
    · cases hev
  | seq x y ihx ihy =>
    intro rc hr E fr a hS hf ex fr' h' hev Q hQ
    simp only [resCode] at hr
    split at hr
    · rename_i x' y' hx hy
      cases hr
      simp only [evalCode] at hev
      refine wp_seq ?_
      split at hev
      · rename_i s hs
        obtain ⟨fr1, h1⟩ := s
        refine ihx x' hx E fr a hS hf .normal fr1 h1 hs _ fun a' E' k1 k2 k3 k4 k5 => ?_
        show y.wp P Q a' E'.w
        refine ihy y' hy E' fr1 a' k2 k4 ex fr' h' (by rw [k3]; exact hev) Q fun a'' E'' m1 m2 m3 m4 m5 => ?_
        exact hQ a'' E'' (k1.trans m1) m2 m3 m4 (m5.trans k5)
      · rename_i hne
        refine ihx x' hx E fr a hS hf ex fr' h' hev _ fun a' E' k1 k2 k3 k4 k5 => ?_
        have := hQ a' E' k1 k2 k3 k4 k5
        cases ex with
        | normal => exact absurd hev (hne _)
        | exit id => exact this
        | ret => exact this
    · cases hr
  | cond q x y ihx ihy =>
    intro rc hr E fr a hS hf ex fr' h' hev Q hQ
    simp only [resCode] at hr
    split at hr
    · rename_i q' x' y' hq hx hy
      cases hr
      simp only [evalCode] at hev
      have hv := opd_sound hf hq
      split at hev
      · rename_i hg
        rw [hg] at hv
        simp only [VR] at hv
        exact wp_cond_true hv (ihx x' hx E fr a hS hf ex fr' h' hev Q hQ)
      · rename_i hg
        rw [hg] at hv
        simp only [VR] at hv
        exact wp_cond_false hv (ihy y' hy E fr a hS hf ex fr' h' hev Q hQ)
      · cases hev
    · cases hr
  | block id x ih =>
    intro rc hr E fr a hS hf ex fr' h' hev Q hQ
    simp only [resCode, Option.map_eq_some_iff] at hr
    obtain ⟨x', hx, rfl⟩ := hr
    simp only [evalCode] at hev
    refine wp_block ?_
    split at hev
    · rename_i id' s hs
      obtain ⟨fr1, h1⟩ := s
      refine ih x' hx E fr a hS hf (.exit id') fr1 h1 hs _ fun a' E' k1 k2 k3 k4 k5 => ?_
      show if id' = id then Q .normal a' E'.w else Q (.exit id') a' E'.w
      split at hev
      · rename_i he
        cases hev
        rw [if_pos he]
        exact hQ a' E' k1 k2 k3 k4 k5
      · rename_i he
        cases hev
        rw [if_neg he]
        exact hQ a' E' k1 k2 k3 k4 k5
    · rename_i hne
      refine ih x' hx E fr a hS hf ex fr' h' hev _ fun a' E' k1 k2 k3 k4 k5 => ?_
      have := hQ a' E' k1 k2 k3 k4 k5
      cases ex with
      | normal => exact this
      | exit id' => exact absurd hev (hne _ _)
      | ret => exact this
  | loop x ih =>
    intro rc hr E fr a hS hf ex fr' h' hev Q hQ
    simp only [resCode, Option.map_eq_some_iff] at hr
    obtain ⟨x', hx, rfl⟩ := hr
    simp only [evalCode] at hev
    obtain ⟨n, hn⟩ := hL _ _ _ hev
    refine wp_loop_rounds n ?_
    clear hev
    induction n generalizing E fr a with
    | zero => simp only [iter] at hn; cases hn
    | succ n ihn =>
      simp only [iter] at hn
      rw [rounds_succ]
      split at hn
      · rename_i s hs
        obtain ⟨fr1, h1⟩ := s
        refine ih x' hx E fr a hS hf .normal fr1 h1 hs _ fun a' E' k1 k2 k3 k4 k5 => ?_
        show Code.rounds P x Q n a' E'.w
        exact ihn E' fr1 a' k2 k4 (fun a'' E'' m1 m2 m3 m4 m5 => hQ a'' E'' (k1.trans m1) m2 m3 m4 (m5.trans k5)) (by rw [k3]; exact hn)
      · rename_i hne
        refine ih x' hx E fr a hS hf ex fr' h' hn _ fun a' E' k1 k2 k3 k4 k5 => ?_
        have := hQ a' E' k1 k2 k3 k4 k5
        cases ex with
        | normal => exact absurd hn (hne _)
        | exit id => exact this
        | ret => exact this
  | exit id =>
    intro rc hr E fr a hS hf ex fr' h' hev Q hQ
    simp only [resCode] at hr; cases hr
    simp only [evalCode] at hev; cases hev
    exact wp_exit (hQ a E (Ext.refl E) hS rfl hf rfl)
  | ret =>
    intro rc hr E fr a hS hf ex fr' h' hev Q hQ
    simp only [resCode] at hr; cases hr
    simp only [evalCode] at hev; cases hev
    exact wp_ret (hQ a E (Ext.refl E) hS rfl hf rfl)
  | rangeFunc _ _ _ _ _ _ => intro rc hr; simp [resCode] at hr
  | scope _ _ => intro rc hr; simp [resCode] at hr
  | label _ => intro rc hr; simp [resCode] at hr
  | goto _ => intro rc hr; simp [resCode] at hr
  | refuse _ => intro rc hr; simp [resCode] at hr

theorem start_FR {E : Env} {args : List AV} {vs : Array Value} (hv : VRs E args vs.toList) (rf : RFunc) : FR E (startFr rf args) (vs ++ Array.replicate (rf.ntmps - vs.size) undef) := by
  obtain ⟨hl, hg⟩ := VRs_get hv
  have hl' : vs.size = args.length := by simpa using hl
  refine ⟨by simp [startFr, hl'], fun t => ?_⟩
  unfold startFr
  by_cases ht : t < args.length
  · obtain ⟨u, h1, h2⟩ := hg (List.getElem?_eq_getElem ht)
    have e1 : (args ++ List.replicate (rf.ntmps - args.length) undefA).getD t undefA = args[t] := by simp [List.getD, List.getElem?_append_left ht, ht]
    have e2 : (vs ++ Array.replicate (rf.ntmps - vs.size) undef).getD t undef = u := by
      rw [Array.getD_eq_getD_getElem?, Array.getElem?_append_left (by omega)]
      rw [Array.getElem?_toList] at h1
      rw [h1]; rfl
    rw [e1, e2]; exact h2
  · have e1 : (args ++ List.replicate (rf.ntmps - args.length) undefA).getD t undefA = undefA := by
      rw [List.getD, List.getElem?_append_right (by omega), List.getElem?_replicate]
      split <;> rfl
    have e2 : (vs ++ Array.replicate (rf.ntmps - vs.size) undef).getD t undef = undef := by
      rw [Array.getD_eq_getD_getElem?, Array.getElem?_append_right (by omega), Array.getElem?_replicate]
      split <;> rfl
    rw [e1, e2]; exact VR_undef E

theorem results_sound {E : Env} {fr : Fr} {tmps : Array Value} (hS : SR E) (hf : FR E fr tmps) (g : ResultVar → Sem Value) (g1 : ∀ t, g (.tmp t) = pure (tmps.getD t undef)) (g2 : ∀ a t, g (.cell a t) = (do loadVar t (← asAddr (tmps.getD a undef)))) : ∀ {rs : List ResultVar} {rrs : List RRes} {vs : List AV}, mapO (resRes P) rs = some rrs → resA fr E.h rrs = some vs →
    ∃ us : List Value, (rs.mapM g).run P E.w = .ok us E.w ∧ VRs E vs us
  | [], rrs, vs, hr, he => by
    simp [mapO] at hr; subst hr
    simp [resA] at he; subst he
    exact ⟨[], by simp, by simp [VRs]⟩
  | r :: rs, rrs, vs, hr, he => by
    simp only [mapO] at hr
    split at hr
    · rename_i rr rrs' h1 h2
      cases hr
      cases r with
      | tmp t =>
        simp only [resRes] at h1; cases h1
        simp only [resA, Option.map_eq_some_iff] at he
        obtain ⟨vs', hvs', rfl⟩ := he
        obtain ⟨us, u1, u2⟩ := results_sound hS hf g g1 g2 h2 hvs'
        refine ⟨tmps.getD t undef :: us, ?_, by simp only [VRs]; exact ⟨_, _, rfl, hf.val t, u2⟩⟩
        rw [List.mapM_cons, g1]
        simp only [Sem.run_bind, Sem.run_pure, Result.andThen_ok]
        rw [u1]
        simp
      | cell a t =>
        simp only [resRes] at h1
        split at h1
        · rename_i b n hb hn
          cases h1
          simp only [resA, Option.bind_eq_some_iff, Option.map_eq_some_iff] at he
          obtain ⟨v, hv, vs', hvs', rfl⟩ := he
          obtain ⟨us, u1, u2⟩ := results_sound hS hf g g1 g2 h2 hvs'
          obtain ⟨bl, of, cs, e1, e2, e3⟩ := loadA_cells hS (hf.val a) hv
          obtain ⟨u, h3, h4⟩ := run_load_cells (P := P) e2 e3 hb hn
          refine ⟨u :: us, ?_, by simp only [VRs]; exact ⟨_, _, rfl, h4, u2⟩⟩
          rw [List.mapM_cons, g2]
          have hadr : (asAddr (tmps.getD a undef)).run P E.w = .ok ⟨bl, of, none⟩ E.w := by rw [e1]; rfl
          simp only [Sem.run_bind, hadr, Sem.run_pure, Result.andThen_ok, h3]
          rw [u1]
          simp
        · cases h1
    · cases hr

theorem tupled_VR {E : Env} {vs : List AV} {us : List Value} (h : VRs E vs us) : VR E (tupled vs) (if h : us.toArray.size = 1 then us.toArray[0] else .tuple us.toArray) := by
  cases vs with
  | nil =>
    simp only [VRs] at h; subst h
    simp [tupled, VR, VRs]
  | cons v vs =>
    simp only [VRs] at h
    obtain ⟨u, us', rfl, h1, h2⟩ := h
    cases vs with
    | nil =>
      simp only [VRs] at h2; subst h2
      simpa [tupled] using h1
    | cons v' vs =>
      simp only [VRs] at h2
      obtain ⟨u', us'', rfl, h3, h4⟩ := h2
      simp only [tupled]
      rw [dif_neg (by simp)]
      simp only [VR]
      refine ⟨_, rfl, ?_⟩
      simp only [VRs]
      exact ⟨u, _, rfl, h1, u', us'', rfl, h3, h4⟩

end

/-- A function's text, resolved, and its settings, are this program's. -/
structure CfgS (P : Program) (C : Cfg) : Prop where
  code : ∀ f rf, C.code f = some rf → resFunc P C.ctx f = some rf
  spec : ∀ (f : FuncId) (s : List AV → Option AV), C.spec f = some s → ∀ (args : List AV) (r : AV), s args = some r → Program.enterable P f = true ∧
    ∀ (w : World) (ok0 : Nat → Nat → Prop) (vs : Array Value), (∀ b o, ok0 b o → b < w.heap.size) → PVs w ok0 args vs.toList →
      Calls P f vs w fun e w' => ∃ u, e = .returned u ∧ Below w.heap.size w w' ∧ PV w' (fun b o => ok0 b o ∨ (w.heap.size ≤ b ∧ b < w'.heap.size)) r u
  mixed : P.follows .mixedOrders = true

section
variable {P : Program} {C : Cfg} {O : Orc}

theorem rawA_sound (hC : CfgS P C) (hP : PureS P O) (hR : RawS P O) (hL : LoopS O) {f : FuncId} {args : List AV} {h h' : AH} {r : AV} (he : rawA C O f args h = some (r, h')) :
    Program.enterable P f = true ∧ ∀ (E : Env) (vs : Array Value), SR E → E.h = h → VRs E args vs.toList →
      Calls P f vs E.w fun e w' => ∃ u E', e = .returned u ∧ w' = E'.w ∧ Ext E E' ∧ SR E' ∧ E'.h = h' ∧ VR E' r u := by
  unfold rawA at he
  split at he
  · rename_i rf hrf
    have h1 := hC.code f rf hrf
    unfold resFunc at h1
    split at h1
    · rename_i hent
      refine ⟨hent, fun E vs hS hh hv => ?_⟩
      split at h1
      · rename_i fn hfn
        split at h1
        · rename_i b hb
          split at h1
          · rename_i rs rb hrs hrb
            cases h1
            refine calls_of_wp hfn hb ?_
            subst hh
            -- the end of the body, on either of its two ways
            have fin : ∀ (s : St) (a' : Act) (E' : Env), Ext E E' → SR E' → E'.h = s.2 → FR E' s.1 a'.tmps → a'.defers = [] → (resA s.1 s.2 rs).map (fun vs => (tupled vs, s.2)) = some (r, h') →
                a'.defers = [] ∧ ∃ v, (results fn a'.tmps).run P E'.w = .ok v E'.w ∧ ∃ u E'', Ending.returned v = .returned u ∧ E'.w = E''.w ∧ Ext E E'' ∧ SR E'' ∧ E''.h = h' ∧ VR E'' r u := by
              intro s a' E' k1 k2 k3 k4 k5 k6
              simp only [Option.map_eq_some_iff] at k6
              obtain ⟨avs, k7, k8⟩ := k6
              cases k8
              rw [← k3] at k7
              obtain ⟨us, u1, u2⟩ := results_sound (P := P) k2 k4 (fun | .tmp t => pure (a'.tmps.getD t undef) | .cell a t => do loadVar t (← asAddr (a'.tmps.getD a undef))) (fun _ => rfl) (fun _ _ => rfl) hrs k7
              refine ⟨k5, _, ?_, _, E', rfl, rfl, k1, k2, k3, tupled_VR u2⟩
              unfold results
              rw [Array.mapM_eq_mapM_toList]
              simp only [bind_map_left, Sem.run_bind]
              refine Eq.trans (congrArg (fun r => Result.andThen r _) u1) ?_
              rfl
            unfold evalBody at he
            split at he
            · rename_i s hs
              refine code_sound hP hR hL hC.mixed b rb hrb E _ _ hS (start_FR hv ⟨fn.ntmps, rs, rb⟩) .normal s.1 s.2 hs _ fun a' E' k1 k2 k3 k4 k5 => ?_
              exact fin s a' E' k1 k2 k3 k4 k5 he
            · rename_i s hs
              refine code_sound hP hR hL hC.mixed b rb hrb E _ _ hS (start_FR hv ⟨fn.ntmps, rs, rb⟩) .ret s.1 s.2 hs _ fun a' E' k1 k2 k3 k4 k5 => ?_
              exact fin s a' E' k1 k2 k3 k4 k5 he
            · cases he
          · cases h1
        · cases h1
      · cases h1
    · cases h1
  · cases he

theorem pureA_sound (hC : CfgS P C) (hP : PureS P O) (hR : RawS P O) (hL : LoopS O) {f : FuncId} {args : List AV} {r : AV} (he : pureA C O f args = some r) :
    Program.enterable P f = true ∧ ∀ (w : World) (ok0 : Nat → Nat → Prop) (vs : Array Value), (∀ b o, ok0 b o → b < w.heap.size) → PVs w ok0 args vs.toList →
      Calls P f vs w fun e w' => ∃ u, e = .returned u ∧ Below w.heap.size w w' ∧ PV w' (fun b o => ok0 b o ∨ (w.heap.size ≤ b ∧ b < w'.heap.size)) r u := by
  unfold pureA at he
  split at he
  · rename_i s hs
    exact hC.spec f s hs args r he
  · split at he
    · rename_i r0 h0 hr
      obtain ⟨h1, h2⟩ := rawA_sound hC hP hR hL hr
      refine ⟨h1, fun w ok0 vs hok hv => ?_⟩
      have hS : SR ⟨w, w.heap.size, ok0, fun _ => 0, fun _ => ⟨0, 0, 0, 0⟩, AH.empty⟩ :=
        ⟨Nat.le_refl _, fun i cs hi => by simp [AH.empty] at hi, fun k f hk => by simp [AH.empty] at hk, fun i j hi => by simp [AH.empty] at hi, fun i j hi => by simp [AH.empty] at hi, fun i j hi => by simp [AH.empty] at hi⟩
      have hv' : VRs ⟨w, w.heap.size, ok0, fun _ => 0, fun _ => ⟨0, 0, 0, 0⟩, AH.empty⟩ args vs.toList :=
        VRs_of_PVs _ _ (PVs_mono (fun b o ho => ⟨.inl ⟨hok b o ho, ho⟩, rfl⟩) _ _ hv)
      refine (h2 _ vs hS rfl hv').mono fun e w' ⟨u, E', k1, k2, k3, k4, k5, k6⟩ => ?_
      subst k2
      refine ⟨u, k1, k3.below, ?_⟩
      rw [← k5] at he
      have hbase : E'.base = w.heap.size := k3.base
      have hok0 : E'.ok0 = ok0 := k3.ok0
      refine frzRes_sound k4 ⟨fun b o ho => ?_, fun _ b o hb hlt => .inr ⟨by rw [← hbase]; exact hb, hlt⟩⟩ k6 he
      rcases ho with ⟨_, ho⟩ | ⟨ho1, ho2, _⟩
      · rw [hok0] at ho; exact .inl ho
      · rw [hbase] at ho1; exact .inr ⟨ho1, ho2⟩
    · cases he

theorem orc_sound (hC : CfgS P C) : ∀ n, PureS P (orc C n) ∧ RawS P (orc C n) ∧ LoopS (orc C n)
  | 0 => ⟨fun f args r h => (nomatch h), fun f args h r h' he => (nomatch he), fun step s x h => (nomatch h)⟩
  | n + 1 => by
    obtain ⟨h1, h2, h3⟩ := orc_sound hC n
    exact ⟨fun f args r he => pureA_sound hC h1 h2 h3 he, fun f args h r h' he => rawA_sound hC h1 h2 h3 he, fun step s x he => ⟨n + 1, he⟩⟩

end
end Go.Abs
