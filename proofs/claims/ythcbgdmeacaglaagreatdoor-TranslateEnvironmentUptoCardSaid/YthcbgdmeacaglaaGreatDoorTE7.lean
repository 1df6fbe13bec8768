/- A part of the proof. -/
import Derived.Test.YthcbgdmeacaglaaGreatDoorTE6
set_option linter.all false
namespace Go.Abs
open Go.RowKit (Below)
section
variable {E : Env} {P : Program} {fr : Fr} {a : Act} {o : Oper} {O : Orc} {c : Ctx}
def ROp.isCall : ROp → Bool
  | .call .. | .callv .. => true
  | _ => false
theorem reform_ok {el z : AV} {cs : List AV} (h : el.reform cs = some z) (hl : cs.length = el.cells.length) (hf : ∀ x ∈ cs, x.cells = [x] ∨ ∃ aas, el = .agg aas) : z.cells = cs := by
  cases el <;> simp only [AV.reform] at h
  case agg => cases h; rfl
  all_goals
    simp only [AV.cells, List.length_cons, List.length_nil] at hl
    cases cs with
    | nil => simp at hl
    | cons c r =>
      have hr : r = [] := by simpa using hl
      subst hr
      simp at h
      subst h
      rcases hf c (by simp) with h' | ⟨aas, h'⟩
      · exact h'
      · cases h'
theorem st_row_does {t : TypeId} {x y : Operand} {x' y' : Opd} {n k m i q sz : Nat} {h1 : AH} (hS : SR E) (hf : FR E fr a.tmps) (hop : o.op = .store t x y) (hn : Program.size? P t = some n) (hx : resOpd x = some x') (hy : resOpd y = some y')
    (hg : get fr x' = .ep k m i q sz) (hst : storeE E.h n (get fr y') k m i q sz = some h1) : Does P a o E undefA h1 := by
  unfold storeE at hst
  split at hst
  · rename_i f hfk
    split at hst
    · rename_i hc
      split at hst
      · rename_i el u hel hu
        split at hst
        · rename_i hl
          simp only [Option.map_eq_some_iff] at hst
          obtain ⟨z, hz, rfl⟩ := hst
          refine d_st_row hS hf hop hn hx hy hg hfk hc.1 hc.2.1 hc.2.2 hel hu hl.1 hl.2 (reform_ok hz (by simp [splice]; omega) fun w hw => ?_)
          by_cases hag : ∃ aas, el = .agg aas
          · exact .inr hag
          · refine .inl ?_
            have hel1 : el.cells = [el] := by cases el <;> first | rfl | exact absurd ⟨_, rfl⟩ hag
            rw [hel1] at hw hl
            simp only [List.length_cons, List.length_nil] at hl
            have hF := hS.fams k f hfk
            obtain ⟨hPu, hut⟩ := frz_sound hS (am := false) (ok' := E.ok) ⟨fun _ _ h => h, fun h => by cases h⟩ (opd_sound hf hy) hu
            obtain ⟨g1, g2⟩ := PV_cells hPu hut
            have hcell : ∀ {w : AV} {u : Value}, PV E.w E.ok w u → u.oneCell' = true → w.cells = [w] := by
              intro w u h1 h2
              cases w <;> first | rfl | (simp only [PV] at h1; obtain ⟨us, rfl, _⟩ := h1; simp [Value.oneCell'] at h2)
            unfold splice at hw
            simp only [List.mem_append] at hw
            rcases hw with (hw | hw) | hw
            · have := List.mem_of_mem_take hw
              simp at this; subst this; exact hel1
            · obtain ⟨j, hj⟩ := List.getElem?_of_mem hw
              obtain ⟨u', k1, k2⟩ := (PVs_get g1).2 hj
              exact hcell k2 (g2 u' (List.mem_of_getElem? k1))
            · have := List.mem_of_mem_drop hw
              simp at this; subst this; exact hel1
        · cases hst
      · cases hst
    · cases hst
  · cases hst
theorem ste_st {n : Nat} {x y : Opd} {h h' : AH} {v : AV} (he : evalOp O c (.ste n x y) fr h = some (v, h')) : storeA h n (get fr y) (get fr x) = some h' ∧ v = undefA := by
  simp only [evalOp, steA] at he
  split at he
  · rename_i k m i q s hg
    split at he
    · rename_i hfl
      split at he
      · rename_i h1 hq
        cases he
        simp only [hg, storeA, layH]
        rw [flat_frz h false hfl]
        exact ⟨hq, trivial⟩
      · cases he
    · cases he
  · cases he
theorem stb_st {n : Nat} {x y : Opd} {h h' : AH} {v : AV} (he : evalOp O c (.stb n x y) fr h = some (v, h')) : storeA h n (get fr y) (get fr x) = some h' ∧ v = undefA := by
  simp only [evalOp, stbA] at he
  split at he
  · rename_i b q hg
    split at he
    · rename_i cs hcs
      split at he
      · rename_i hc
        cases he
        simp only [hg, storeA, hcs]
        rw [if_pos hc]
        exact ⟨rfl, trivial⟩
      · rename_i hc
        rw [Option.map_eq_some_iff] at he
        obtain ⟨h1, h2, h3⟩ := he
        cases h3
        simp only [hg, storeA, hcs]
        rw [if_neg hc, h2]
        exact ⟨rfl, trivial⟩
    · cases he
  · cases he
theorem Does.lay {h1 : AH} (h : Does P a o E undefA h1) (b : Bool) (x : AV) : Does P a o E undefA (layS b h1 x) := by
  unfold layS
  split
  · obtain ⟨nx, u, E', e1, e3, e4, e5, e6, e7⟩ := h
    obtain ⟨E2, r2, q2⟩ := rst0_ok e5 x
    exact ⟨nx, u, E2, by rw [r2.w]; exact e1, e3, e4.trans r2.ext, r2.sr, by rw [q2, e6], VR_ext r2.ext _ _ e7⟩
  · exact h
theorem op_does (hS : SR E) (hf : FR E fr a.tmps) {r r0 : ROp} (hr : resOp P o.op = some r0) (hlax : r = r0 ∨ ∃ m, r = r0.lax m) {v : AV} {h' : AH} (hev : evalOp O c r fr E.h = some (v, h')) (hnc : r.isCall = false) : Does P a o E v h' := by
  cases hop : o.op with
  | move x =>
    rw [hop] at hr; simp only [resOp, Option.map_eq_some_iff] at hr
    obtain ⟨y, hy, rfl⟩ := hr
    obtain rfl : r = .mov y := by rcases hlax with h | ⟨_, h⟩ <;> exact h
    simp only [evalOp] at hev; cases hev
    exact (q_mov hf (.inl hop) hy).does hS
  | assign x =>
    rw [hop] at hr; simp only [resOp, Option.map_eq_some_iff] at hr
    obtain ⟨y, hy, rfl⟩ := hr
    obtain rfl : r = .mov y := by rcases hlax with h | ⟨_, h⟩ <;> exact h
    simp only [evalOp] at hev; cases hev
    exact (q_mov hf (.inr hop) hy).does hS
  | pick q x y =>
    rw [hop] at hr; simp only [resOp] at hr
    split at hr
    · rename_i q' x' y' h1 h2 h3
      cases hr
      obtain rfl : r = .pick q' x' y' := by rcases hlax with h | ⟨_, h⟩ <;> exact h
      simp only [evalOp] at hev
      split at hev
      · rename_i t ht
        cases hev
        exact (q_pick hf hop h1 h2 h3 ht).does hS
      · cases hev
    · cases hr
  | alloc t =>
    rw [hop] at hr; simp only [resOp, Option.map_eq_some_iff] at hr
    obtain ⟨z, hz, rfl⟩ := hr
    obtain rfl : r = .alloc (tagT t z) := by rcases hlax with h | ⟨_, h⟩ <;> exact h
    simp only [evalOp] at hev; cases hev
    exact d_alloc hS hop hz
  | box t x =>
    rw [hop] at hr; simp only [resOp, Option.map_eq_some_iff] at hr
    obtain ⟨y, hy, rfl⟩ := hr
    obtain rfl : r = .box y := by rcases hlax with h | ⟨_, h⟩ <;> exact h
    simp only [evalOp] at hev
    split at hev
    · cases hev
    · rename_i ht
      cases hev
      exact d_box hS hf hop hy (by simpa using ht)
  | build t parts =>
    rw [hop] at hr; simp only [resOp] at hr
    split at hr
    · rename_i fs zs hu hz
      split at hr
      · rename_i hs
        simp only [Option.map_eq_some_iff] at hr
        obtain ⟨ps, hp, rfl⟩ := hr
        obtain rfl : r = .build (.agg zs) ps := by rcases hlax with h | ⟨_, h⟩ <;> exact h
        simp only [evalOp, AV.cells] at hev
        split at hev
        · rename_i qs hq
          cases hev
          exact (q_build hf hop hu hz hs hp hq).does hS
        · cases hev
      · cases hr
    · cases hr
  | buildSlice t len parts =>
    rw [hop] at hr; simp only [resOp] at hr
    split at hr
    · rename_i e hu
      split at hr
      · rename_i z n ps hz hn hp
        split at hr
        · rename_i hc
          cases hr
          have hev : evalOp O c (.bslice len z ps) fr E.h = some (v, h') := by
            rcases hlax with rfl | ⟨_, rfl⟩
            · exact hev
            · simp only [ROp.lax, evalOp] at hev
              split at hev
              · simp only [evalOp]; exact hev
              · cases hev
          simp only [evalOp] at hev
          split at hev
          · rename_i xs hx
            cases hev
            exact d_bslice hS hf hop hu hz hn hc.1 hc.2 hp hx
          · cases hev
        · cases hr
      · cases hr
    · cases hr
  | load t x =>
    rw [hop] at hr; simp only [resOp] at hr
    split at hr
    · rename_i b n y hb hn hy
      cases hr
      have key : ∃ w, loadA E.h b n (get fr y) = some w ∧ (w, E.h) = (v, h') := by
        rcases hlax with rfl | ⟨_, rfl⟩
        · simp only [evalOp] at hev
          split at hev
          · rename_i w hw; exact ⟨w, hw, by simpa using hev⟩
          · cases hev
        · simp only [ROp.lax, evalOp] at hev
          split at hev
          · cases hev
          · split at hev
            · rename_i w hw; exact ⟨w, hw, by simpa using hev⟩
            · cases hev
      obtain ⟨w, hw, he⟩ := key
      cases he
      exact (q_ld hS hf hop hb hn hy hw).does hS
    · cases hr
  | store t x y =>
    rw [hop] at hr; simp only [resOp] at hr
    split at hr
    · rename_i n x' y' hn hx hy
      cases hr
      have hev0 : ∃ h1 b, storeA E.h n (get fr y') (get fr x') = some h1 ∧ v = undefA ∧ h' = layS b h1 (get fr y') := by
        have hst : evalOp O c (.st n x' y') fr E.h = some (v, h') → ∃ h1 b, storeA E.h n (get fr y') (get fr x') = some h1 ∧ v = undefA ∧ h' = layS b h1 (get fr y') := fun hev => by
          simp only [evalOp] at hev
          split at hev
          · rename_i h1 hst
            cases hev
            exact ⟨h1, c.lay, hst, rfl, rfl⟩
          · cases hev
        rcases hlax with rfl | ⟨m, rfl⟩
        · exact hst hev
        · obtain ⟨m, mk⟩ := m
          cases m with
          | none => exact hst hev
          | some b =>
            cases b with
            | true => exact ⟨h', false, (ste_st hev).1, (ste_st hev).2, rfl⟩
            | false => exact ⟨h', false, (stb_st hev).1, (stb_st hev).2, rfl⟩
      clear hev hlax
      obtain ⟨h1, bl, hst, rfl, rfl⟩ := hev0
      refine Does.lay ?_ bl _
      · unfold storeA at hst
        split at hst
        · rename_i b off hg
          split at hst
          · rename_i cs hcs
            split at hst
            · rename_i hc
              cases hst
              exact d_st_box hS hf hop hn hx hy hg hcs hc.1 hc.2.1 hc.2.2.1 hc.2.2.2
            · unfold stT at hst
              split at hst
              · split at hst
                · rename_i hc
                  cases hst
                  exact d_st_tbox hS hf hop hn hx hy hg hcs hc.1 hc.2.1 hc.2.2
                · cases hst
              · cases hst
          · cases hst
        · rename_i k m i q sz hg
          split at hst
          case h_2 => cases hst
          rename_i h2 hlay
          unfold layH at hlay
          split at hlay
          · cases hlay
            exact st_row_does hS hf hop hn hx hy hg hst
          · unfold rstF at hlay
            split at hlay
            case h_3 => cases hlay
            · rename_i cs2 hgy
              cases hlay
              obtain ⟨E2, r2, e2⟩ := rstL_ok cs2 hS
              rw [← e2] at hst
              obtain ⟨nx, u, E', e1, e3, e4, e5, e6, e7⟩ := st_row_does (E := E2) r2.sr (hf.ext r2.ext) hop hn hx hy hg hst
              exact ⟨nx, u, E', by rw [← r2.w]; exact e1, e3, r2.ext.trans e4, e5, e6, e7⟩
            rename_i k2 n2 off2 len2 hgy
            split at hlay
            case h_2 => cases hlay
            rename_i f2 hf2
            cases hlay
            have hx1 := rstFam_ext hf2
            obtain ⟨nx, u, E', e1, e2, e3, e4, e5, e6⟩ := st_row_does (E := E.rstFam k2 f2) (rstFam_SR hS hf2) (hf.ext hx1) hop hn hx hy hg hst
            exact ⟨nx, u, E', e1, e2, hx1.trans e3, e4, e5, e6⟩
        · cases hst
    · cases hr
  | nilCheck x =>
    rw [hop] at hr; simp only [resOp, Option.map_eq_some_iff] at hr
    obtain ⟨y, hy, rfl⟩ := hr
    obtain rfl : r = .nilck y := by rcases hlax with h | ⟨_, h⟩ <;> exact h
    simp only [evalOp] at hev
    have : h' = E.h := by split at hev <;> first | (cases hev; rfl) | cases hev
    subst this
    exact (q_nilck hf hop hy hev).does hS
  | binOp op t x y t' =>
    rw [hop] at hr; simp only [resOp] at hr
    split at hr
    · rename_i x' y' hx hy
      have gen : r0 = .bin op x' y' → Does P a o E v h' := by
        intro h; subst h
        obtain rfl : r = .bin op x' y' := by rcases hlax with h | ⟨_, h⟩ <;> exact h
        simp only [evalOp] at hev
        split at hev
        · rename_i w hw; cases hev; exact (q_bin hf hop hx hy hw).does hS
        · cases hev
      split at hr
      · rename_i ht
        cases hr
        obtain rfl : r = .beq false x' y' := by rcases hlax with h | ⟨_, h⟩ <;> exact h
        simp only [evalOp] at hev
        split at hev
        · rename_i i j hi hj; cases hev; exact (q_beq (neg := false) hf hop ht hx hy hi hj).does hS
        · cases hev
      · rename_i ht
        cases hr
        obtain rfl : r = .beq true x' y' := by rcases hlax with h | ⟨_, h⟩ <;> exact h
        simp only [evalOp] at hev
        split at hev
        · rename_i i j hi hj; cases hev; exact (q_beq (neg := true) hf hop ht hx hy hi hj).does hS
        · cases hev
      · rename_i ht
        split at hr
        · cases hr
          obtain rfl : r = .nileq false x' := by rcases hlax with h | ⟨_, h⟩ <;> exact h
          simp only [evalOp] at hev
          obtain ⟨rfl, hq⟩ := q_nq (neg := false) hf hop ht hx hy hev
          exact hq.does hS
        · cases hr
      · rename_i ht
        split at hr
        · cases hr
          obtain rfl : r = .nileq true x' := by rcases hlax with h | ⟨_, h⟩ <;> exact h
          simp only [evalOp] at hev
          obtain ⟨rfl, hq⟩ := q_nq (neg := true) hf hop ht hx hy hev
          exact hq.does hS
        · cases hr
      · cases hr; exact gen rfl
    · cases hr
  | unOp op t x =>
    rw [hop] at hr; simp only [resOp, Option.map_eq_some_iff] at hr
    obtain ⟨y, hy, rfl⟩ := hr
    obtain rfl : r = .un op y := by rcases hlax with h | ⟨_, h⟩ <;> exact h
    simp only [evalOp] at hev
    split at hev
    · rename_i w hw; cases hev; exact (q_un hf hop hy hw).does hS
    · cases hev
  | convert s d x =>
    rw [hop] at hr; simp only [resOp] at hr
    split at hr
    · rename_i k0 k hs hd
      simp only [Option.map_eq_some_iff] at hr
      obtain ⟨y, hy, rfl⟩ := hr
      obtain rfl : r = .conv k y := by rcases hlax with h | ⟨_, h⟩ <;> exact h
      simp only [evalOp] at hev
      split at hev
      · rename_i q n hq; cases hev; exact (q_conv hf hop hs hd hy hq).does hS
      · cases hev
    · rename_i hs hd
      simp only [Option.map_eq_some_iff] at hr
      obtain ⟨y, hy, rfl⟩ := hr
      obtain rfl : r = .cstr y := by rcases hlax with h | ⟨_, h⟩ <;> exact h
      simp only [evalOp] at hev
      split at hev
      · rename_i n hq; cases hev; exact (q_cstr hf hop hs hd hy hq).does hS
      · cases hev
    · rename_i e hs hd
      split at hr
      · rename_i he
        simp only [Option.map_eq_some_iff] at hr
        obtain ⟨y, hy, rfl⟩ := hr
        obtain rfl : r = .bstr y := by rcases hlax with h | ⟨_, h⟩ <;> exact h
        simp only [evalOp] at hev
        exact q_bstr hS hf hop hs hd he hy hev
      · cases hr
    · cases hr
  | makeFunc fn first caps =>
    rw [hop] at hr
    cases fn <;> simp only [resOp] at hr <;> try (cases hr; done)
    split at hr
    · rename_i f h0
      simp only [Option.map_eq_some_iff] at hr
      obtain ⟨cs, hc, rfl⟩ := hr
      obtain rfl : r = .clos _ cs := by rcases hlax with h | ⟨_, h⟩ <;> exact h
      simp only [evalOp] at hev
      split at hev
      · exact d_closro hS hf hop h0 hc hev
      · cases hev
        exact (q_clos hf hop h0 hc).does hS
    · cases hr
  | makeSlice t l q =>
    rw [hop] at hr; simp only [resOp] at hr
    split at hr
    · rename_i e hu
      split at hr
      · rename_i i z l' q' hi hz hl hq
        split at hr
        · rename_i hpos
          cases hr
          have hcase : r = .mkslice z i.bytes l' q' ∨ r = .mkv z i.bytes l' q' := by
            rcases hlax with h | ⟨⟨m, mk⟩, h⟩
            · exact .inl h
            · cases mk
              · exact .inl h
              · exact .inr h
          rcases hcase with rfl | rfl
          case inr => exact d_mkv hS hf hop hu hi hz hpos hl hq hev
          simp only [evalOp] at hev
          split at hev
          · rename_i k1 x k2 y hx hy
            split at hev
            · rename_i hc
              cases hev
              exact d_mkslice hS hf hop hu hi hz hpos hl hq hx hy hc.1 hc.2.1 hc.2.2.1 hc.2.2.2
            · cases hev
          · cases hev
        · cases hr
      · cases hr
    · cases hr
  | slice t x lo hi mx =>
    rw [hop] at hr; simp only [resOp] at hr
    split at hr
    · rename_i x' lo' hi' ht hx hlo hhi hmx
      cases hr
      obtain rfl : r = .slc 0 x' lo' hi' none := by rcases hlax with h | ⟨_, h⟩ <;> exact h
      have hmn : mx = none := by
        cases mx with
        | none => rfl
        | some m => simp [resOpt] at hmx
      subst hmn
      simp only [evalOp] at hev
      split at hev
      · rename_i l u m hl hu hm
        simp only [boundA] at hm
        cases hm
        split at hev
        · rename_i w hw
          cases hev
          unfold sliceA at hw
          split at hw
          · rename_i s hs
            dsimp only at hw
            split at hw
            · rename_i hc
              cases hw
              exact (q_slc_str hf hop ht hx hlo hhi hs hl hu hc.2.2.1 hc.2.2.2.1 hc.2.2.2.2).does hS
            · cases hw
          · simp at hw
          · split at hw <;> simp at hw
          · cases hw
        · cases hev
      · cases hev
    · rename_i e x' lo' hi' mx' ht hx hlo hhi hmx
      split at hr
      · rename_i n hn
        split at hr
        · rename_i hpos
          cases hr
          obtain rfl : r = .slc n x' lo' hi' mx' := by rcases hlax with h | ⟨_, h⟩ <;> exact h
          simp only [evalOp] at hev
          split at hev
          · rename_i l u m hl hu hm
            split at hev
            · rename_i w hw
              cases hev
              unfold sliceA at hw
              split at hw
              · simp [show ¬ n = 0 from by omega] at hw
              · rename_i full z xs hg
                dsimp only at hw
                simp only [hpos, true_and] at hw
                split at hw
                · rename_i hz
                  split at hw
                  · split at hw
                    · rename_i hc
                      cases hw
                      exact (q_slc_vs hf hop ht hn hx hlo hhi hmx hg hl hu hm hz hc.1 hc.2.1 (.inl ⟨rfl, hc.2.2, rfl⟩)).does hS
                    · cases hw
                  · rename_i q
                    split at hw
                    · rename_i hc
                      cases hw
                      exact (q_slc_vs hf hop ht hn hx hlo hhi hmx hg hl hu hm hz hc.2.1 hc.2.2.1 (.inr ⟨q, rfl, hc.1, hc.2.2.2.1, hc.2.2.2.2, rfl⟩)).does hS
                    · cases hw
                · cases hw
              · rename_i k m0 off len hg
                dsimp only at hw
                split at hw
                · rename_i f hfk
                  simp only [hpos, true_and] at hw
                  split at hw
                  · rename_i hz
                    split at hw
                    · split at hw
                      · rename_i hc
                        cases hw
                        exact (q_slc_sl hS hf hop ht hn hx hlo hhi hmx hg hl hu hm hfk hz.1 hz.2 (.inl (.inl ⟨rfl, hc.1, hc.2.1, .inl hc.2.2, rfl⟩))).does hS
                      · split at hw
                        · rename_i hc
                          cases hw
                          exact (q_slc_sl hS hf hop ht hn hx hlo hhi hmx hg hl hu hm hfk hz.1 hz.2 (.inl (.inl ⟨rfl, hc.1, hc.2.1, .inr hc.2.2, rfl⟩))).does hS
                        · cases hw
                    · rename_i q
                      split at hw
                      · rename_i hc
                        cases hw
                        obtain ⟨c1, c2, c3, rfl⟩ := hc
                        exact (q_slc_sl hS hf hop ht hn hx hlo hhi hmx hg hl hu hm hfk hz.1 hz.2 (.inl (.inr ⟨rfl, c1, c2, c3, rfl⟩))).does hS
                      · split at hw
                        · rename_i hc
                          cases hw
                          exact (q_slc_sl hS hf hop ht hn hx hlo hhi hmx hg hl hu hm hfk hz.1 hz.2 (.inr ⟨q, rfl, hc.1, hc.2.1, hc.2.2.1, hc.2.2.2.1, hc.2.2.2.2, rfl⟩)).does hS
                        · cases hw
                  · cases hw
                · cases hw
              · cases hw
            · cases hev
          · cases hev
        · cases hr
      · cases hr
    · cases hr
  | fieldAddr s x i =>
    rw [hop] at hr; simp only [resOp] at hr
    split at hr
    · rename_i fs x' hs hx
      split at hr
      · rename_i f hi
        split at hr
        · rename_i n hn
          split at hr
          · rename_i hpos
            cases hr
            obtain rfl : r = .faddr f.offset x' := by rcases hlax with h | ⟨_, h⟩ <;> exact h
            simp only [evalOp] at hev
            have : h' = E.h := by split at hev <;> first | (cases hev; rfl) | cases hev
            subst this
            exact (q_faddr hf hop hs hi hn hpos hx hev).does hS
          · cases hr
        · cases hr
      · cases hr
    · cases hr
  | field s x i =>
    rw [hop] at hr; simp only [resOp] at hr
    split at hr
    · rename_i fs x' hs hx
      split at hr
      · rename_i f hi
        split at hr
        · rename_i b n hb hn
          cases hr
          obtain rfl : r = .fld b f.offset n x' := by rcases hlax with h | ⟨_, h⟩ <;> exact h
          simp only [evalOp] at hev
          split at hev
          · rename_i cs hg
            split at hev
            · rename_i w hw; cases hev; exact (q_fld hf hop hs hi hb hn hx hg hw).does hS
            · cases hev
          · cases hev
        · cases hr
      · cases hr
    · cases hr
  | indexAddr t x i =>
    rw [hop] at hr; simp only [resOp] at hr
    split at hr
    · rename_i e x' i' ht hx hi
      split at hr
      · rename_i n hn
        split at hr
        · cases hr
          obtain rfl : r = .iaddr n x' i' := by rcases hlax with h | ⟨_, h⟩ <;> exact h
          simp only [evalOp] at hev
          have : h' = E.h := by
            split at hev
            · split at hev
              · split at hev <;> first | (cases hev; rfl) | cases hev
              · cases hev
            · split at hev <;> first | (cases hev; rfl) | cases hev
            · split at hev <;> first | (cases hev; rfl) | cases hev
            · cases hev
          subst this
          exact (q_iaddr hS hf hop ht hn hx hi hev).does hS
        · cases hr
      · cases hr
    · cases hr
  | index t x i =>
    rw [hop] at hr; simp only [resOp] at hr
    split at hr
    · rename_i x' i' ht hx hi
      cases hr
      obtain rfl : r = .idx x' i' := by rcases hlax with h | ⟨_, h⟩ <;> exact h
      simp only [evalOp] at hev
      split at hev
      · rename_i s q j hg hj
        split at hev
        · rename_i h0
          split at hev
          · rename_i b hb; cases hev; exact (q_idx hf hop ht hx hi hg hj h0 hb).does hS
          · cases hev
        · cases hev
      · cases hev
    · cases hr
  | extract x i =>
    rw [hop] at hr; simp only [resOp, Option.map_eq_some_iff] at hr
    obtain ⟨y, hy, rfl⟩ := hr
    obtain rfl : r = .ext y i := by rcases hlax with h | ⟨_, h⟩ <;> exact h
    simp only [evalOp] at hev
    split at hev
    · rename_i vs hg
      split at hev
      · rename_i w hw; cases hev; exact (q_ext hf hop hy hg hw).does hS
      · cases hev
    · cases hev
  | call q =>
    rw [hop] at hr
    obtain ⟨callee, args, ats⟩ := q
    cases callee with
    | invoke x m => simp [resOp] at hr
    | value x =>
      cases x <;> simp only [resOp] at hr <;> try (cases hr; done)
      · simp only [Option.map_eq_some_iff] at hr
        obtain ⟨aas, _, rfl⟩ := hr
        rcases hlax with rfl | ⟨_, rfl⟩ <;> simp [ROp.isCall, ROp.lax] at hnc
      · split at hr
        · simp only [Option.map_eq_some_iff] at hr
          obtain ⟨aas, _, rfl⟩ := hr
          rcases hlax with rfl | ⟨_, rfl⟩ <;> simp [ROp.isCall, ROp.lax] at hnc
        · cases hr
    | builtin b =>
      cases b <;> simp only [resOp] at hr <;> try (cases hr; done)
      case append =>
        split at hr
        · rename_i s x t u h1 h2
          split at hr
          · rename_i e ht
            split at hr
            · rename_i i z s' x' hi hz hs hx
              split at hr
              · rename_i hc
                cases hr
                obtain ⟨hpos, rfl⟩ := hc
                obtain rfl : r = .app i.size i.bytes s' x' := by rcases hlax with h | ⟨_, h⟩ <;> exact h
                simp only [evalOp, appendA] at hev
                split at hev
                · cases hev
                · rename_i ys hys
                  obtain ⟨news, hsrc⟩ := src_slice hS hf ht hi hpos hx hys
                  exact appY_does hS hf hop h1 h2 ht hi hz hpos hs hsrc hev
              · split at hr
                case h_2 => cases hr
                rename_i hu
                split at hr
                · rename_i hs1
                  cases hr
                  obtain rfl : r = .apps i.bytes s' x' := by rcases hlax with h | ⟨_, h⟩ <;> exact h
                  simp only [evalOp, appsA] at hev
                  split at hev
                  · rename_i str hstr
                    have hv := opd_sound hf hx
                    rw [hstr] at hv
                    simp only [VR] at hv
                    have hsrc : Src P E t u e i (a.eval x) (bytesA str) (Lib.strCells str) := by
                      rw [hv]
                      exact src_str ht hu hi hs1 str
                    rw [← hs1] at hev
                    exact appY_does hS hf hop h1 h2 ht hi hz (by omega) hs hsrc hev
                  · cases hev
                · cases hr
            · cases hr
          · cases hr
        · cases hr
      case len =>
        split at hr
        · rename_i x t h1 h2
          split at hr
          · rename_i ht
            simp only [Option.map_eq_some_iff] at hr
            obtain ⟨y, hy, rfl⟩ := hr
            obtain rfl : r = .len true y := by rcases hlax with h | ⟨_, h⟩ <;> exact h
            simp only [evalOp] at hev
            split at hev
            · rename_i s hs; cases hev; exact (q_len_str hf hop h1 h2 ht hy hs).does hS
            · cases hev
          · rename_i e ht
            simp only [Option.map_eq_some_iff] at hr
            obtain ⟨y, hy, rfl⟩ := hr
            obtain rfl : r = .len false y := by rcases hlax with h | ⟨_, h⟩ <;> exact h
            simp only [evalOp] at hev
            have : h' = E.h := by split at hev <;> first | (cases hev; rfl) | cases hev
            subst this
            exact (q_len hf hop h1 h2 ht hy hev).does hS
          · rename_i kt et ht
            simp only [Option.map_eq_some_iff] at hr
            obtain ⟨y, hy, rfl⟩ := hr
            obtain rfl : r = .mlen y := by rcases hlax with h | ⟨_, h⟩ <;> exact h
            simp only [evalOp] at hev
            exact q_mlen hS hf hop h1 h2 ht hy hev
          · cases hr
        · cases hr
      case clear =>
        split at hr
        · rename_i x t h1 h2
          split at hr
          · rename_i e ht
            split at hr
            · rename_i z x' hz hx
              cases hr
              obtain rfl : r = .clr z x' := by rcases hlax with h | ⟨_, h⟩ <;> exact h
              exact d_clr hS hf hop h1 h2 ht hz hx hev
            · cases hr
          · cases hr
        · cases hr
      case max =>
        split at hr
        · rename_i x y h1
          split at hr
          · rename_i x' y' hx hy
            cases hr
            obtain rfl : r = .max x' y' := by rcases hlax with h | ⟨_, h⟩ <;> exact h
            simp only [evalOp] at hev
            split at hev
            · rename_i k i k' j hi hj
              split at hev
              · cases hev; exact (q_max hf hop h1 hx hy hi hj).does hS
              · cases hev
            · cases hev
          · cases hr
        · cases hr
      case min =>
        split at hr
        · rename_i x y h1
          split at hr
          · rename_i x' y' hx hy
            cases hr
            obtain rfl : r = .min x' y' := by rcases hlax with h | ⟨_, h⟩ <;> exact h
            simp only [evalOp] at hev
            split at hev
            · rename_i k i k' j hi hj
              split at hev
              · cases hev; exact (q_min hf hop h1 hx hy hi hj).does hS
              · cases hev
            · cases hev
          · cases hr
        · cases hr
  | makeMap t q =>
    cases q with
    | some q => rw [hop] at hr; simp [resOp] at hr
    | none =>
      rw [hop] at hr; simp only [resOp] at hr
      split at hr
      · cases hr
        obtain rfl : r = .mkmap := by rcases hlax with h | ⟨_, h⟩ <;> exact h
        simp only [evalOp] at hev; cases hev
        exact d_mkmap hS hop
      · cases hr
  | lookup t x k ok =>
    rw [hop] at hr; simp only [resOp] at hr
    split at hr
    · rename_i kt et hu
      split at hr
      · rename_i b z x' k' hk hz hx hkk
        cases hr
        obtain rfl : r = .mlook b ok z x' k' := by rcases hlax with h | ⟨_, h⟩ <;> exact h
        simp only [evalOp] at hev
        exact d_mlook hS hf hop hu hk hz hx hkk hev
      · rename_i z x' k' _ hz hx hkk
        split at hr
        · rename_i hp
          cases hr
          obtain rfl : r = .mlookp ok z x' k' := by rcases hlax with h | ⟨_, h⟩ <;> exact h
          simp only [evalOp] at hev
          exact d_mlookp hS hf hop hu hp hz hx hkk hev
        · cases hr
      · cases hr
    · cases hr
  | mapUpdate t m k x =>
    rw [hop] at hr; simp only [resOp] at hr
    split at hr
    · rename_i kt et hu
      split at hr
      · rename_i b m' k' x' hk hm hkk hx
        cases hr
        obtain rfl : r = .mup b m' k' x' := by rcases hlax with h | ⟨_, h⟩ <;> exact h
        simp only [evalOp] at hev
        exact d_mup hS hf (.inl hop) hu hk hm hkk hx hev
      · rename_i m' k' x' _ hm hkk hx
        split at hr
        · rename_i hp
          cases hr
          obtain rfl : r = .mupp m' k' x' := by rcases hlax with h | ⟨_, h⟩ <;> exact h
          simp only [evalOp] at hev
          exact d_mupp hS hf (.inl hop) hu hp hm hkk hx hev
        · cases hr
      · cases hr
    · cases hr
  | insert t m k x =>
    rw [hop] at hr; simp only [resOp] at hr
    split at hr
    · rename_i kt et hu
      split at hr
      · rename_i b m' k' x' hk hm hkk hx
        cases hr
        obtain rfl : r = .mup b m' k' x' := by rcases hlax with h | ⟨_, h⟩ <;> exact h
        simp only [evalOp] at hev
        exact d_mup hS hf (.inr hop) hu hk hm hkk hx hev
      · rename_i m' k' x' _ hm hkk hx
        split at hr
        · rename_i hp
          cases hr
          obtain rfl : r = .mupp m' k' x' := by rcases hlax with h | ⟨_, h⟩ <;> exact h
          simp only [evalOp] at hev
          exact d_mupp hS hf (.inr hop) hu hp hm hkk hx hev
        · cases hr
      · cases hr
    · cases hr
  | _ => rw [hop] at hr; simp [resOp] at hr
theorem bxd_same {p : Op} {r : ROp} (hr : resOp P p = some r) (hp : ∀ t l q, p ≠ .makeSlice t l q) : r.bxd = r := by
  unfold resOp at hr
  repeat' (split at hr)
  all_goals first
    | (cases hr; done)
    | (exfalso; exact hp _ _ _ rfl)
    | (cases hr; rfl)
    | (simp only [Option.map_eq_some_iff] at hr; obtain ⟨y, _, rfl⟩ := hr; rfl)
theorem op_doesB0 (hS : SR E) (hf : FR E fr a.tmps) {r r0 : ROp} (hr : resOp P o.op = some r0) (hlax : (r = r0 ∨ ∃ m, r = r0.lax m) ∨ (r = r0.bxd ∨ ∃ m, r = r0.bxd.lax m)) {v : AV} {h' : AH} (hev : evalOp O c r fr E.h = some (v, h')) (hnc : r.isCall = false) : Does P a o E v h' := by
  rcases hlax with hlax | hlax
  · exact op_does hS hf hr hlax hev hnc
  · by_cases hp : ∃ t l q, o.op = .makeSlice t l q
    · obtain ⟨t, l, q, hop⟩ := hp
      rw [hop] at hr; simp only [resOp] at hr
      split at hr
      · rename_i e hu
        split at hr
        · rename_i i z l' q' hi hz hl hq
          split at hr
          · rename_i hpos
            cases hr
            obtain rfl : r = .mkb z i.bytes l' q' := by rcases hlax with h | ⟨_, h⟩ <;> exact h
            simp only [evalOp] at hev
            exact d_mkb hS hf hop hu hi hz hpos hl hq hev
          · cases hr
        · cases hr
      · cases hr
    · rw [bxd_same hr fun t l q e => hp ⟨t, l, q, e⟩] at hlax
      exact op_does hS hf hr hlax hev hnc
theorem alloc_form {p : Op} {z : AV} (hr : resOp P p = some (.alloc z)) : ∃ t z0, p = .alloc t ∧ Program.zeroA P t = some z0 ∧ z = tagT t z0 := by
  unfold resOp at hr
  repeat' (split at hr)
  all_goals first
    | (cases hr; done)
    | (simp only [Option.map_eq_some_iff] at hr; obtain ⟨y, h1, h2⟩ := hr; cases h2; done)
    | (simp only [Option.map_eq_some_iff] at hr; obtain ⟨y, h1, h2⟩ := hr; cases h2; exact ⟨_, _, rfl, h1, rfl⟩)
theorem op_doesB (hS : SR E) (hf : FR E fr a.tmps) {r r0 : ROp} (hr : resOp P o.op = some r0) (hlax : ((r = r0 ∨ ∃ m, r = r0.lax m) ∨ (r = r0.bxd ∨ ∃ m, r = r0.bxd.lax m)) ∨ ∃ n z, r0 = .alloc z ∧ r = .allocAt n z) {v : AV} {h' : AH} (hev : evalOp O c r fr E.h = some (v, h')) (hnc : r.isCall = false) : Does P a o E v h' := by
  rcases hlax with hlax | ⟨n, z, rfl, rfl⟩
  · exact op_doesB0 hS hf hr hlax hev hnc
  · obtain ⟨t, z0, hop, hz, rfl⟩ := alloc_form hr
    simp only [evalOp] at hev
    exact d_allocAt hS hop hz hev
end
mutual
theorem VR_free {E E' : Env} (hw : E'.w = E.w) (hok : ∀ b o, E.ok b o → E'.ok b o) (hf : E'.h.fams = E.h.fams) (him : E'.im = E.im) : ∀ (x : AV) (v : Value), noPtr x = true → VR E x v → VR E' x v
  | .agg cs, v, hn, hx => by
    simp only [VR, noPtr] at hx hn ⊢
    obtain ⟨us, rfl, h1, hu⟩ := hx
    exact ⟨us, rfl, h1, VRs_free hw hok hf him cs us.toList hn hu⟩
  | .tup cs, v, hn, hx => by
    simp only [VR, noPtr] at hx hn ⊢
    obtain ⟨us, rfl, hu⟩ := hx
    exact ⟨us, rfl, VRs_free hw hok hf him cs us.toList hn hu⟩
  | .fn f cs, v, hn, hx => by
    simp only [VR, noPtr] at hx hn ⊢
    obtain ⟨us, rfl, hu⟩ := hx
    exact ⟨us, rfl, VRs_free hw hok hf him cs us.toList hn hu⟩
  | .sl k n off len, v, _, hx => by
    simp only [VR, hf, him] at hx ⊢
    exact hx
  | .ep k n i c sz, v, _, hx => by
    simp only [VR, hf, him] at hx ⊢
    exact hx
  | .ptr .., v, hn, _ => by simp [noPtr] at hn
  | .mp _, v, hn, _ => by simp [noPtr] at hn
  | .bsl .., v, hn, _ => by simp [noPtr] at hn
  | .vm ks vs, v, _, hx => by
    simp only [VR] at hx ⊢
    refine PV_mono (fun b o h => ⟨hok b o h, ?_⟩) _ _ hx
    rw [hw]; exact Stay.refl _ _ _
  | .vs full sz xs, v, _, hx => by
    simp only [VR] at hx ⊢
    refine PV_mono (fun b o h => ⟨hok b o h, ?_⟩) _ _ hx
    rw [hw]; exact Stay.refl _ _ _
  | .pv cs, v, _, hx => by
    simp only [VR] at hx ⊢
    refine PV_mono (fun b o h => ⟨hok b o h, ?_⟩) _ _ hx
    rw [hw]; exact Stay.refl _ _ _
  | .mbox .., v, _, hx => by simp [VR] at hx
  | .rbox _, v, _, hx => by simp [VR] at hx
  | .tbox .., v, _, hx => by simp [VR] at hx
  | .nilm, v, _, hx => by simpa [VR] using hx
  | .junk, v, _, hx => by simpa [VR] using hx
  | .bool b, v, _, hx => by simpa [VR] using hx
  | .int k n, v, _, hx => by simpa [VR] using hx
  | .str s, v, _, hx => by simpa [VR] using hx
  | .nilp, v, _, hx => by simpa [VR] using hx
  | .nilf, v, _, hx => by simpa [VR] using hx
theorem VRs_free {E E' : Env} (hw : E'.w = E.w) (hok : ∀ b o, E.ok b o → E'.ok b o) (hf : E'.h.fams = E.h.fams) (him : E'.im = E.im) : ∀ (cs : List AV) (us : List Value), noPtrs cs = true → VRs E cs us → VRs E' cs us
  | [], us, _, hx => by simpa [VRs] using hx
  | c :: cs, us, hn, hx => by
    simp only [VRs, noPtrs, Bool.and_eq_true] at hx hn ⊢
    obtain ⟨u, us', rfl, h1, h2⟩ := hx
    exact ⟨u, us', rfl, VR_free hw hok hf him c u hn.1 h1, VRs_free hw hok hf him cs us' hn.2 h2⟩
end
mutual
theorem VR_keep {E0 E E' : Env} (hw : E'.w = E.w) (hok : ∀ b o, E.ok b o → E'.ok b o) (hf : E'.h.fams = E.h.fams) (him : E'.im = E.im) (hnb : E'.nb = E.nb) (hbl : ∀ i, E0.Live i → E'.Live i) : ∀ (x : AV) (v0 v : Value), VR E0 x v0 → VR E x v → VR E' x v
  | .agg cs, v0, v, h0, hx => by
    simp only [VR] at h0 hx ⊢
    obtain ⟨us0, -, -, hu0⟩ := h0
    obtain ⟨us, rfl, h1, hu⟩ := hx
    exact ⟨us, rfl, h1, VRs_keep hw hok hf him hnb hbl cs us0.toList us.toList hu0 hu⟩
  | .tup cs, v0, v, h0, hx => by
    simp only [VR] at h0 hx ⊢
    obtain ⟨us0, -, hu0⟩ := h0
    obtain ⟨us, rfl, hu⟩ := hx
    exact ⟨us, rfl, VRs_keep hw hok hf him hnb hbl cs us0.toList us.toList hu0 hu⟩
  | .fn f cs, v0, v, h0, hx => by
    simp only [VR] at h0 hx ⊢
    obtain ⟨us0, -, hu0⟩ := h0
    obtain ⟨us, rfl, hu⟩ := hx
    exact ⟨us, rfl, VRs_keep hw hok hf him hnb hbl cs us0.toList us.toList hu0 hu⟩
  | .ptr b o, v0, v, h0, hx => by
    simp only [VR] at h0 hx ⊢
    exact ⟨hbl _ h0.1, by rw [hnb]; exact hx.2⟩
  | .mp b, v0, v, h0, hx => by
    simp only [VR] at h0 hx ⊢
    exact ⟨hbl _ h0.1, by rw [hnb]; exact hx.2⟩
  | .bsl b sz off len, v0, v, h0, hx => by
    simp only [VR] at h0 hx ⊢
    exact ⟨hbl _ h0.1, by rw [hnb]; exact hx.2⟩
  | .sl k n off len, v0, v, _, hx => VR_free hw hok hf him _ _ rfl hx
  | .ep k n i c sz, v0, v, _, hx => VR_free hw hok hf him _ _ rfl hx
  | .vm ks vs, v0, v, _, hx => VR_free hw hok hf him _ _ rfl hx
  | .vs full sz xs, v0, v, _, hx => VR_free hw hok hf him _ _ rfl hx
  | .pv cs, v0, v, _, hx => VR_free hw hok hf him _ _ rfl hx
  | .mbox .., v0, v, _, hx => by simp [VR] at hx
  | .rbox _, v0, v, _, hx => by simp [VR] at hx
  | .tbox .., v0, v, _, hx => by simp [VR] at hx
  | .nilm, v0, v, _, hx => by simpa [VR] using hx
  | .junk, v0, v, _, hx => by simpa [VR] using hx
  | .bool b, v0, v, _, hx => by simpa [VR] using hx
  | .int k n, v0, v, _, hx => by simpa [VR] using hx
  | .str s, v0, v, _, hx => by simpa [VR] using hx
  | .nilp, v0, v, _, hx => by simpa [VR] using hx
  | .nilf, v0, v, _, hx => by simpa [VR] using hx
theorem VRs_keep {E0 E E' : Env} (hw : E'.w = E.w) (hok : ∀ b o, E.ok b o → E'.ok b o) (hf : E'.h.fams = E.h.fams) (him : E'.im = E.im) (hnb : E'.nb = E.nb) (hbl : ∀ i, E0.Live i → E'.Live i) : ∀ (cs : List AV) (us0 us : List Value), VRs E0 cs us0 → VRs E cs us → VRs E' cs us
  | [], us0, us, _, hx => by simpa [VRs] using hx
  | c :: cs, us0, us, h0, hx => by
    simp only [VRs] at h0 hx ⊢
    obtain ⟨u0, us0', rfl, k1, k2⟩ := h0
    obtain ⟨u, us', rfl, h1, h2⟩ := hx
    exact ⟨u, us', rfl, VR_keep hw hok hf him hnb hbl c u0 u k1 h1, VRs_keep hw hok hf him hnb hbl cs us0' us' k2 h2⟩
end
def Env.trim (E : Env) (bx : List (List AV)) : Env := { E with h := ⟨bx, E.h.fams⟩ }
theorem trim_pre {l bx : List (List AV)} (hb : l.take bx.length = bx) : bx.length ≤ l.length ∧ ∀ i, i < bx.length → l[i]? = bx[i]? := by
  have h1 := congrArg List.length hb
  rw [List.length_take] at h1
  refine ⟨by omega, fun i hi => ?_⟩
  rw [← hb, List.getElem?_take, if_pos hi]
theorem trim_ok {E : Env} {bx : List (List AV)} (hb : E.h.boxes.take bx.length = bx) {b o : Nat} (h : E.ok b o) : (E.trim bx).ok b o := by
  obtain ⟨h1, h2⟩ := trim_pre hb
  rcases h with h | ⟨k1, k2, k3, k4⟩
  · exact .inl h
  · refine .inr ⟨k1, k2, fun i hi he => ?_, k4⟩
    have hi' : i < bx.length := hi.lt
    obtain ⟨x, x1, x2⟩ := hi
    obtain ⟨cs, hcs⟩ := k3 i ⟨x, by rw [h2 i hi']; exact x1, x2⟩ he
    exact ⟨cs, by show bx[i]? = _; rw [← h2 i hi']; exact hcs⟩
theorem trim_ext {E0 E : Env} (he : Ext E0 E) (hb : E.h.boxes.take E0.h.boxes.length = E0.h.boxes) : Ext E0 (E.trim E0.h.boxes) :=
  ⟨fun b o h => ⟨trim_ok hb (he.cells b o h).1, (he.cells b o h).2⟩, Nat.le_refl _, fun i hi => ⟨(live_same (E := E0) rfl).2 hi, (he.nb i hi).2⟩, he.fams, he.im, he.base, he.ok0, he.below⟩
theorem trim_SR {E0 E : Env} (h0 : SR E0) (h : SR E) (he : Ext E0 E) (hb : E.h.boxes.take E0.h.boxes.length = E0.h.boxes) : SR (E.trim E0.h.boxes) := by
  obtain ⟨p1, p2⟩ := trim_pre hb
  have hok : ∀ b o, E.ok b o → (E.trim E0.h.boxes).ok b o := fun b o k => trim_ok hb k
  have hst : ∀ b o, E.ok b o → (E.trim E0.h.boxes).ok b o ∧ Stay E.w (E.trim E0.h.boxes).w b o := fun b o k => ⟨hok b o k, Stay.refl _ _ _⟩
  have hlv : ∀ i, (E.trim E0.h.boxes).Live i → E.Live i := fun i hi => (he.nb i ((live_same (E := E0) rfl).1 hi)).1
  refine ⟨h.basele, fun i cs hi hh => ?_, fun k f hk => ?_, fun i j hi hj => h.inj i j (hlv i hi) (hlv j hj), h.injf, fun i k hi hk => h.sep i k (hlv i hi) hk⟩
  · have hi' : E0.h.boxes[i]? = some cs := hi
    have hlt := (List.getElem?_eq_some_iff.1 hi').1
    have hE : E.h.boxes[i]? = some cs := by rw [p2 i hlt]; exact hi'
    obtain ⟨b1, b2⟩ := h.boxes i cs hE hh
    refine ⟨b1, ?_⟩
    rcases b2 with ⟨cur, t, h2, h3, h4⟩ | ⟨ks, vs, es, clk, e, h2, h3, h4⟩ | ⟨ys, cur, t, e, h2, h3, h4⟩ | ⟨T, ys, cur, e, h2, h3, h4⟩
    · refine .inl ⟨cur, t, h2, ?_, h4⟩
      obtain ⟨_, c2⟩ := h0.boxes i cs hi' hh
      rcases c2 with ⟨cur0, t0, g2, g3, g4⟩ | ⟨ks, vs, es, clk, e, _⟩ | ⟨ys, cur0, t0, e, _⟩ | ⟨T, ys, cur0, e, _⟩
      · exact VRs_keep (E0 := E0) (E := E) (E' := E.trim E0.h.boxes) rfl hok rfl rfl rfl (fun i hi => (live_same (E := E0) rfl).2 hi) cs _ _ g3 h3
      · subst e; simp only [VRs, VR, false_and, and_false, exists_false] at h3
      · subst e; simp only [VRs, VR, false_and, and_false, exists_false] at h3
      · subst e; simp only [VRs, VR, false_and, and_false, exists_false] at h3
    · exact .inr (.inl ⟨ks, vs, es, clk, e, h2, PVs_mono hst _ _ h3, PVs_mono hst _ _ h4⟩)
    · exact .inr (.inr (.inl ⟨ys, cur, t, e, h2, PVs_mono hst _ _ h3, h4⟩))
    · subst e
      obtain ⟨cur0, g2, g3, g4⟩ := (h0.boxes i _ hi' hh).typ
      exact .inr (.inr (.inr ⟨T, ys, cur, rfl, h2, VRs_keep (E0 := E0) (E := E) (E' := E.trim E0.h.boxes) rfl hok rfl rfl rfl (fun i hi => (live_same (E := E0) rfl).2 hi) ys _ _ g3 h3, h4⟩))
  · have hf := h.fams k f hk
    obtain ⟨cur, t, h2, h3, h4⟩ := hf.cells
    exact ⟨hf.base, hf.sz, hf.lo, hf.room, hf.cap, cur, t, h2, h3, fun i x hi hx => ⟨(h4 i x hi hx).1, fun c y hc => by
      obtain ⟨v, v1, v2, v3⟩ := (h4 i x hi hx).2 c y hc
      exact ⟨v, v1, v2, PV_mono hst _ _ v3⟩⟩⟩
def PureS (P : Program) (O : Orc) : Prop :=
  ∀ (f : FuncId) (args : List AV) (r : AV), O.pure f args = some r → Program.enterable P f = true ∧
    ∀ (w : World) (ok0 : Nat → Nat → Prop) (vs : Array Value), (∀ b o, ok0 b o → b < w.heap.size) → GlobP w ok0 → PVs w ok0 args vs.toList →
      Calls P f vs w fun e w' => ∃ u, e = .returned u ∧ Bl w.heap.size w w' ∧ PV w' (fun b o => ok0 b o ∨ (w.heap.size ≤ b ∧ b < w'.heap.size)) r u
def RawS (P : Program) (O : Orc) : Prop :=
  ∀ (f : FuncId) (args : List AV) (h : AH) (r : AV) (h' : AH), O.raw f args h = some (r, h') → Program.enterable P f = true ∧
    ∀ (E : Env) (vs : Array Value), SR E → GlobP E.w E.ok → E.h = h → VRs E args vs.toList →
      Calls P f vs E.w fun e w' => ∃ u E', e = .returned u ∧ w' = E'.w ∧ Ext E E' ∧ SR E' ∧ E'.h = h' ∧ VR E' r u
mutual
theorem scalar1_PV {w w' : World} {ok ok' : Nat → Nat → Prop} : ∀ {x : AV} {v : Value}, x.scalar1 = true → PV w ok x v → PV w' ok' x v := by
  intro x v hs h
  cases x <;> simp only [AV.scalar1] at hs <;> first | (cases hs; done) | simpa [PV] using h
end
theorem scalars_PVs {w w' : World} {ok ok' : Nat → Nat → Prop} : ∀ {xs : List AV} {vs : List Value}, (∀ x ∈ xs, x.scalar1 = true) → PVs w ok xs vs → PVs w' ok' xs vs
  | [], vs, _, h => by simpa [PVs] using h
  | x :: xs, vs, hs, h => by
    simp only [PVs] at h ⊢
    obtain ⟨u, us, rfl, h1, h2⟩ := h
    exact ⟨u, us, rfl, scalar1_PV (hs x (by simp)) h1, scalars_PVs (fun y hy => hs y (by simp [hy])) h2⟩
theorem scalar0_PV {w w' : World} {ok ok' : Nat → Nat → Prop} {x : AV} {v : Value} (hs : x.scalar0 = true) (h : PV w ok x v) : PV w' ok' x v := by
  unfold AV.scalar0 at hs
  split at hs
  · rename_i cs
    simp only [PV] at h ⊢
    obtain ⟨us, rfl, h1, h2⟩ := h
    exact ⟨us, rfl, h1, scalars_PVs (by simpa using hs) h2⟩
  · exact scalar1_PV hs h
theorem scalars0_PVs {w w' : World} {ok ok' : Nat → Nat → Prop} : ∀ {xs : List AV} {vs : List Value}, (∀ x ∈ xs, x.scalar0 = true) → PVs w ok xs vs → PVs w' ok' xs vs
  | [], vs, _, h => by simpa [PVs] using h
  | x :: xs, vs, hs, h => by
    simp only [PVs] at h ⊢
    obtain ⟨u, us, rfl, h1, h2⟩ := h
    exact ⟨u, us, rfl, scalar0_PV (hs x (by simp)) h1, scalars0_PVs (fun y hy => hs y (by simp [hy])) h2⟩
theorem scalar_PV {w w' : World} {ok ok' : Nat → Nat → Prop} {x : AV} {v : Value} (hs : x.scalar = true) (h : PV w ok x v) : PV w' ok' x v := by
  unfold AV.scalar at hs
  split at hs
  · rename_i vs
    simp only [PV] at h ⊢
    obtain ⟨us, rfl, h2⟩ := h
    exact ⟨us, rfl, scalars0_PVs (by simpa using hs) h2⟩
  · exact scalar0_PV hs h
theorem frz1_tame {h : AH} {x : AV} (ht : tame1 h x = true) : frz1 h true x = frz1 h false x := by
  cases x <;> simp only [frz1]
  case mp b => simp [tame1] at ht
  case bsl => simp [tame1] at ht
  case sl k n off len =>
    unfold tame1 at ht
    cases hf : h.fams[k]? with
    | none => rfl
    | some f =>
      simp only [hf] at ht ⊢
      simp [ht]
theorem frzL_tame {h : AH} : ∀ {xs : List AV}, xs.all (tame1 h) = true → frzL h true xs = frzL h false xs
  | [], _ => rfl
  | x :: xs, ht => by
    simp only [List.all_cons, Bool.and_eq_true] at ht
    simp only [frzL, frz1_tame ht.1, frzL_tame ht.2]
theorem frz_tame {h : AH} {x : AV} (ht : tame h x = true) : frz h true x = frz h false x := by
  unfold frz
  split
  · rename_i cs
    rw [frzL_tame (by simpa [tame] using ht)]
  · rename_i hx
    refine frz1_tame ?_
    unfold tame at ht
    split at ht
    · exact absurd rfl (hx _)
    · exact ht
theorem frzAll_tame {h : AH} : ∀ {xs : List AV}, xs.all (tame h) = true → frzAll h true xs = frzAll h false xs
  | [], _ => rfl
  | x :: xs, ht => by
    simp only [List.all_cons, Bool.and_eq_true] at ht
    simp only [frzAll, frz_tame ht.1, frzAll_tame ht.2]
section
variable {E : Env} {P : Program} {fr : Fr} {a : Act} {o : Oper} {O : Orc} {c : Ctx}
theorem call_sound (hP : PureS P O) (hR : RawS P O) (hS : SR E) (hG : GlobP E.w E.ok) {f : FuncId} {args : List AV} {vs : Array Value} {r : AV} {h' : AH} (hv : VRs E args vs.toList) (h : callA O c f args E.h = some (r, h')) :
    Program.enterable P f = true ∧ Calls P f vs E.w fun e w' => ∃ u E', e = .returned u ∧ w' = E'.w ∧ Ext E E' ∧ SR E' ∧ E'.h = h' ∧ VR E' r u := by
  unfold callA at h
  split at h
  · obtain ⟨h1', e1, e2⟩ := kpB_form h
    obtain ⟨h1, h2⟩ := hR f args E.h r h1' e1
    refine ⟨h1, ?_⟩
    rcases e2 with e2 | ⟨e2, e3, e4⟩
    · subst e2
      exact h2 E vs hS hG rfl hv
    · refine (h2 E vs hS hG rfl hv).mono fun e w' ⟨u, E', k1, k2, k3, k4, k5, k6⟩ => ?_
      have hb : E'.h.boxes.take E.h.boxes.length = E.h.boxes := by rw [k5]; exact e3
      refine ⟨u, E'.trim E.h.boxes, k1, k2, trim_ext k3 hb, trim_SR hS k4 k3 hb, ?_, VR_free (E := E') (E' := E'.trim E.h.boxes) rfl (fun b o k => trim_ok hb k) rfl rfl _ _ e2 k6⟩
      show (⟨E.h.boxes, E'.h.fams⟩ : AH) = h'
      rw [k5]; exact e4.symm
  · split at h
    · cases h
    · rename_i aas has
      split at h
      · cases h
      · rename_i q hq
        split at h
        · rename_i hc
          cases h
          obtain ⟨h1, h2⟩ := hP f aas r hq
          refine ⟨h1, ?_⟩
          by_cases hs : r.scalar = true
          · have hpv := frzAll_sound hS (am := true) (ok' := fun b _ => b < E.w.heap.size) ⟨fun b o ho => ok_lt hS ho, fun _ b _ _ hb => hb⟩ hv has
            refine (h2 E.w (fun b _ => b < E.w.heap.size) vs (fun _ _ hb => hb) (hG.mono fun b o ho => ⟨ok_lt hS ho, Stay.refl _ _ _⟩) hpv).mono fun e w' ⟨u, he, hb, hu⟩ => ?_
            exact ⟨u, { E with w := w' }, he, rfl, grow_ext hS hb, grow_SR hS hb, rfl, VR_of_PV _ _ (scalar_PV hs hu)⟩
          · have ht : args.all (tame E.h) = true := by simpa [hs] using hc
            rw [frzAll_tame ht] at has
            have hpv := frzAll_sound hS (am := false) (ok' := E.ok) ⟨fun _ _ h => h, fun h => by cases h⟩ hv has
            refine (h2 E.w E.ok vs (fun b o hb => ok_lt hS hb) hG hpv).mono fun e w' ⟨u, he, hb, hu⟩ => ?_
            have hx := grow_ext hS hb
            refine ⟨u, { E with w := w' }, he, rfl, hx, grow_SR hS hb, rfl, VR_of_PV _ _ (PV_mono (fun b o ho => ⟨?_, Stay.refl _ _ _⟩) _ _ hu)⟩
            rcases ho with ho | ho
            · exact (hx.cells b o ho).1
            · refine .inr ⟨Nat.le_trans hS.basele ho.1, ho.2, fun i hi => ?_, fun k g hk he => ?_⟩
              · have := (hS.nb_lt hi).2
                intro e
                have e' : E.nb i = b := e
                omega
              · have := (hS.im_lt (List.getElem?_eq_some_iff.1 hk).1).2
                have he' : (E.im k).b = b := he
                omega
        · cases h
theorem enter_of {f : FuncId} (he : Program.enterable P f = true) (args : Array Value) (w : World) : (callFunc f args).run P w = .ok (.enter f args) w := by
  unfold Program.enterable at he
  unfold callFunc
  split at he
  · rename_i fn hfn
    simp only [Bool.and_eq_true, Bool.not_eq_true'] at he
    have hne : fn.name ≠ "runtime.NumGoroutine" := by simpa using he.2
    have h1 : fn.body ≠ none := by intro h; rw [h] at he; simp at he
    simp [hfn, hne, h1]
  · cases he
theorem map_form {α β : Type} {f : α → β} {x : Option α} {r : β} (h : x.map f = some r) : ∃ y, r = f y := by
  cases x with
  | none => cases h
  | some y => exact ⟨y, by simpa using h.symm⟩
def isCallOp : Op → Bool
  | .call { callee := .value _, args := _, argTypes := _ } => true
  | _ => false
theorem call_form {p : Op} {r : ROp} (hr : resOp P p = some r) (hp : isCallOp p = false) : r.isCall = false := by
  unfold resOp at hr
  repeat' (split at hr)
  all_goals first
    | (cases hr; done)
    | (cases hr; rfl)
    | (obtain ⟨y, rfl⟩ := map_form hr; rfl)
    | (exfalso; simp [isCallOp] at hp; done)
theorem op_wp (hP : PureS P O) (hR : RawS P O) (hS : SR E) (hf : FR E fr a.tmps) {r r0 : ROp} (hr : resOp P o.op = some r0) (hlax : ((r = r0 ∨ ∃ m, r = r0.lax m) ∨ (r = r0.bxd ∨ ∃ m, r = r0.bxd.lax m)) ∨ ∃ n z, r0 = .alloc z ∧ r = .allocAt n z) {v : AV} {h' : AH} (hev : evalOp O c r fr E.h = some (v, h'))
    {K : Act → World → Prop} {Q : Exit → Act → World → Prop} (hK : ∀ u E', Ext E E' → SR E' → E'.h = h' → VR E' v u → K (a.put o.dst u) E'.w) : o.wp P a E.w K Q := by
  by_cases hnc : r.isCall = false
  · obtain ⟨nx, u, E', h1, h2, h3, h4, h5, h6⟩ := op_doesB (c := c) hS hf hr hlax hev hnc
    unfold Oper.wp
    rw [h1]
    rcases h2 with rfl | ⟨rfl, rfl⟩
    · exact hK u E' h3 h4 h5 h6
    · exact hK undef E' h3 h4 h5 h6
  · have hcalls : ∀ (f : FuncId) (vs : Array Value) (args : List AV), VRs E args vs.toList → callA O c f args E.h = some (v, h') → (execOp a.eval o).run P E.w = (callFunc f vs).run P E.w → o.wp P a E.w K Q := by
      intro f vs args hv hc hx
      obtain ⟨h1, h2⟩ := call_sound hP hR hS hf.glob hv hc
      unfold Oper.wp
      rw [hx, enter_of h1]
      refine Calls.mono h2 fun e w' ⟨u, E', he, hw, k1, k2, k3, k4⟩ => ?_
      subst he; subst hw
      exact hK u E' k1 k2 k3 k4
    by_cases hp : isCallOp o.op = false
    · have h1 := call_form hr hp
      rcases hlax with ((rfl | ⟨_, rfl⟩) | (rfl | ⟨_, rfl⟩)) | ⟨_, _, _, rfl⟩
      rotate_right
      · exact absurd rfl hnc
      · exact absurd h1 hnc
      rotate_left
      · refine absurd ?_ hnc
        cases r0 <;> first | rfl | exact h1
      · refine absurd ?_ hnc
        cases r0 <;> first | rfl | exact h1 | (rename_i m _ _ _; obtain ⟨m, mk⟩ := m; cases m with | none => rfl | some b => cases b <;> rfl)
      · refine absurd ?_ hnc
        cases r0 <;> first | rfl | exact h1 | (rename_i m _ _ _; obtain ⟨m, mk⟩ := m; cases m with | none => rfl | some b => cases b <;> rfl) | (rename_i m _ _ _ _; obtain ⟨m, mk⟩ := m; cases mk <;> rfl)
    · cases hop : o.op <;> rw [hop] at hp hr <;> try (exact absurd rfl hp)
      rename_i q
      obtain ⟨callee, args, ats⟩ := q
      cases callee with
      | invoke x m => exact absurd rfl hp
      | builtin b => exact absurd rfl hp
      | value x =>
        cases x <;> simp only [resOp] at hr <;> try (cases hr; done)
        case tmp t =>
          simp only [Option.map_eq_some_iff] at hr
          obtain ⟨aas, has, rfl⟩ := hr
          obtain rfl : r = .callv (.t t) aas := by rcases hlax with ((h | ⟨_, h⟩) | (h | ⟨_, h⟩)) | ⟨_, _, h, _⟩ <;> first | exact h | cases h
          simp only [evalOp] at hev
          split at hev
          · rename_i f caps hg
            have hev : callA O c f (aas.map (get fr) ++ caps) E.h = some (v, h') := by
              split at hev
              · cases hev
              · exact hev
            have hv := hf.val t
            have hg' : fr.getD t undefA = .fn f caps := hg
            rw [hg'] at hv
            simp only [VR] at hv
            obtain ⟨us, e1, e2⟩ := hv
            refine hcalls f (args.map a.eval ++ us) _ ?_ hev ?_
            · have := VRs_append (opds_sound hf has) e2
              simpa using this
            · simp [execOp, hop, resolve, Act.eval, e1, Deferred.ofValue, invoke]
          · cases hev
        case func f =>
          split at hr
          · simp only [Option.map_eq_some_iff] at hr
            obtain ⟨aas, has, rfl⟩ := hr
            obtain rfl : r = .call f aas := by rcases hlax with ((h | ⟨_, h⟩) | (h | ⟨_, h⟩)) | ⟨_, _, h, _⟩ <;> first | exact h | cases h
            simp only [evalOp] at hev
            refine hcalls f (args.map a.eval) _ (opds_sound hf has) hev ?_
            simp [execOp, hop, resolve, Act.eval, Deferred.ofValue, invoke]
          · cases hr
end
def stepA (O : Orc) (c : Ctx) (o : RO) (fr : Fr) (h : AH) : Option (AV × AH) :=
  match wantedA fr o.guard with
  | some true => evalOp O c o.op fr h
  | some false => some (undefA, h)
  | none => none
theorem evalOps_cons (O : Orc) (c : Ctx) (o : RO) (rest : List RO) (fr : Fr) (h : AH) :
    evalOps O c (o :: rest) fr h = (stepA O c o fr h).bind fun x => evalOps O c rest (put fr o.dst x.1) x.2 := by
  unfold stepA
  simp only [evalOps]
  cases wantedA fr o.guard with
  | none => rfl
  | some b =>
    cases b with
    | false => rfl
    | true =>
      dsimp only
      cases evalOp O c o.op fr h with
      | none => rfl
      | some x => rfl
structure RORel (P : Program) (ops : List Oper) (o : Oper) (ro : RO) : Prop where
  dst : ro.dst = o.dst
  guard : resGuard ops o.guard = some ro.guard
  op : ∃ r0, resOp P o.op = some r0 ∧ (((ro.op = r0 ∨ ∃ m, ro.op = r0.lax m) ∨ (ro.op = r0.bxd ∨ ∃ m, ro.op = r0.bxd.lax m)) ∨ ∃ n z, r0 = .alloc z ∧ ro.op = .allocAt n z)
theorem resRO_rel {P : Program} {ops : List Oper} {o : Oper} {ro0 ro : RO} (h : resRO P ops o = some ro0) (hro : ro = ro0 ∨ ro = ro0.bxd) : RORel P ops o ro := by
  unfold resRO at h
  split at h
  · rename_i r g h1 h2
    cases h
    rcases hro with rfl | rfl
    · exact ⟨rfl, h2, r, h1, .inl (.inl (.inl rfl))⟩
    · exact ⟨rfl, h2, r, h1, .inl (.inr (.inl rfl))⟩
  · cases h
theorem RORel.lax {P : Program} {ops : List Oper} {o : Oper} {ro0 ro : RO} (m : Option Bool × Bool) (h : resRO P ops o = some ro0) (hro : ro = ro0 ∨ ro = ro0.bxd) : RORel P ops o (ro.lax m) := by
  unfold resRO at h
  split at h
  · rename_i r g h1 h2
    cases h
    rcases hro with rfl | rfl
    · exact ⟨rfl, h2, r, h1, .inl (.inl (.inr ⟨m, rfl⟩))⟩
    · exact ⟨rfl, h2, r, h1, .inl (.inr (.inr ⟨m, rfl⟩))⟩
  · cases h
theorem numA_get : ∀ {ros0 : List RO} {n i : Nat} {ro : RO}, (numA n ros0)[i]? = some ro → ∃ ro0, ros0[i]? = some ro0 ∧ (ro = ro0 ∨ ∃ k z, ro0.op = .alloc z ∧ ro = { ro0 with op := .allocAt k z })
  | [], n, i, ro, h => by simp [numA] at h
  | o :: os, n, i, ro, h => by
    have key : ∀ {m : Nat} {o' : RO}, (o' = o ∨ ∃ k z, o.op = .alloc z ∧ o' = { o with op := .allocAt k z }) → (o' :: numA m os)[i]? = some ro → ∃ ro0, (o :: os)[i]? = some ro0 ∧ (ro = ro0 ∨ ∃ k z, ro0.op = .alloc z ∧ ro = { ro0 with op := .allocAt k z }) := by
      intro m o' hh h
      cases i with
      | zero =>
        simp at h
        subst h
        exact ⟨o, rfl, hh⟩
      | succ i =>
        obtain ⟨ro0, h1, h2⟩ := numA_get (ros0 := os) (i := i) (by simpa using h)
        exact ⟨ro0, by simpa using h1, h2⟩
    unfold numA at h
    split at h
    · rename_i z hz
      exact key (.inr ⟨_, z, hz, rfl⟩) h
    · exact key (.inl rfl) h
theorem numA_len : ∀ (n : Nat) (ros0 : List RO), (numA n ros0).length = ros0.length
  | _, [] => rfl
  | n, o :: os => by
    unfold numA
    split <;> simp [numA_len]
theorem numS_get {ros0 : List RO} {i : Nat} {ro : RO} (h : (numS ros0)[i]? = some ro) : ∃ ro0, ros0[i]? = some ro0 ∧ (ro = ro0 ∨ ∃ k z, ro0.op = .alloc z ∧ ro = { ro0 with op := .allocAt k z }) := by
  unfold numS at h
  split at h
  · exact numA_get h
  · exact ⟨ro, h, .inl rfl⟩
theorem numS_len (ros0 : List RO) : (numS ros0).length = ros0.length := by
  unfold numS
  split
  · exact numA_len _ _
  · rfl
theorem bxd_alloc {r : ROp} {z : AV} (h : r.bxd = .alloc z) : r = .alloc z := by
  cases r <;> first | exact h | (cases h; done)
theorem RORel.num {P : Program} {ops : List Oper} {o : Oper} {ro0 ro : RO} (h : resRO P ops o = some ro0) {ro1 : RO} (h1 : ro1 = ro0 ∨ ro1 = ro0.bxd) (hro : ro = ro1 ∨ ∃ k z, ro1.op = .alloc z ∧ ro = { ro1 with op := .allocAt k z }) : RORel P ops o ro := by
  rcases hro with rfl | ⟨k, z, h2, rfl⟩
  · exact resRO_rel h h1
  · unfold resRO at h
    split at h
    · rename_i r g g1 g2
      cases h
      rcases h1 with rfl | rfl
      · have h2 : r = .alloc z := h2
        subst h2
        exact ⟨rfl, g2, _, g1, .inr ⟨k, z, rfl, rfl⟩⟩
      · have h2 : r.bxd = .alloc z := h2
        have h2 := bxd_alloc h2
        subst h2
        exact ⟨rfl, g2, _, g1, .inr ⟨k, z, rfl, rfl⟩⟩
    · cases h
theorem bxS_get {b : Bool} {ros0 : List RO} {i : Nat} {ro : RO} (h : (bxS b ros0)[i]? = some ro) : ∃ ro0, ros0[i]? = some ro0 ∧ (ro = ro0 ∨ ro = ro0.bxd) := by
  cases b with
  | false => exact ⟨ro, h, .inl rfl⟩
  | true =>
    have h' : (ros0.map RO.bxd)[i]? = some ro := h
    rw [List.getElem?_map, Option.map_eq_some_iff] at h'
    obtain ⟨ro0, h1, h2⟩ := h'
    exact ⟨ro0, h1, .inr h2.symm⟩
theorem bxS_len (b : Bool) (ros0 : List RO) : (bxS b ros0).length = ros0.length := by cases b <;> simp [bxS]
section
variable {P : Program} {O : Orc} {c : Ctx}
theorem wanted_sound {E : Env} {fr : Fr} {a : Act} (hf : FR E fr a.tmps) {ops : Array Oper} {o : Oper} {g : Option (Nat × Bool)} (hg : resGuard ops.toList o.guard = some g) {b : Bool} (hw : wantedA fr g = some b) :
    Region.wanted o (yielded ops a.tmps) = b := by
  unfold resGuard at hg
  unfold Region.wanted
  split at hg
  · rename_i h0
    cases hg
    simp [wantedA] at hw
    simp [h0, hw]
  · rename_i j want h0
    split at hg
    · rename_i o' ho'
      split at hg
      · rename_i d hd
        cases hg
        have hv := hf.val d
        have hy : ((ops[j]?).bind (·.dst)) = some d := by
          have : ops[j]? = some o' := by simpa using ho'
          simp [this, hd]
        simp only [h0]
        simp only [wantedA] at hw
        unfold yielded
        simp only [hy, Option.bind_some]
        split at hw
        · rename_i b' hb
          cases hw
          rw [hb] at hv
          simp only [VR] at hv
          have : a.tmps[d]? = some (.bool b') := by
            rw [Array.getD_eq_getD_getElem?] at hv
            cases h1 : a.tmps[d]? with
            | none => rw [h1] at hv; simp [undef] at hv
            | some u => rw [h1] at hv; simpa using hv
          simp only [this]
          cases b' <;> cases want <;> rfl
        · rename_i vs hb
          cases hw
          rw [hb] at hv
          simp only [VR] at hv
          obtain ⟨us, e, _⟩ := hv
          have : ∀ b', a.tmps[d]? ≠ some (.bool b') := by
            intro b' h1
            rw [Array.getD_eq_getD_getElem?, h1] at e
            simp at e
          cases h1 : a.tmps[d]? with
          | none => rfl
          | some u =>
            cases u <;> first | rfl | exact absurd h1 (this _)
        · cases hw
      · cases hg
    · cases hg
theorem step_wp (hP : PureS P O) (hR : RawS P O) {E : Env} {fr : Fr} {a : Act} (hS : SR E) (hf : FR E fr a.tmps) {ops : Array Oper} {o : Oper} {ro : RO} (hr : RORel P ops.toList o ro) {v : AV} {h' : AH} (hev : stepA O c ro fr E.h = some (v, h'))
    {K : Act → World → Prop} {Q : Exit → Act → World → Prop} (hK : ∀ u E', Ext E E' → SR E' → E'.h = h' → VR E' v u → K (a.put o.dst u) E'.w) :
    if Region.wanted o (yielded ops a.tmps) then o.wp P a E.w K Q else K (a.put o.dst undef) E.w := by
  unfold stepA at hev
  split at hev
  · rename_i hw
    rw [if_pos (wanted_sound hf hr.guard hw)]
    obtain ⟨r0, h1, h2⟩ := hr.op
    exact op_wp hP hR hS hf h1 h2 hev hK
  · rename_i hw
    cases hev
    have := wanted_sound hf hr.guard hw
    rw [if_neg (by simp [this])]
    exact hK undef E (Ext.refl E) hS rfl (VR_undef E)
  · cases hev
theorem ops_text (hP : PureS P O) (hR : RawS P O) {ops : Array Oper} {Q : Exit → Act → World → Prop} :
    ∀ (l : List Oper) (ros : List RO), ros.length = l.length → (∀ (i : Nat) (o : Oper) (ro : RO), l[i]? = some o → ros[i]? = some ro → RORel P ops.toList o ro) →
      ∀ (E : Env) (fr : Fr) (a : Act) (fr' : Fr) (h' : AH), SR E → FR E fr a.tmps → evalOps O c ros fr E.h = some (fr', h') →
        (∀ a' E', Ext E E' → SR E' → E'.h = h' → FR E' fr' a'.tmps → a'.defers = a.defers → Q .normal a' E'.w) → wpList P ops Q l a E.w
  | [], ros, hl, _, E, fr, a, fr', h', hS, hf, hev, hQ => by
    have : ros = [] := List.eq_nil_of_length_eq_zero (by simpa using hl)
    subst this
    simp only [evalOps] at hev
    cases hev
    exact hQ a E (Ext.refl E) hS rfl hf rfl
  | o :: l, ros, hl, hrel, E, fr, a, fr', h', hS, hf, hev, hQ => by
    cases ros with
    | nil => simp at hl
    | cons ro ros =>
      rw [evalOps_cons, Option.bind_eq_some_iff] at hev
      obtain ⟨⟨v, h1⟩, hst, hrest⟩ := hev
      have hr := hrel 0 o ro rfl rfl
      have := step_wp (Q := Q) hP hR hS hf hr hst (K := wpList P ops Q l) (fun u E' hx hS' he hv => by
        refine ops_text hP hR l ros (by simpa using hl) (fun i o' ro' h1 h2 => hrel (i + 1) o' ro' (by simpa using h1) (by simpa using h2)) E' (put fr ro.dst v) (a.put o.dst u) fr' h' hS' ?_ (by rw [he]; exact hrest) fun a' E'' hx' hS'' he' hf' hd => ?_
        · rw [hr.dst]; exact FR.put (FR.ext hx hf) o.dst hv
        · refine hQ a' E'' (hx.trans hx') hS'' he' hf' (hd.trans ?_)
          cases o.dst <;> rfl)
      unfold wpList
      split
      · rename_i hw; rw [if_pos hw] at this; exact .inl this
      · rename_i hw; rw [if_neg hw] at this; exact this
end
end Go.Abs
