/- Every operation but a call: the abstract step is followed by the model's. -/
import Derived.Test.YtpkegmgepnhfnaaA13
namespace Go.Abs
open Go.RowKit (Below)
section
variable {E : Env} {P : Program} {fr : Fr} {a : Act} {o : Oper} {O : Orc} {c : Ctx}

def ROp.isCall : ROp → Bool
  | .call .. | .callv .. => true
  | _ => false

theorem reform_ok {el z : AV} {cs : List AV} (h : el.reform cs = some z) (hl : cs.length = el.cells.length) (hf : ∀ x ∈ cs, x.cells = [x] ∨ ∃ as, el = .agg as) : z.cells = cs := by
  cases el <;> simp only [AV.reform] at h
  case agg => cases h; rfl
  all_goals
    simp only [AV.cells, List.length_cons, List.length_nil] at hl
    cases cs with
    | nil => simp at hl
    | cons c r =>
      have hr : r = [] := by simpa using hl
      subst hr
      simp at h
      subst h
      rcases hf c (by simp) with h' | ⟨as, h'⟩
      · exact h'
      · cases h'

theorem op_does (hS : SR E) (hf : FR E fr a.tmps) {r r0 : ROp} (hr : resOp P o.op = some r0) (hlax : r = r0 ∨ r = r0.lax) {v : AV} {h' : AH} (hev : evalOp O c r fr E.h = some (v, h')) (hnc : r.isCall = false) : Does P a o E v h' := by
  cases hop : o.op with
  | move x =>
    rw [hop] at hr; simp only [resOp, Option.map_eq_some_iff] at hr
    obtain ⟨y, hy, rfl⟩ := hr
    obtain rfl : r = .mov y := by rcases hlax with h | h <;> exact h
    simp only [evalOp] at hev; cases hev
    exact (q_mov hf (.inl hop) hy).does hS
  | assign x =>
    rw [hop] at hr; simp only [resOp, Option.map_eq_some_iff] at hr
    obtain ⟨y, hy, rfl⟩ := hr
    obtain rfl : r = .mov y := by rcases hlax with h | h <;> exact h
    simp only [evalOp] at hev; cases hev
    exact (q_mov hf (.inr hop) hy).does hS
  | pick q x y =>
    rw [hop] at hr; simp only [resOp] at hr
    split at hr
    · rename_i q' x' y' h1 h2 h3
      cases hr
      obtain rfl : r = .pick q' x' y' := by rcases hlax with h | h <;> exact h
      simp only [evalOp] at hev
      split at hev
      · rename_i t ht
        cases hev
        exact (q_pick hf hop h1 h2 h3 ht).does hS
      · cases hev
    · cases hr
  | alloc t =>
    rw [hop] at hr; simp only [resOp, Option.map_eq_some_iff] at hr
    obtain ⟨z, hz, rfl⟩ := hr
    obtain rfl : r = .alloc z := by rcases hlax with h | h <;> exact h
    simp only [evalOp] at hev; cases hev
    exact d_alloc hS hop hz
  | box t x =>
    rw [hop] at hr; simp only [resOp, Option.map_eq_some_iff] at hr
    obtain ⟨y, hy, rfl⟩ := hr
    obtain rfl : r = .box y := by rcases hlax with h | h <;> exact h
    simp only [evalOp] at hev
    split at hev
    · cases hev
    · rename_i ht
      cases hev
      exact d_box hS hf hop hy (by simpa using ht)
  | build t parts =>
    rw [hop] at hr; simp only [resOp] at hr
    split at hr
    · rename_i fs zs hu hz
      split at hr
      · rename_i hs
        simp only [Option.map_eq_some_iff] at hr
        obtain ⟨ps, hp, rfl⟩ := hr
        obtain rfl : r = .build (.agg zs) ps := by rcases hlax with h | h <;> exact h
        simp only [evalOp, AV.cells] at hev
        split at hev
        · rename_i qs hq
          cases hev
          exact (q_build hf hop hu hz hs hp hq).does hS
        · cases hev
      · cases hr
    · cases hr
  | buildSlice t len parts =>
    rw [hop] at hr; simp only [resOp] at hr
    split at hr
    · rename_i e hu
      split at hr
      · rename_i z n ps hz hn hp
        split at hr
        · rename_i hc
          cases hr
          obtain rfl : r = .bslice len z ps := by rcases hlax with h | h <;> exact h
          simp only [evalOp] at hev
          split at hev
          · rename_i xs hx
            cases hev
            exact d_bslice hS hf hop hu hz hn hc.1 hc.2 hp hx
          · cases hev
        · cases hr
      · cases hr
    · cases hr
  | load t x =>
    rw [hop] at hr; simp only [resOp] at hr
    split at hr
    · rename_i b n y hb hn hy
      cases hr
      have key : ∃ w, loadA E.h b n (get fr y) = some w ∧ (w, E.h) = (v, h') := by
        rcases hlax with rfl | rfl
        · simp only [evalOp] at hev
          split at hev
          · rename_i w hw; exact ⟨w, hw, by simpa using hev⟩
          · cases hev
        · simp only [ROp.lax, evalOp] at hev
          split at hev
          · cases hev
          · split at hev
            · rename_i w hw; exact ⟨w, hw, by simpa using hev⟩
            · cases hev
      obtain ⟨w, hw, he⟩ := key
      cases he
      exact (q_ld hS hf hop hb hn hy hw).does hS
    · cases hr
  | store t x y =>
    rw [hop] at hr; simp only [resOp] at hr
    split at hr
    · rename_i n x' y' hn hx hy
      cases hr
      obtain rfl : r = .st n x' y' := by rcases hlax with h | h <;> exact h
      simp only [evalOp] at hev
      split at hev
      · rename_i h1 hst
        cases hev
        unfold storeA at hst
        split at hst
        · rename_i b off hg
          split at hst
          · rename_i cs hcs
            split at hst
            · rename_i hc
              cases hst
              exact d_st_box hS hf hop hn hx hy hg hcs hc.1 hc.2.1 hc.2.2
            · cases hst
          · cases hst
        · rename_i k m i q hg
          split at hst
          · rename_i f hfk
            split at hst
            · rename_i hc
              split at hst
              · rename_i el u hel hu
                split at hst
                · rename_i hl
                  simp only [Option.map_eq_some_iff] at hst
                  obtain ⟨z, hz, rfl⟩ := hst
                  refine d_st_row hS hf hop hn hx hy hg hfk hc.1 hc.2 hel hu hl.1 hl.2 (reform_ok hz (by simp [splice]; omega) fun w hw => ?_)
                  -- the cells of an element, and of a value laid to rest, are single
                  by_cases hag : ∃ as, el = .agg as
                  · exact .inr hag
                  · refine .inl ?_
                    have hel1 : el.cells = [el] := by cases el <;> first | rfl | exact absurd ⟨_, rfl⟩ hag
                    rw [hel1] at hw hl
                    simp only [List.length_cons, List.length_nil] at hl
                    have hF := hS.fams k f hfk
                    obtain ⟨hPu, hut⟩ := frz_sound hS (am := false) (ok' := E.ok) ⟨fun _ _ h => h, fun h => by cases h⟩ (opd_sound hf hy) hu
                    obtain ⟨g1, g2⟩ := PV_cells hPu hut
                    have hcell : ∀ {w : AV} {u : Value}, PV E.w E.ok w u → u.oneCell' = true → w.cells = [w] := by
                      intro w u h1 h2
                      cases w <;> first | rfl | (simp only [PV] at h1; obtain ⟨us, rfl, _⟩ := h1; simp [Value.oneCell'] at h2)
                    unfold splice at hw
                    simp only [List.mem_append] at hw
                    rcases hw with (hw | hw) | hw
                    · have := List.mem_of_mem_take hw
                      simp at this; subst this; exact hel1
                    · obtain ⟨j, hj⟩ := List.getElem?_of_mem hw
                      obtain ⟨u', k1, k2⟩ := (PVs_get g1).2 hj
                      exact hcell k2 (g2 u' (List.mem_of_getElem? k1))
                    · have := List.mem_of_mem_drop hw
                      simp at this; subst this; exact hel1
                · cases hst
              · cases hst
            · cases hst
          · cases hst
        · cases hst
      · cases hev
    · cases hr
  | nilCheck x =>
    rw [hop] at hr; simp only [resOp, Option.map_eq_some_iff] at hr
    obtain ⟨y, hy, rfl⟩ := hr
    obtain rfl : r = .nilck y := by rcases hlax with h | h <;> exact h
    simp only [evalOp] at hev
    have : h' = E.h := by split at hev <;> first | (cases hev; rfl) | cases hev
    subst this
    exact (q_nilck hf hop hy hev).does hS
  | binOp op t x y t' =>
    rw [hop] at hr; simp only [resOp] at hr
    split at hr
    · rename_i x' y' hx hy
      have gen : r0 = .bin op x' y' → Does P a o E v h' := by
        intro h; subst h
        obtain rfl : r = .bin op x' y' := by rcases hlax with h | h <;> exact h
        simp only [evalOp] at hev
        split at hev
        · rename_i w hw; cases hev; exact (q_bin hf hop hx hy hw).does hS
        · cases hev
      split at hr
      · rename_i ht
        cases hr
        obtain rfl : r = .beq false x' y' := by rcases hlax with h | h <;> exact h
        simp only [evalOp] at hev
        split at hev
        · rename_i i j hi hj; cases hev; exact (q_beq (neg := false) hf hop ht hx hy hi hj).does hS
        · cases hev
      · rename_i ht
        cases hr
        obtain rfl : r = .beq true x' y' := by rcases hlax with h | h <;> exact h
        simp only [evalOp] at hev
        split at hev
        · rename_i i j hi hj; cases hev; exact (q_beq (neg := true) hf hop ht hx hy hi hj).does hS
        · cases hev
      · rename_i ht
        split at hr
        · cases hr
          obtain rfl : r = .nileq false x' := by rcases hlax with h | h <;> exact h
          simp only [evalOp] at hev
          split at hev
          · rename_i hi; cases hev; exact (q_nileq (neg := false) hf hop ht hx hy hi).does hS
          · cases hev
        · cases hr
      · rename_i ht
        split at hr
        · cases hr
          obtain rfl : r = .nileq true x' := by rcases hlax with h | h <;> exact h
          simp only [evalOp] at hev
          split at hev
          · rename_i hi; cases hev; exact (q_nileq (neg := true) hf hop ht hx hy hi).does hS
          · cases hev
        · cases hr
      · cases hr; exact gen rfl
    · cases hr
  | unOp op t x =>
    rw [hop] at hr; simp only [resOp, Option.map_eq_some_iff] at hr
    obtain ⟨y, hy, rfl⟩ := hr
    obtain rfl : r = .un op y := by rcases hlax with h | h <;> exact h
    simp only [evalOp] at hev
    split at hev
    · rename_i w hw; cases hev; exact (q_un hf hop hy hw).does hS
    · cases hev
  | convert s d x =>
    rw [hop] at hr; simp only [resOp] at hr
    split at hr
    · rename_i k0 k hs hd
      simp only [Option.map_eq_some_iff] at hr
      obtain ⟨y, hy, rfl⟩ := hr
      obtain rfl : r = .conv k y := by rcases hlax with h | h <;> exact h
      simp only [evalOp] at hev
      split at hev
      · rename_i q n hq; cases hev; exact (q_conv hf hop hs hd hy hq).does hS
      · cases hev
    · rename_i hs hd
      simp only [Option.map_eq_some_iff] at hr
      obtain ⟨y, hy, rfl⟩ := hr
      obtain rfl : r = .cstr y := by rcases hlax with h | h <;> exact h
      simp only [evalOp] at hev
      split at hev
      · rename_i n hq; cases hev; exact (q_cstr hf hop hs hd hy hq).does hS
      · cases hev
    · cases hr
  | makeFunc fn first caps =>
    rw [hop] at hr
    cases fn <;> simp only [resOp] at hr <;> try (cases hr; done)
    split at hr
    · rename_i f h0
      simp only [Option.map_eq_some_iff] at hr
      obtain ⟨cs, hc, rfl⟩ := hr
      obtain rfl : r = .clos _ cs := by rcases hlax with h | h <;> exact h
      simp only [evalOp] at hev; cases hev
      exact (q_clos hf hop h0 hc).does hS
    · cases hr
  | makeSlice t l q =>
    rw [hop] at hr; simp only [resOp] at hr
    split at hr
    · rename_i e hu
      split at hr
      · rename_i i z l' q' hi hz hl hq
        split at hr
        · rename_i hpos
          cases hr
          obtain rfl : r = .mkslice z i.bytes l' q' := by rcases hlax with h | h <;> exact h
          simp only [evalOp] at hev
          split at hev
          · rename_i k1 x k2 y hx hy
            split at hev
            · rename_i hc
              cases hev
              exact d_mkslice hS hf hop hu hi hz hpos hl hq hx hy hc.1 hc.2.1 hc.2.2.1 hc.2.2.2
            · cases hev
          · cases hev
        · cases hr
      · cases hr
    · cases hr
  | slice t x lo hi mx =>
    rw [hop] at hr; simp only [resOp] at hr
    split at hr
    · rename_i x' lo' hi' ht hx hlo hhi hmx
      cases hr
      obtain rfl : r = .slc 0 x' lo' hi' none := by rcases hlax with h | h <;> exact h
      have hmn : mx = none := by
        cases mx with
        | none => rfl
        | some m => simp [resOpt] at hmx
      subst hmn
      simp only [evalOp] at hev
      split at hev
      · rename_i l u m hl hu hm
        simp only [boundA] at hm
        cases hm
        split at hev
        · rename_i w hw
          cases hev
          unfold sliceA at hw
          split at hw
          · rename_i s hs
            dsimp only at hw
            split at hw
            · rename_i hc
              cases hw
              exact (q_slc_str hf hop ht hx hlo hhi hs hl hu hc.2.2.1 hc.2.2.2.1 hc.2.2.2.2).does hS
            · cases hw
          · simp at hw
          · split at hw <;> simp at hw
          · cases hw
        · cases hev
      · cases hev
    · rename_i e x' lo' hi' mx' ht hx hlo hhi hmx
      split at hr
      · rename_i n hn
        split at hr
        · rename_i hpos
          cases hr
          obtain rfl : r = .slc n x' lo' hi' mx' := by rcases hlax with h | h <;> exact h
          simp only [evalOp] at hev
          split at hev
          · rename_i l u m hl hu hm
            split at hev
            · rename_i w hw
              cases hev
              unfold sliceA at hw
              split at hw
              · simp [show ¬ n = 0 from by omega] at hw
              · rename_i full z xs hg
                dsimp only at hw
                simp only [hpos, true_and] at hw
                split at hw
                · rename_i hz
                  split at hw
                  · split at hw
                    · rename_i hc
                      cases hw
                      exact (q_slc_vs hf hop ht hn hx hlo hhi hmx hg hl hu hm hz hc.1 hc.2.1 (.inl ⟨rfl, hc.2.2, rfl⟩)).does hS
                    · cases hw
                  · rename_i q
                    split at hw
                    · rename_i hc
                      cases hw
                      exact (q_slc_vs hf hop ht hn hx hlo hhi hmx hg hl hu hm hz hc.2.1 hc.2.2.1 (.inr ⟨q, rfl, hc.1, hc.2.2.2.1, hc.2.2.2.2, rfl⟩)).does hS
                    · cases hw
                · cases hw
              · rename_i k m0 off len hg
                dsimp only at hw
                split at hw
                · rename_i f hfk
                  simp only [hpos, true_and] at hw
                  split at hw
                  · rename_i hz
                    split at hw
                    · split at hw
                      · rename_i hc
                        cases hw
                        exact (q_slc_sl hS hf hop ht hn hx hlo hhi hmx hg hl hu hm hfk hz.1 hz.2 (.inl ⟨rfl, hc.1, hc.2.1, hc.2.2, rfl⟩)).does hS
                      · cases hw
                    · rename_i q
                      split at hw
                      · rename_i hc
                        cases hw
                        obtain ⟨c1, c2, c3, rfl⟩ := hc
                        exact (q_slc_sl hS hf hop ht hn hx hlo hhi hmx hg hl hu hm hfk hz.1 hz.2 (.inr ⟨rfl, c1, c2, c3, rfl⟩)).does hS
                      · cases hw
                  · cases hw
                · cases hw
              · cases hw
            · cases hev
          · cases hev
        · cases hr
      · cases hr
    · cases hr
  | fieldAddr s x i =>
    rw [hop] at hr; simp only [resOp] at hr
    split at hr
    · rename_i fs x' hs hx
      split at hr
      · rename_i f hi
        split at hr
        · rename_i n hn
          split at hr
          · rename_i hpos
            cases hr
            obtain rfl : r = .faddr f.offset x' := by rcases hlax with h | h <;> exact h
            simp only [evalOp] at hev
            have : h' = E.h := by split at hev <;> first | (cases hev; rfl) | cases hev
            subst this
            exact (q_faddr hf hop hs hi hn hpos hx hev).does hS
          · cases hr
        · cases hr
      · cases hr
    · cases hr
  | field s x i =>
    rw [hop] at hr; simp only [resOp] at hr
    split at hr
    · rename_i fs x' hs hx
      split at hr
      · rename_i f hi
        split at hr
        · rename_i b n hb hn
          cases hr
          obtain rfl : r = .fld b f.offset n x' := by rcases hlax with h | h <;> exact h
          simp only [evalOp] at hev
          split at hev
          · rename_i cs hg
            split at hev
            · rename_i w hw; cases hev; exact (q_fld hf hop hs hi hb hn hx hg hw).does hS
            · cases hev
          · cases hev
        · cases hr
      · cases hr
    · cases hr
  | indexAddr t x i =>
    rw [hop] at hr; simp only [resOp] at hr
    split at hr
    · rename_i e x' i' ht hx hi
      split at hr
      · rename_i n hn
        split at hr
        · cases hr
          obtain rfl : r = .iaddr n x' i' := by rcases hlax with h | h <;> exact h
          simp only [evalOp] at hev
          have : h' = E.h := by
            split at hev
            · split at hev
              · split at hev <;> first | (cases hev; rfl) | cases hev
              · cases hev
            · split at hev
              · split at hev <;> first | (cases hev; rfl) | cases hev
              · cases hev
            · cases hev
          subst this
          exact (q_iaddr hS hf hop ht hn hx hi hev).does hS
        · cases hr
      · cases hr
    · cases hr
  | index t x i =>
    rw [hop] at hr; simp only [resOp] at hr
    split at hr
    · rename_i x' i' ht hx hi
      cases hr
      obtain rfl : r = .idx x' i' := by rcases hlax with h | h <;> exact h
      simp only [evalOp] at hev
      split at hev
      · rename_i s q j hg hj
        split at hev
        · rename_i h0
          split at hev
          · rename_i b hb; cases hev; exact (q_idx hf hop ht hx hi hg hj h0 hb).does hS
          · cases hev
        · cases hev
      · cases hev
    · cases hr
  | extract x i =>
    rw [hop] at hr; simp only [resOp, Option.map_eq_some_iff] at hr
    obtain ⟨y, hy, rfl⟩ := hr
    obtain rfl : r = .ext y i := by rcases hlax with h | h <;> exact h
    simp only [evalOp] at hev
    split at hev
    · rename_i vs hg
      split at hev
      · rename_i w hw; cases hev; exact (q_ext hf hop hy hg hw).does hS
      · cases hev
    · cases hev
  | call q =>
    rw [hop] at hr
    obtain ⟨callee, args, ats⟩ := q
    cases callee with
    | invoke x m => simp [resOp] at hr
    | value x =>
      cases x <;> simp only [resOp] at hr <;> try (cases hr; done)
      · simp only [Option.map_eq_some_iff] at hr
        obtain ⟨as, _, rfl⟩ := hr
        rcases hlax with rfl | rfl <;> simp [ROp.isCall, ROp.lax] at hnc
      · split at hr
        · simp only [Option.map_eq_some_iff] at hr
          obtain ⟨as, _, rfl⟩ := hr
          rcases hlax with rfl | rfl <;> simp [ROp.isCall, ROp.lax] at hnc
        · cases hr
    | builtin b =>
      cases b <;> simp only [resOp] at hr <;> try (cases hr; done)
      case append =>
        split at hr
        · rename_i s x t u h1 h2
          split at hr
          · rename_i e ht
            split at hr
            · rename_i i z s' x' hi hz hs hx
              split at hr
              · rename_i hc
                cases hr
                obtain ⟨hpos, rfl⟩ := hc
                obtain rfl : r = .app i.size i.bytes s' x' := by rcases hlax with h | h <;> exact h
                simp only [evalOp, appendA] at hev
                split at hev
                · cases hev
                · rename_i ys hys
                  split at hev
                  · rename_i z0 xs hg
                    split at hev
                    · rename_i h0
                      cases hev
                      -- nothing is appended
                      have e1 := opd_sound hf hs
                      have e1' := e1
                      rw [hg] at e1
                      simp only [VR, PV] at e1
                      obtain ⟨base, len, cap, e2, _, e4, _⟩ := e1
                      obtain ⟨ad, cx, f1, _⟩ := elems_sound hS hpos (opd_sound hf hx) hys
                      refine ⟨_, .slice base len cap, E, exec_append hop h1 h2 ?_, .inl rfl, Ext.refl E, hS, rfl, by rw [hg, e2] at e1'; exact e1'⟩
                      rw [e2, f1, h0]
                      exact run_append_zero t _ e i ht hi base ad len cap cx e4 E.w
                    · rename_i h0
                      split at hev
                      · rename_i hb
                        cases hev
                        exact d_app_full hS hf hop h1 h2 ht hi hz hpos hs hx hg hys h0 hb.1 hb.2.1 hb.2.2
                      · cases hev
                  · rename_i k n off len hg
                    split at hev
                    · rename_i f hfk
                      split at hev
                      · rename_i hb
                        cases hev
                        exact d_app_row hS hf hop h1 h2 ht hi hz hpos hs hx hg hys hfk hb.1 hb.2.1 hb.2.2.1 hb.2.2.2.1 hb.2.2.2.2
                      · cases hev
                    · cases hev
                  · cases hev
              · cases hr
            · cases hr
          · cases hr
        · cases hr
      case len =>
        split at hr
        · rename_i x t h1 h2
          split at hr
          · rename_i ht
            simp only [Option.map_eq_some_iff] at hr
            obtain ⟨y, hy, rfl⟩ := hr
            obtain rfl : r = .len true y := by rcases hlax with h | h <;> exact h
            simp only [evalOp] at hev
            split at hev
            · rename_i s hs; cases hev; exact (q_len_str hf hop h1 h2 ht hy hs).does hS
            · cases hev
          · rename_i e ht
            simp only [Option.map_eq_some_iff] at hr
            obtain ⟨y, hy, rfl⟩ := hr
            obtain rfl : r = .len false y := by rcases hlax with h | h <;> exact h
            simp only [evalOp] at hev
            have : h' = E.h := by split at hev <;> first | (cases hev; rfl) | cases hev
            subst this
            exact (q_len hf hop h1 h2 ht hy hev).does hS
          · cases hr
        · cases hr
      case max =>
        split at hr
        · rename_i x y h1
          split at hr
          · rename_i x' y' hx hy
            cases hr
            obtain rfl : r = .max x' y' := by rcases hlax with h | h <;> exact h
            simp only [evalOp] at hev
            split at hev
            · rename_i k i k' j hi hj
              split at hev
              · cases hev; exact (q_max hf hop h1 hx hy hi hj).does hS
              · cases hev
            · cases hev
          · cases hr
        · cases hr
  | _ => rw [hop] at hr; simp [resOp] at hr

end
end Go.Abs
