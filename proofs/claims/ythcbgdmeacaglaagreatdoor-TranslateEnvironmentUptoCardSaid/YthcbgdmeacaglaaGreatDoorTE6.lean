/- A part of the proof. -/
import Derived.Test.YthcbgdmeacaglaaGreatDoorTE5
import Derived.MapKept
import Derived.Laws.BytesArg
import Derived.Laws.StructEq
set_option linter.all false
namespace Go.Abs
open Go.RowKit (Below)
section
variable {E : Env} {P : Program} {fr : Fr} {a : Act} {o : Oper}
theorem heap_alloc_obj (w : World) (x : Obj) : (w.alloc x).heap[w.heap.size]? = some x := (MapKept.heap_alloc w x).1
def Env.newMap (E : Env) : Env :=
  { E with w := E.w.alloc (.map #[] 0), nb := upd E.nb E.h.boxes.length E.w.heap.size, h := { E.h with boxes := E.h.boxes ++ [[.mbox [] []]] } }
theorem newMap_ext (h : SR E) : Ext E E.newMap := by
  refine ⟨fun b o ho => ?_, by simp [Env.newMap], fun i hi => ⟨live_keep rfl hi, upd_other _ _ (by have := hi.lt; omega)⟩, Nat.le_refl _, fun k f f' hf hf' => ?_, rfl, rfl, ⟨(Below.refl _ _).alloc h.basele _, fun _ => Nat.le_refl _⟩⟩
  · have hlt := ok_lt h ho
    refine ⟨?_, cell_eq (Below.heap_alloc _ _ _ hlt)⟩
    rcases ho with ho | ⟨h1, _, h3, h4⟩
    · exact .inl ho
    · refine .inr ⟨h1, by simp [Env.newMap]; omega, fun i hi => ?_, h4⟩
      by_cases hn : i = E.h.boxes.length
      · subst hn; simp only [Env.newMap, upd_same]; intro e; omega
      · have hi' : E.Live i := (live_app (E := E) rfl hi).resolve_right hn
        simp only [Env.newMap, upd_other _ _ hn]
        intro e
        obtain ⟨cs', hcs'⟩ := h3 i hi' e
        exact ⟨cs', by rw [List.getElem?_append_left hi'.lt]; exact hcs'⟩
  · have : f = f' := by have := hf.symm.trans hf'; simpa using this
    subst this
    exact ⟨rfl, Nat.le_refl _, fun _ => rfl⟩
theorem newMap_SR (h : SR E) : SR E.newMap := by
  have hx := newMap_ext h
  have hlen : E.newMap.h.boxes.length = E.h.boxes.length + 1 := by simp [Env.newMap]
  have hnb : ∀ i, E.Live i → E.newMap.nb i = E.nb i := fun i hi => upd_other _ _ (by have := hi.lt; omega)
  have hnew : E.newMap.nb E.h.boxes.length = E.w.heap.size := upd_same _ _ _
  refine ⟨Nat.le_trans h.basele (by simp [Env.newMap]), fun i cs' hi hh => ?_, fun k f hk => ?_, fun i j hi hj he => ?_, h.injf, fun i k hi hk => ?_⟩
  · by_cases hn : i = E.h.boxes.length
    · subst hn
      have : cs' = [.mbox [] []] := by simpa [Env.newMap] using hi.symm
      subst this
      exact ⟨by rw [hnew]; exact h.basele, .inr (.inl ⟨[], [], #[], 0, rfl, by rw [hnew]; exact heap_alloc_obj _ _, by simp [PVs], by simp [PVs]⟩)⟩
    · have hi' : i < E.h.boxes.length := by have := (List.getElem?_eq_some_iff.1 hi).1; omega
      have hcs : E.h.boxes[i]? = some cs' := by
        simp only [Env.newMap] at hi
        rwa [List.getElem?_append_left hi'] at hi
      have hl := live_of hcs hh
      exact (h.boxes i cs' hcs hh).ext hx hl (Below.heap_alloc _ _ _ (h.nb_lt hl).2)
  · have hk' : k < E.h.fams.length := (List.getElem?_eq_some_iff.1 hk).1
    exact (h.fams k f hk).ext hx rfl (Below.heap_alloc _ _ _ (h.im_lt hk').2)
  · rcases live_app (E := E) rfl hi with hi' | rfl <;> rcases live_app (E := E) rfl hj with hj' | rfl
    · rw [hnb i hi', hnb j hj'] at he; exact h.inj i j hi' hj' he
    · rw [hnb i hi', hnew] at he; have := (h.nb_lt hi').2; omega
    · rw [hnb j hj', hnew] at he; have := (h.nb_lt hj').2; omega
    · rfl
  · have hk' : k < E.h.fams.length := hk
    rcases live_app (E := E) rfl hi with hi' | rfl
    · rw [hnb i hi']; exact h.sep i k hi' hk'
    · rw [hnew]
      have := (h.im_lt hk').2
      simp only [Env.newMap]
      omega
theorem d_mkmap {t : TypeId} (hS : SR E) (ho : o.op = .makeMap t none) : Does P a o E (.mp E.h.boxes.length) { E.h with boxes := E.h.boxes ++ [[.mbox [] []]] } := by
  refine ⟨_, .map (some E.w.heap.size), E.newMap, ?_, .inl rfl, newMap_ext hS, newMap_SR hS, rfl, ?_⟩
  · simp [execOp, ho, Instr.makeMap, Env.newMap, Result.andThen]
  · simp only [VR]
    exact ⟨live_of (cs := [.mbox [] []]) (by simp [Env.newMap]) rfl, by simp only [Env.newMap, upd_same]⟩
def Env.setMap (E : Env) (i : Nat) (es : Array MapEntry) (clk : Nat) (cs : List AV) : Env :=
  { E with w := { E.w with heap := E.w.heap.setIfInBounds (E.nb i) (.map es clk) }, h := { E.h with boxes := E.h.boxes.set i cs } }
theorem set_below {w : World} {B g : Nat} (x : Obj) (hg : B ≤ g) : Below B w { w with heap := w.heap.setIfInBounds g x } :=
  ⟨rfl, rfl, rfl, by simp, fun k hk => by simp [Array.getElem?_setIfInBounds_ne (show g ≠ k by omega)]⟩
theorem set_other (w : World) (g k : Nat) (x : Obj) (h : k ≠ g) : ({ w with heap := w.heap.setIfInBounds g x } : World).heap[k]? = w.heap[k]? := by
  simp [Array.getElem?_setIfInBounds_ne (Ne.symm h)]
theorem setMap_ext (h : SR E) {i : Nat} (hi : E.Live i) {ks vs : List AV} (hold : E.h.boxes[i]? = some [.mbox ks vs]) (es : Array MapEntry) (clk : Nat) (cs : List AV) (hcs : isHole cs = false) : Ext E (E.setMap i es clk cs) := by
  have hb := h.nb_lt hi
  refine ⟨fun b o ho => ?_, by simp [Env.setMap], fun _ h => ⟨live_set rfl hcs h, rfl⟩, Nat.le_refl _, fun k f f' hf hf' => ?_, rfl, rfl, ⟨set_below _ hb.1, fun _ => Nat.le_refl _⟩⟩
  · have hne : b ≠ E.nb i := by
      rcases ho with ⟨ho, _⟩ | ⟨_, _, h3, _⟩
      · omega
      · intro e
        obtain ⟨cs', hcs'⟩ := h3 i hi e.symm
        rw [hold] at hcs'
        cases hcs'
    refine ⟨?_, cell_eq (set_other _ _ _ _ hne)⟩
    rcases ho with ho | ⟨h1, h2, h3, h4⟩
    · exact .inl ho
    · refine .inr ⟨h1, by simpa [Env.setMap] using h2, fun j hj e => ?_, h4⟩
      have hij : i ≠ j := fun e' => hne (by rw [e']; exact e.symm)
      obtain ⟨cs', hcs'⟩ := h3 j ((live_unset (E := E) rfl hj).resolve_right (Ne.symm hij)) e
      exact ⟨cs', by simpa [Env.setMap, List.getElem?_set_ne hij] using hcs'⟩
  · have : f = f' := by have := hf.symm.trans hf'; simpa using this
    subst this
    exact ⟨rfl, Nat.le_refl _, fun _ => rfl⟩
theorem pvs_hole {ks vs : List AV} {es : List MapEntry} {w : World} {ok : Nat → Nat → Prop} (h1 : PVs w ok ks (es.map (·.key))) (h2 : PVs w ok vs (es.map (·.val))) : isHole [.mbox ks vs] = false := by
  unfold isHole
  split
  · rename_i e
    cases e
    have e1 := (PVs_get h1).1
    have e2 := (PVs_get h2).1
    simp at e1 e2
    rw [e2] at e1
    simp at e1
  · rfl
theorem setMap_SR (h : SR E) {i : Nat} {ks vs ks' vs' : List AV} (hl : E.Live i) (hi : E.h.boxes[i]? = some [.mbox ks vs]) {es : Array MapEntry} {clk : Nat} (h1 : PVs E.w E.ok ks' (es.toList.map (·.key))) (h2 : PVs E.w E.ok vs' (es.toList.map (·.val))) :
    SR (E.setMap i es clk [.mbox ks' vs']) := by
  have hi' := hl.lt
  have hx := setMap_ext h hl hi es clk [.mbox ks' vs'] (pvs_hole h1 h2)
  have hb1 := (h.boxes i _ hi (hl.ne hi)).1
  have hlt := h.nb_lt hl
  have hun : ∀ a, (E.setMap i es clk [.mbox ks' vs']).Live a → E.Live a := fun a ha => (live_unset (E := E) rfl ha).elim id fun e => e ▸ hl
  refine ⟨by simpa [Env.setMap] using h.basele, fun j cs' hj hh => ?_, fun k f hk => ?_, fun a b ha hb => h.inj a b (hun a ha) (hun b hb), h.injf, fun a k ha => h.sep a k (hun a ha)⟩
  · by_cases hn : i = j
    · subst hn
      have : cs' = [.mbox ks' vs'] := by simpa [Env.setMap, hi'] using hj.symm
      subst this
      exact ⟨hb1, .inr (.inl ⟨ks', vs', es, clk, rfl, by simp [Env.setMap, hlt.2], PVs_mono hx.cells _ _ h1, PVs_mono hx.cells _ _ h2⟩)⟩
    · have hcs : E.h.boxes[j]? = some cs' := by simpa [Env.setMap, List.getElem?_set_ne hn] using hj
      have hlj := live_of hcs hh
      exact (h.boxes j cs' hcs hh).ext hx hlj (set_other _ _ _ _ (fun e => hn (h.inj _ _ hl hlj e.symm)))
  · have hk' : k < E.h.fams.length := (List.getElem?_eq_some_iff.1 hk).1
    exact (h.fams k f hk).ext hx rfl (set_other _ _ _ _ (fun e => h.sep i k hl hk' e.symm))
theorem keyStr_spec {kt : TypeId} {str : Bool} (h : keyStr P kt = some str) : (str = true ∧ P.underlying kt = some .string) ∨ (str = false ∧ ∃ k, P.underlying kt = some (.int k)) := by
  unfold keyStr at h
  split at h
  · rename_i hu; cases h; exact .inl ⟨rfl, hu⟩
  · rename_i k hu; cases h; exact .inr ⟨rfl, k, hu⟩
  · cases h
theorem run_checkKey' {kt : TypeId} {str : Bool} (h : keyStr P kt = some str) (w : World) (v : Value) (e : Bool) (n : Nat) : (Instr.checkKey e (n + 1) kt v).run P w = .ok () w := by
  rcases keyStr_spec h with ⟨_, hu⟩ | ⟨_, k, hu⟩ <;> (unfold Instr.checkKey; simp only [Sem.run_bind, run_underlying hu, Result.andThen]; cases v <;> rfl)
theorem eqKey_sound {w : World} {ok : Nat → Nat → Prop} {str : Bool} {d : TypeDesc} (hd : (str = true ∧ d = .string) ∨ (str = false ∧ ∃ k, d = .int k)) {x y : AV} {u v : Value} {b : Bool} (hx : VR E x u) (hy : PV w ok y v) (h : eqKey str x y = some b) :
    Instr.sameNow d u v = some b ∧ (b = true → u = v) := by
  unfold eqKey at h
  split at h
  · simp only [VR] at hx
    simp only [PV] at hy
    subst hx hy
    split at h
    · rename_i hs
      cases h
      rcases hd with ⟨_, rfl⟩ | ⟨h1, _⟩
      · exact ⟨rfl, fun e => by rw [(MapKept.bytes_beq _ _).1 e]⟩
      · rw [h1] at hs; cases hs
    · cases h
  · simp only [VR] at hx
    simp only [PV] at hy
    subst hx hy
    split at h
    · rename_i hs
      cases h
      rcases hd with ⟨h1, _⟩ | ⟨_, k', rfl⟩
      · rw [h1] at hs; simp at hs
      · obtain ⟨_, rfl⟩ := hs
        exact ⟨by simp [Instr.sameNow], fun e => by rw [eq_of_beq e]⟩
    · cases h
  · cases h
theorem findK_sound {w : World} {ok : Nat → Nat → Prop} {str : Bool} {d : TypeDesc} (hd : (str = true ∧ d = .string) ∨ (str = false ∧ ∃ k, d = .int k)) {x : AV} {u : Value} (hx : VR E x u) : ∀ {ks : List AV} {es : List MapEntry} {i : Nat} {r : Option Nat},
    PVs w ok ks (es.map (·.key)) → findK str x ks i = some r →
    (r = none ∧ Instr.findNow d u es i = some none) ∨ ∃ j e, r = some (i + j) ∧ es[j]? = some e ∧ Instr.findNow d u es i = some (some (i + j, e.val)) ∧ u = e.key
  | [], es, i, r, hp, h => by
    simp only [findK] at h
    cases h
    cases es with
    | nil => exact .inl ⟨rfl, rfl⟩
    | cons e es => simp [PVs] at hp
  | y :: ks, [], i, r, hp, h => by simp [PVs] at hp
  | y :: ks, e :: es, i, r, hp, h => by
    simp only [PVs, List.map_cons] at hp
    obtain ⟨v, vs, he, h1, h2⟩ := hp
    cases he
    simp only [findK] at h
    split at h
    · rename_i hq
      cases h
      obtain ⟨g1, g2⟩ := eqKey_sound hd hx h1 hq
      exact .inr ⟨0, e, rfl, rfl, by simp [Instr.findNow, g1], g2 rfl⟩
    · rename_i hq
      obtain ⟨g1, g2⟩ := eqKey_sound hd hx h1 hq
      rcases findK_sound hd hx h2 h with ⟨k1, k2⟩ | ⟨j, e', k1, k2, k3, k4⟩
      · exact .inl ⟨k1, by simp [Instr.findNow, g1, k2]⟩
      · refine .inr ⟨j + 1, e', by rw [k1]; congr 1; omega, by simpa using k2, ?_, k4⟩
        simp only [Instr.findNow, g1, k3]
        rw [show i + 1 + j = i + (j + 1) by omega]
    · cases h
theorem keyStr_desc {kt : TypeId} {str : Bool} (h : keyStr P kt = some str) : ∃ d, P.underlying kt = some d ∧ ((str = true ∧ d = .string) ∨ (str = false ∧ ∃ k, d = .int k)) := by
  rcases keyStr_spec h with ⟨h1, hu⟩ | ⟨h1, k, hu⟩
  · exact ⟨_, hu, .inl ⟨h1, rfl⟩⟩
  · exact ⟨_, hu, .inr ⟨h1, k, rfl⟩⟩
theorem mapEnts_sound (hS : SR E) {x : AV} {v : Value} {ks vs : List AV} (hv : VR E x v) (h : mapEnts E.h x = some (ks, vs)) :
    ∃ es : Array MapEntry, PVs E.w E.ok ks (es.toList.map (·.key)) ∧ PVs E.w E.ok vs (es.toList.map (·.val)) ∧ ((v = .map none ∧ es = #[]) ∨ ∃ b clk, v = .map (some b) ∧ E.w.heap[b]? = some (.map es clk)) := by
  unfold mapEnts at h
  split at h
  · cases h
    simp only [VR, PV] at hv
    obtain ⟨b, es, clk, rfl, _, h1, h2, h3⟩ := hv
    exact ⟨es, h2, h3, .inr ⟨b, clk, rfl, h1⟩⟩
  · split at h
    · rename_i ks' vs' hb
      cases h
      simp only [VR] at hv
      obtain ⟨hlv, rfl⟩ := hv
      obtain ⟨es, clk, h1, h2, h3⟩ := (hS.boxes _ _ hb (hlv.ne hb)).map
      exact ⟨es, h2, h3, .inr ⟨_, clk, rfl, h1⟩⟩
    · cases h
  · cases h
    simp only [VR] at hv
    subst hv
    exact ⟨#[], by simp [PVs], by simp [PVs], .inl ⟨rfl, rfl⟩⟩
  · cases h
theorem q_mlen {args : Array Operand} {ats : Array TypeId} {x : Operand} {t kt et : TypeId} {x' : Opd} {v : AV} {h' : AH} (hS : SR E) (hf : FR E fr a.tmps) (ho : o.op = .call { callee := .builtin .len, args := args, argTypes := ats }) (h1 : args.toList = [x]) (h2 : ats.toList = [t])
    (ht : P.underlying t = some (.map kt et)) (hx : resOpd x = some x') (hev : (match mapEnts E.h (get fr x') with | some (ks, _) => some ((.int .i64 ks.length : AV), E.h) | none => none) = some (v, h')) : Does P a o E v h' := by
  split at hev
  case h_2 => cases hev
  rename_i ks vs hm
  cases hev
  obtain ⟨es, e1, e2, e3⟩ := mapEnts_sound hS (opd_sound hf hx) hm
  have hl : ks.length = es.size := by have := (PVs_get e1).1; simpa using this.symm
  rw [arr_one h1, arr_one h2] at ho
  rw [hl]
  rcases e3 with ⟨hm, rfl⟩ | ⟨b, clk, hm, hb⟩
  · exact Quiet.does hS ⟨_, by simp [execOp, ho, resolve, invoke, builtin, Builtin.len_, hm, run_under ht, goInt], VR_int _ _⟩
  · exact Quiet.does hS ⟨_, by simp [execOp, ho, resolve, invoke, builtin, Builtin.len_, hm, run_under ht, goInt, MapKept.run_getObj_map hb, Result.andThen], VR_int _ _⟩
theorem d_mlook {t kt et : TypeId} {x k : Operand} {x' k' : Opd} {ok str : Bool} {z v : AV} {h' : AH} (hS : SR E) (hf : FR E fr a.tmps) (ho : o.op = .lookup t x k ok) (ht : P.underlying t = some (.map kt et)) (hk : keyStr P kt = some str) (hz : Program.zeroA P et = some z)
    (hx : resOpd x = some x') (hkk : resOpd k = some k') (hev : mlookA str ok z E.h (get fr x') (get fr k') = some (v, h')) : Does P a o E v h' := by
  unfold mlookA at hev
  split at hev
  case isFalse => cases hev
  split at hev
  case h_2 => cases hev
  rename_i ks vs hm
  obtain ⟨es, e1, e2, e3⟩ := mapEnts_sound hS (opd_sound hf hx) hm
  have hkv := opd_sound hf hkk
  obtain ⟨d, hd, hd'⟩ := keyStr_desc hk
  obtain ⟨i, zv, z1, z2, z3, z4, z5⟩ := zeroA_spec hz
  have hzv : VR E z zv := VR_of_PV _ _ (constAV_sound z4)
  have pair : ∀ {y : AV} {u : Value} (b : Bool), VR E y u → VR E (if ok then .tup [y, .bool b] else y) (if ok then .tuple #[u, .bool b] else u) := by
    intro y u b hy
    cases ok with
    | false => exact hy
    | true =>
      simp only [if_true, VR]
      exact ⟨_, rfl, by simp [VRs, VR, hy]⟩
  have run : ∀ (r : Option (Nat × Value)), Instr.findNow d (a.eval k) es.toList 0 = some r → ∀ (u : Value) (b : Bool), (match r with | some (_, v) => u = v ∧ b = true | none => u = zv ∧ b = false) →
      (execOp a.eval o).run P E.w = .ok (.value (if ok then .tuple #[u, .bool b] else u)) E.w := by
    intro r hr u b hu
    rcases e3 with ⟨hm, rfl⟩ | ⟨bl, clk, hm, hb⟩
    · cases r with
      | some p => simp [Instr.findNow] at hr
      | none =>
        obtain ⟨rfl, rfl⟩ := hu
        simp [execOp, ho, Instr.lookup, run_underlying ht, hm, run_checkKey' hk, MapKept.run_findKey hd hr, zeroValue, typeInfo, z1, z2, Result.andThen]
    · cases r with
      | some p =>
        obtain ⟨q, v⟩ := p
        obtain ⟨rfl, rfl⟩ := hu
        simp [execOp, ho, Instr.lookup, run_underlying ht, hm, MapKept.run_getObj_map hb, run_checkKey' hk, MapKept.run_findKey hd hr, Result.andThen]
      | none =>
        obtain ⟨rfl, rfl⟩ := hu
        simp [execOp, ho, Instr.lookup, run_underlying ht, hm, MapKept.run_getObj_map hb, run_checkKey' hk, MapKept.run_findKey hd hr, zeroValue, typeInfo, z1, z2, Result.andThen]
  split at hev
  · rename_i j hj
    split at hev
    · rename_i y hy
      cases hev
      rcases findK_sound hd' hkv e1 hj with ⟨h1, _⟩ | ⟨q, e, h1, h2, h3, _⟩
      · cases h1
      · have hq : j = q := by simpa using h1
        subst hq
        obtain ⟨hl, hg⟩ := PVs_get e2
        obtain ⟨u, hu, hpu⟩ := hg hy
        have hue : u = e.val := by
          rw [List.getElem?_map, h2] at hu
          simpa using hu.symm
        subst hue
        exact Quiet.does hS ⟨_, run _ h3 e.val true ⟨rfl, rfl⟩, pair true (VR_of_PV _ _ hpu)⟩
    · cases hev
  · rename_i hj
    cases hev
    rcases findK_sound hd' hkv e1 hj with ⟨_, h2⟩ | ⟨q, e, h1, _⟩
    · exact Quiet.does hS ⟨_, run _ h2 zv false ⟨rfl, rfl⟩, pair false hzv⟩
    · cases h1
  · cases hev
theorem pairKey_spec {kt : TypeId} (h : pairKey P kt = true) : ∃ fs f g k, P.underlying kt = some (.struct fs) ∧ fs.toList = [f, g] ∧ P.underlying f.type = some .string ∧ P.underlying g.type = some (.int k) ∧
    f.name ≠ "_" ∧ g.name ≠ "_" ∧ f.offset = 0 ∧ g.offset = 1 ∧ P.stoodInHeld kt = false := by
  unfold pairKey at h
  split at h
  · rename_i fs hu
    split at h
    · rename_i f g hfs
      split at h
      · rename_i k h1 h2
        simp only [decide_eq_true_eq] at h
        obtain ⟨a1, a2, a3, a4, _, _, a5⟩ := h
        exact ⟨fs, f, g, k, hu, hfs, h1, h2, a1, a2, a3, a4, a5⟩
      · cases h
    · cases h
  · cases h
theorem part_str {t : TypeId} {xs : Array Value} {q : Nat} {v : Value} {d : TypeDesc} (w : World) (hu : P.underlying t = some d) (hd : d = .string ∨ ∃ k, d = .int k) (hq : xs[q]? = some v) : (part t xs q).run P w = .ok v w := by
  have hag : (isAgg t).run P w = .ok false w := by
    unfold isAgg
    rcases hd with rfl | ⟨k, rfl⟩ <;> simp [run_underlying hu]
  unfold part
  simp only [Sem.run_bind, hag, Result.andThen_ok, Bool.false_eq_true, if_false, hq, Sem.run_pure]
theorem run_pair_eq {kt : TypeId} (h : pairKey P kt = true) (w : World) (x y : ByteArray) (k : IntKind) (n m : Int) :
    (Op.equal kt (.agg #[.string x, .int k n]) (.agg #[.string y, .int k m])).run P w = .ok (x == y && n == m) w := by
  obtain ⟨fs, f, g, kk, hu, hfs, h1, h2, a1, a2, a3, a4, a5⟩ := pairKey_spec h
  have hf : P.fieldsOf kt = fs := by simp [Program.fieldsOf, hu]
  unfold Op.equal Op.maxDepth
  rw [show (10000 : Nat) = 9999 + 1 from rfl, run_equalIn_struct w 9999 kt _ _ (by rw [hf]; exact hu) a5, hf, hfs]
  have p1 : ∀ (z : ByteArray) (q : Int), (part f.type #[.string z, .int k q] f.offset).run P w = .ok (.string z) w := fun z q => part_str w h1 (.inl rfl) (by rw [a3]; rfl)
  have p2 : ∀ (z : ByteArray) (q : Int), (part g.type #[.string z, .int k q] g.offset).run P w = .ok (.int k q) w := fun z q => part_str w h2 (.inr ⟨_, rfl⟩) (by rw [a4]; rfl)
  have e1 : (Op.equalIn 9999 f.type (.string x) (.string y)).run P w = .ok (x == y) w := by
    rw [show (9999 : Nat) = 9998 + 1 from rfl, run_equalIn_string w 9998 f.type x y h1, beq_toListBytes]
  have e2 : (Op.equalIn 9999 g.type (.int k n) (.int k m)).run P w = .ok (n == m) w := run_equalIn_int w 9998 g.type k kk n m h2
  simp only [Op.eqFields, a1, a2, ne_eq, not_false_eq_true, if_true, Sem.run_bind, p1, p2, e1, Result.andThen_ok]
  cases hx : x == y with
  | false => simp
  | true =>
    simp only [Bool.not_true, Bool.false_eq_true, if_false, Sem.run_bind, p1, p2, e2, Result.andThen_ok]
    cases hn : n == m <;> simp
theorem run_pair_check {kt : TypeId} (h : pairKey P kt = true) (w : World) (x : ByteArray) (k : IntKind) (n : Int) (e : Bool) : (Instr.checkKey e 10000 kt (.agg #[.string x, .int k n])).run P w = .ok () w := by
  obtain ⟨fs, f, g, kk, hu, hfs, h1, h2, a1, a2, a3, a4, a5⟩ := pairKey_spec h
  have p1 : (part f.type #[.string x, .int k n] f.offset).run P w = .ok (.string x) w := part_str w h1 (.inl rfl) (by rw [a3]; rfl)
  have p2 : (part g.type #[.string x, .int k n] g.offset).run P w = .ok (.int k n) w := part_str w h2 (.inr ⟨_, rfl⟩) (by rw [a4]; rfl)
  have c1 : ∀ (w : World), (Instr.checkKey e 9999 f.type (.string x)).run P w = .ok () w := fun w => by
    unfold Instr.checkKey
    simp [run_underlying h1]
  have c2 : ∀ (w : World), (Instr.checkKey e 9999 g.type (.int k n)).run P w = .ok () w := fun w => by
    unfold Instr.checkKey
    simp [run_underlying h2]
  rw [show (10000 : Nat) = 9999 + 1 from rfl]
  unfold Instr.checkKey
  simp only [Sem.run_bind, run_underlying hu, Result.andThen_ok]
  rw [← Array.forIn_toList, hfs]
  simp only [List.forIn_cons, List.forIn_nil, Sem.run_bind, Sem.run_ite, a1, a2, ne_eq, not_false_eq_true, if_true, p1, p2, c1, c2, Result.andThen_ok, Sem.run_pure]
theorem keyOkP_form {x : AV} {u : Value} (hv : VR E x u) (h : keyOkP x = true) : ∃ s k n, x = .agg [.str s, .int k n] ∧ u = .agg #[.string s, .int k n] := by
  unfold keyOkP at h
  split at h
  · rename_i s k n
    simp only [VR] at hv
    obtain ⟨us, rfl, _, hu⟩ := hv
    obtain ⟨l, rfl⟩ : ∃ l, us = List.toArray l := ⟨us.toList, by simp⟩
    simp [VRs, VR] at hu
    subst hu
    exact ⟨s, k, n, rfl, rfl⟩
  · cases h
theorem findKP_ask {kt : TypeId} (hp : pairKey P kt = true) {w' w : World} {ok : Nat → Nat → Prop} {s : ByteArray} {k : IntKind} {n : Int} : ∀ {ks : List AV} {es : List MapEntry} {i : Nat} {r : Option Nat},
    PVs w' ok ks (es.map (·.key)) → findKP (.agg [.str s, .int k n]) ks i = some r →
    (r = none ∧ (Instr.findAsking kt (.agg #[.string s, .int k n]) es i).run P w = .ok none w) ∨ ∃ j e, r = some (i + j) ∧ es[j]? = some e ∧ (Instr.findAsking kt (.agg #[.string s, .int k n]) es i).run P w = .ok (some (i + j, e.val)) w ∧ Value.agg #[.string s, .int k n] = e.key
  | [], es, i, r, hq, h => by
    simp only [findKP] at h
    cases h
    cases es with
    | nil => exact .inl ⟨rfl, by simp [Instr.findAsking]⟩
    | cons e es => simp [PVs] at hq
  | y :: ks, [], i, r, hq, h => by simp [PVs] at hq
  | y :: ks, e :: es, i, r, hq, h => by
    simp only [PVs, List.map_cons] at hq
    obtain ⟨v, vs, he, h1, h2⟩ := hq
    cases he
    have form : ∀ b, eqKeyP (.agg [.str s, .int k n]) y = some b → (Op.equal kt (.agg #[.string s, .int k n]) e.key).run P w = .ok b w ∧ (b = true → Value.agg #[.string s, .int k n] = e.key) := by
      intro b hb
      unfold eqKeyP at hb
      split at hb
      · rename_i a1 k1 n1 a2 k2 n2 hx
        cases hx
        split at hb
        · rename_i hk
          subst hk
          cases hb
          simp only [PV] at h1
          obtain ⟨us, hus, _, hu⟩ := h1
          obtain ⟨l, rfl⟩ : ∃ l, us = List.toArray l := ⟨us.toList, by simp⟩
          simp [PVs, PV] at hu
          subst hu
          rw [hus]
          refine ⟨run_pair_eq hp w _ _ _ _ _, fun e => ?_⟩
          rw [Bool.and_eq_true] at e
          rw [(MapKept.bytes_beq _ _).1 e.1, eq_of_beq e.2]
        · cases hb
      · cases hb
    simp only [findKP] at h
    split at h
    · rename_i hb
      cases h
      obtain ⟨g1, g2⟩ := form _ hb
      exact .inr ⟨0, e, rfl, rfl, by simp [Instr.findAsking, g1], g2 rfl⟩
    · rename_i hb
      obtain ⟨g1, g2⟩ := form _ hb
      rcases findKP_ask hp (w := w) h2 h with ⟨k1, k2⟩ | ⟨j, e', k1, k2, k3, k4⟩
      · exact .inl ⟨k1, by simp [Instr.findAsking, g1, k2]⟩
      · refine .inr ⟨j + 1, e', by rw [k1]; congr 1; omega, by simpa using k2, ?_, k4⟩
        simp only [Instr.findAsking, Sem.run_bind, g1, Result.andThen_ok, Bool.false_eq_true, if_false, k3]
        rw [show i + 1 + j = i + (j + 1) by omega]
    · cases h
theorem findKP_run {kt : TypeId} (hp : pairKey P kt = true) {w' w : World} {ok : Nat → Nat → Prop} {s : ByteArray} {k : IntKind} {n : Int} {ks : List AV} {es : List MapEntry} {r : Option Nat}
    (hq : PVs w' ok ks (es.map (·.key))) (h : findKP (.agg [.str s, .int k n]) ks 0 = some r) :
    (r = none ∧ (Instr.findKey kt (.agg #[.string s, .int k n]) es).run P w = .ok none w) ∨ ∃ j e, r = some j ∧ es[j]? = some e ∧ (Instr.findKey kt (.agg #[.string s, .int k n]) es).run P w = .ok (some (j, e.val)) w ∧ Value.agg #[.string s, .int k n] = e.key := by
  obtain ⟨fs, f, g, kk, hu, _⟩ := pairKey_spec hp
  have key : (Instr.findKey kt (.agg #[.string s, .int k n]) es).run P w = (Instr.findAsking kt (.agg #[.string s, .int k n]) es 0).run P w := by
    unfold Instr.findKey
    simp only [Sem.run_bind, run_underlying hu, Result.andThen_ok]
    cases es with
    | nil => simp [Instr.findNow, Instr.findAsking]
    | cons e es => simp [Instr.findNow, Instr.sameNow]
  rw [key]
  rcases findKP_ask hp (w := w) hq h with h | ⟨j, e, h1, h2, h3, h4⟩
  · exact .inl h
  · exact .inr ⟨j, e, by simpa using h1, h2, by simpa using h3, h4⟩
theorem d_mlookp {t kt et : TypeId} {x k : Operand} {x' k' : Opd} {ok : Bool} {z v : AV} {h' : AH} (hS : SR E) (hf : FR E fr a.tmps) (ho : o.op = .lookup t x k ok) (ht : P.underlying t = some (.map kt et)) (hp : pairKey P kt = true) (hz : Program.zeroA P et = some z)
    (hx : resOpd x = some x') (hkk : resOpd k = some k') (hev : mlookP ok z E.h (get fr x') (get fr k') = some (v, h')) : Does P a o E v h' := by
  unfold mlookP at hev
  split at hev
  case isFalse => cases hev
  rename_i hko
  split at hev
  case h_2 => cases hev
  rename_i ks vs hm
  obtain ⟨es, e1, e2, e3⟩ := mapEnts_sound hS (opd_sound hf hx) hm
  obtain ⟨s, kd, n, hkx, hku⟩ := keyOkP_form (opd_sound hf hkk) hko
  rw [hkx] at hev
  obtain ⟨i, zv, z1, z2, z3, z4, z5⟩ := zeroA_spec hz
  have hzv : VR E z zv := VR_of_PV _ _ (constAV_sound z4)
  have pair : ∀ {y : AV} {u : Value} (b : Bool), VR E y u → VR E (if ok then .tup [y, .bool b] else y) (if ok then .tuple #[u, .bool b] else u) := by
    intro y u b hy
    cases ok with
    | false => exact hy
    | true =>
      simp only [if_true, VR]
      exact ⟨_, rfl, by simp [VRs, VR, hy]⟩
  have hck : ∀ w e, (Instr.checkKey e 10000 kt (.agg #[.string s, .int kd n])).run P w = .ok () w := fun w e => run_pair_check hp w s kd n e
  have run : ∀ (r : Option (Nat × Value)), (∀ w : World, (Instr.findKey kt (.agg #[.string s, .int kd n]) es.toList).run P w = .ok r w) → ∀ (u : Value) (b : Bool), (match r with | some (_, v) => u = v ∧ b = true | none => u = zv ∧ b = false) →
      (execOp a.eval o).run P E.w = .ok (.value (if ok then .tuple #[u, .bool b] else u)) E.w := by
    intro r hr u b hu
    rcases e3 with ⟨hm, rfl⟩ | ⟨bl, clk, hm, hb⟩
    · have hr0 := hr E.w
      cases r with
      | some p => obtain ⟨fs, f, g, kk, hu', _⟩ := pairKey_spec hp; simp [Instr.findKey, run_underlying hu', Instr.findNow] at hr0
      | none =>
        obtain ⟨rfl, rfl⟩ := hu
        simp [execOp, ho, Instr.lookup, run_underlying ht, hm, hku, hck, hr0, zeroValue, typeInfo, z1, z2, Result.andThen]
    · cases r with
      | some p =>
        obtain ⟨q, v⟩ := p
        obtain ⟨rfl, rfl⟩ := hu
        simp [execOp, ho, Instr.lookup, run_underlying ht, hm, hku, MapKept.run_getObj_map hb, hck, hr, Result.andThen]
      | none =>
        obtain ⟨rfl, rfl⟩ := hu
        simp [execOp, ho, Instr.lookup, run_underlying ht, hm, hku, MapKept.run_getObj_map hb, hck, hr, zeroValue, typeInfo, z1, z2, Result.andThen]
  split at hev
  · rename_i j hj
    split at hev
    · rename_i y hy
      cases hev
      have hj' := fun w => findKP_run (w := w) hp e1 hj
      obtain ⟨q, e, h1, h2, _, _⟩ := (hj' E.w).resolve_left fun h => by cases h.1
      have hq : j = q := by simpa using h1
      subst hq
      obtain ⟨hl, hg⟩ := PVs_get e2
      obtain ⟨u, hu, hpu⟩ := hg hy
      have hue : u = e.val := by
        rw [List.getElem?_map, h2] at hu
        simpa using hu.symm
      subst hue
      refine Quiet.does hS ⟨_, run (some (j, e.val)) (fun w => ?_) e.val true ⟨rfl, rfl⟩, pair true (VR_of_PV _ _ hpu)⟩
      obtain ⟨q, e', k1, k2, k3, _⟩ := (hj' w).resolve_left fun h => by cases h.1
      have hq : j = q := by simpa using k1
      subst hq
      rw [h2] at k2
      cases k2
      exact k3
    · cases hev
  · rename_i hj
    cases hev
    refine Quiet.does hS ⟨_, run none (fun w => ?_) zv false ⟨rfl, rfl⟩, pair false hzv⟩
    rcases findKP_run (w := w) hp e1 hj with ⟨_, h2⟩ | ⟨q, e, h1, _⟩
    · exact h2
    · cases h1
  · cases hev
theorem set_self_eq {α : Type} {x : α} : ∀ {l : List α} {j : Nat}, l[j]? = some x → l.set j x = l
  | [], _, h => by simp at h
  | y :: l, 0, h => by simp at h; simp [h]
  | y :: l, j + 1, h => by simp only [List.set_cons_succ]; rw [set_self_eq (l := l) (by simpa using h)]
theorem PVs_set {w : World} {ok : Nat → Nat → Prop} {cs : List AV} {us : List Value} (h : PVs w ok cs us) (i : Nat) {c : AV} {u : Value} (hc : PV w ok c u) : PVs w ok (cs.set i c) (us.set i u) := by
  obtain ⟨hl, hg⟩ := PVs_get h
  refine PVs_of (by simp [hl]) fun j x y hx hy => ?_
  rw [List.getElem?_set] at hx hy
  by_cases e : i = j
  · subst e
    rw [if_pos rfl] at hx hy
    split at hx <;> split at hy <;> simp at hx hy
    subst hx hy
    exact hc
  · rw [if_neg e] at hx hy
    obtain ⟨y', h1, h2⟩ := hg hx
    rw [hy] at h1
    cases h1
    exact h2
theorem PVs_snoc {w : World} {ok : Nat → Nat → Prop} {cs : List AV} {us : List Value} (h : PVs w ok cs us) {c : AV} {u : Value} (hc : PV w ok c u) : PVs w ok (cs ++ [c]) (us ++ [u]) := by
  obtain ⟨hl, hg⟩ := PVs_get h
  refine PVs_of (by simp [hl]) fun j x y hx hy => ?_
  by_cases e : j < cs.length
  · rw [List.getElem?_append_left e] at hx
    rw [List.getElem?_append_left (by omega)] at hy
    obtain ⟨y', h1, h2⟩ := hg hx
    rw [hy] at h1
    cases h1
    exact h2
  · rw [List.getElem?_append_right (by omega)] at hx hy
    rw [hl] at hy
    have : j - cs.length = 0 := by
      have := (List.getElem?_eq_some_iff.1 hx).1
      simp at this
      omega
    rw [this] at hx hy
    simp at hx hy
    subst hx hy
    exact hc
theorem keyOk_PV {x : AV} {v : Value} {str : Bool} (hv : VR E x v) (h : keyOk str x = true) : PV E.w E.ok x v ∧ ∀ n, Instr.sameBits n v v = true := by
  unfold keyOk at h
  split at h
  · simp only [VR] at hv
    subst hv
    exact ⟨by simp [PV], MapKept.sameBits_self (d := .string) (by simp [MapKept.IsKey])⟩
  · rename_i k n
    simp only [VR] at hv
    subst hv
    exact ⟨by simp [PV], MapKept.sameBits_self (d := .int k) (by simp [MapKept.IsKey])⟩
  · cases h
theorem d_mup {t kt et : TypeId} {m k x : Operand} {m' k' x' : Opd} {str : Bool} {v : AV} {h' : AH} (hS : SR E) (hf : FR E fr a.tmps) (ho : o.op = .mapUpdate t m k x ∨ o.op = .insert t m k x) (ht : P.underlying t = some (.map kt et)) (hk : keyStr P kt = some str)
    (hm : resOpd m = some m') (hkk : resOpd k = some k') (hx : resOpd x = some x') (hev : mupA str E.h (get fr m') (get fr k') (get fr x') = some (v, h')) : Does P a o E v h' := by
  unfold mupA at hev
  split at hev
  case h_2 => cases hev
  rename_i b hgm
  split at hev
  case h_2 => cases hev
  rename_i ks vs u hb hu
  split at hev
  case isFalse => cases hev
  rename_i hok
  have hmv := opd_sound hf hm
  rw [hgm] at hmv
  simp only [VR] at hmv
  obtain ⟨hlt, hme⟩ := hmv
  obtain ⟨es, clk, b1, b2, b3⟩ := (hS.boxes b _ hb (hlt.ne hb)).map
  have hkv := opd_sound hf hkk
  obtain ⟨d, hd, hd'⟩ := keyStr_desc hk
  obtain ⟨hkp, hbits⟩ := keyOk_PV hkv hok.1
  have hup : PV E.w E.ok u (a.eval x) := (frz_sound hS ⟨fun _ _ h => h, fun h => by cases h⟩ (opd_sound hf hx) hu).1
  have hex : (execOp a.eval o).run P E.w = ((do Instr.mapUpdate t (a.eval m) (a.eval k) (a.eval x); pure Next.skip : Sem Next)).run P E.w := by
    rcases ho with ho | ho <;> simp only [execOp, ho]
  split at hev
  · rename_i j hj
    cases hev
    rcases findK_sound hd' hkv b2 hj with ⟨h1, _⟩ | ⟨q, e, h1, h2, h3, h4⟩
    · cases h1
    · have hq : j = q := by simpa using h1
      subst hq
      have hj' : es[j]? = some e := by simpa using h2
      have hlist : (es.modify j fun e => { e with key := a.eval k, val := a.eval x }).toList = es.toList.set j { e with key := a.eval k, val := a.eval x } := by
        apply List.ext_getElem?
        intro i
        rw [Array.getElem?_toList, Array.getElem?_modify, List.getElem?_set]
        by_cases hij : j = i
        · subst hij
          have hl : j < es.size := by have := (List.getElem?_eq_some_iff.1 h2).1; simpa using this
          have hje : es[j]'hl = e := by rw [Array.getElem?_eq_getElem hl] at hj'; exact Option.some.inj hj'
          simp [hj', hl, hje]
        · simp [hij]
      have HK : PVs E.w E.ok ks ((es.modify j fun e => { e with key := a.eval k, val := a.eval x }).toList.map (·.key)) := by
        rw [hlist, List.map_set]
        have : (es.toList.map (·.key)).set j (a.eval k) = es.toList.map (·.key) := set_self_eq (by rw [List.getElem?_map, h2, h4]; rfl)
        rw [this]
        exact b2
      have HV : PVs E.w E.ok (vs.set j u) ((es.modify j fun e => { e with key := a.eval k, val := a.eval x }).toList.map (·.val)) := by
        rw [hlist, List.map_set]
        exact PVs_set b3 j hup
      refine ⟨.skip, undef, E.setMap b (es.modify j fun e => { e with key := a.eval k, val := a.eval x }) clk [.mbox ks (vs.set j u)], ?_, .inr ⟨rfl, rfl⟩, setMap_ext hS hlt hb _ _ _ (pvs_hole HK HV), setMap_SR hS hlt hb HK HV, rfl, by simp [VR_undef]⟩
      · rw [hex]
        simp [Instr.mapUpdate, run_underlying ht, hme, MapKept.run_getObj_map b1, run_checkKey' hk, MapKept.run_findKey hd h3, hj', h4.symm, Instr.keyThatStays, hbits, MapKept.run_setObj_map _ b1, Result.andThen, Env.setMap]
  · rename_i hj
    cases hev
    rcases findK_sound hd' hkv b2 hj with ⟨_, h2⟩ | ⟨q, e, h1, _⟩
    · have HK : PVs E.w E.ok (ks ++ [get fr k']) ((es.push { key := a.eval k, val := a.eval x, born := clk }).toList.map (·.key)) := by
        simp only [Array.toList_push, List.map_append, List.map_cons, List.map_nil]
        exact PVs_snoc b2 hkp
      have HV : PVs E.w E.ok (vs ++ [u]) ((es.push { key := a.eval k, val := a.eval x, born := clk }).toList.map (·.val)) := by
        simp only [Array.toList_push, List.map_append, List.map_cons, List.map_nil]
        exact PVs_snoc b3 hup
      refine ⟨.skip, undef, E.setMap b (es.push { key := a.eval k, val := a.eval x, born := clk }) (clk + 1) [.mbox (ks ++ [get fr k']) (vs ++ [u])], ?_, .inr ⟨rfl, rfl⟩, setMap_ext hS hlt hb _ _ _ (pvs_hole HK HV), setMap_SR hS hlt hb HK HV, rfl, by simp [VR_undef]⟩
      · rw [hex]
        simp [Instr.mapUpdate, run_underlying ht, hme, MapKept.run_getObj_map b1, run_checkKey' hk, MapKept.run_findKey hd h2, MapKept.run_setObj_map _ b1, Result.andThen, Env.setMap]
    · cases h1
  · cases hev
theorem d_mupp {t kt et : TypeId} {m k x : Operand} {m' k' x' : Opd} {v : AV} {h' : AH} (hS : SR E) (hf : FR E fr a.tmps) (ho : o.op = .mapUpdate t m k x ∨ o.op = .insert t m k x) (ht : P.underlying t = some (.map kt et)) (hp : pairKey P kt = true)
    (hm : resOpd m = some m') (hkk : resOpd k = some k') (hx : resOpd x = some x') (hev : mupP E.h (get fr m') (get fr k') (get fr x') = some (v, h')) : Does P a o E v h' := by
  unfold mupP at hev
  split at hev
  case h_2 => cases hev
  rename_i b hgm
  split at hev
  case h_2 => cases hev
  rename_i ks vs u hb hu
  split at hev
  case isFalse => cases hev
  rename_i hok
  have hmv := opd_sound hf hm
  rw [hgm] at hmv
  simp only [VR] at hmv
  obtain ⟨hlt, hme⟩ := hmv
  obtain ⟨es, clk, b1, b2, b3⟩ := (hS.boxes b _ hb (hlt.ne hb)).map
  obtain ⟨s, kd, n, hkx, hku⟩ := keyOkP_form (opd_sound hf hkk) hok.1
  rw [hkx] at hev
  have hkp : PV E.w E.ok (.agg [.str s, .int kd n]) (.agg #[.string s, .int kd n]) := by
    simp only [PV]
    exact ⟨_, rfl, by simp [Value.oneCell'], by simp [PVs, PV]⟩
  have hbits : Instr.sameBits 10000 (.agg #[.string s, .int kd n]) (.agg #[.string s, .int kd n]) = true := by
    simp [Instr.sameBits, MapKept.bytes_beq]
  have hup : PV E.w E.ok u (a.eval x) := (frz_sound hS ⟨fun _ _ h => h, fun h => by cases h⟩ (opd_sound hf hx) hu).1
  have hck : ∀ w e, (Instr.checkKey e 10000 kt (.agg #[.string s, .int kd n])).run P w = .ok () w := fun w e => run_pair_check hp w s kd n e
  have hex : (execOp a.eval o).run P E.w = ((do Instr.mapUpdate t (a.eval m) (a.eval k) (a.eval x); pure Next.skip : Sem Next)).run P E.w := by
    rcases ho with ho | ho <;> simp only [execOp, ho]
  split at hev
  · rename_i j hj
    cases hev
    obtain ⟨q, e, h1, h2, h3, h4⟩ := (findKP_run (w := E.w) hp b2 hj).resolve_left fun h => by cases h.1
    have hq : j = q := by simpa using h1
    subst hq
    have hj' : es[j]? = some e := by simpa using h2
    have hlist : (es.modify j fun e => { e with key := a.eval k, val := a.eval x }).toList = es.toList.set j { e with key := a.eval k, val := a.eval x } := by
      apply List.ext_getElem?
      intro i
      rw [Array.getElem?_toList, Array.getElem?_modify, List.getElem?_set]
      by_cases hij : j = i
      · subst hij
        have hl : j < es.size := by have := (List.getElem?_eq_some_iff.1 h2).1; simpa using this
        have hje : es[j]'hl = e := by rw [Array.getElem?_eq_getElem hl] at hj'; exact Option.some.inj hj'
        simp [hj', hl, hje]
      · simp [hij]
    have HK : PVs E.w E.ok ks ((es.modify j fun e => { e with key := a.eval k, val := a.eval x }).toList.map (·.key)) := by
      rw [hlist, List.map_set]
      have : (es.toList.map (·.key)).set j (a.eval k) = es.toList.map (·.key) := set_self_eq (by rw [List.getElem?_map, h2, hku, h4]; rfl)
      rw [this]
      exact b2
    have HV : PVs E.w E.ok (vs.set j u) ((es.modify j fun e => { e with key := a.eval k, val := a.eval x }).toList.map (·.val)) := by
      rw [hlist, List.map_set]
      exact PVs_set b3 j hup
    refine ⟨.skip, undef, E.setMap b (es.modify j fun e => { e with key := a.eval k, val := a.eval x }) clk [.mbox ks (vs.set j u)], ?_, .inr ⟨rfl, rfl⟩, setMap_ext hS hlt hb _ _ _ (pvs_hole HK HV), setMap_SR hS hlt hb HK HV, rfl, by simp [VR_undef]⟩
    rw [hex]
    simp [Instr.mapUpdate, run_underlying ht, hme, MapKept.run_getObj_map b1, hku, hck, h3, hj', h4.symm, Instr.keyThatStays, hbits, MapKept.run_setObj_map _ b1, Result.andThen, Env.setMap]
  · rename_i hj
    cases hev
    rcases findKP_run (w := E.w) hp b2 hj with ⟨_, h2⟩ | ⟨q, e, h1, _⟩
    · have HK : PVs E.w E.ok (ks ++ [.agg [.str s, .int kd n]]) ((es.push { key := a.eval k, val := a.eval x, born := clk }).toList.map (·.key)) := by
        simp only [Array.toList_push, List.map_append, List.map_cons, List.map_nil]
        rw [hku]
        exact PVs_snoc b2 hkp
      have HV : PVs E.w E.ok (vs ++ [u]) ((es.push { key := a.eval k, val := a.eval x, born := clk }).toList.map (·.val)) := by
        simp only [Array.toList_push, List.map_append, List.map_cons, List.map_nil]
        exact PVs_snoc b3 hup
      refine ⟨.skip, undef, E.setMap b (es.push { key := a.eval k, val := a.eval x, born := clk }) (clk + 1) [.mbox (ks ++ [.agg [.str s, .int kd n]]) (vs ++ [u])], ?_, .inr ⟨rfl, rfl⟩, setMap_ext hS hlt hb _ _ _ (pvs_hole HK HV), setMap_SR hS hlt hb HK HV, rfl, by simp [VR_undef]⟩
      rw [hex]
      simp [Instr.mapUpdate, run_underlying ht, hme, MapKept.run_getObj_map b1, hku, hck, h2, MapKept.run_setObj_map _ b1, Result.andThen, Env.setMap]
    · cases h1
  · cases hev
def Env.setRo (E : Env) (i : Nat) (ys : List AV) : Env := { E with h := { E.h with boxes := E.h.boxes.set i [.rbox ys] } }
theorem setRo_ext (h : SR E) {i : Nat} (hi : i < E.h.boxes.length) (ys : List AV) : Ext E (E.setRo i ys) := by
  refine ⟨fun b o ho => ⟨?_, Stay.refl _ _ _⟩, by simp [Env.setRo], fun _ h => ⟨live_set rfl rfl h, rfl⟩, Nat.le_refl _, fun k f f' hf hf' => ?_, rfl, rfl, Bl.refl _ _⟩
  · rcases ho with ho | ⟨h1, h2, h3, h4⟩
    · exact .inl ho
    · refine .inr ⟨h1, h2, fun j hj e => ?_, h4⟩
      by_cases hij : i = j
      · subst hij
        exact ⟨ys, by simp [Env.setRo, hi]⟩
      · obtain ⟨cs', hcs'⟩ := h3 j ((live_unset (E := E) rfl hj).resolve_right (Ne.symm hij)) e
        exact ⟨cs', by simpa [Env.setRo, List.getElem?_set_ne hij] using hcs'⟩
  · have : f = f' := by have := hf.symm.trans hf'; simpa using this
    subst this
    exact ⟨rfl, Nat.le_refl _, fun _ => rfl⟩
theorem flats_PVs : ∀ {cs : List AV} {us : List Value}, VRs E cs us → cs.all AV.flat = true → PVs E.w E.ok cs us
  | [], us, h, _ => by simpa [VRs, PVs] using h
  | c :: cs, us, h, hf => by
    simp only [VRs] at h
    obtain ⟨u, us', rfl, h1, h2⟩ := h
    simp only [List.all_cons, Bool.and_eq_true] at hf
    simp only [PVs]
    exact ⟨u, us', rfl, flat_PV h1 hf.1, flats_PVs h2 hf.2⟩
theorem setRo_SR (h : SR E) {i : Nat} {cs : List AV} (hi : E.h.boxes[i]? = some cs) (hmb : isMB cs = false) (hf : cs.all AV.flat = true) :
    SR (E.setRo i cs) ∧ VR (E.setRo i cs) (.pv cs) (.pointer (some ⟨E.nb i, 0, none⟩)) := by
  have hl := live_of hi (isHole_row hmb)
  have hi' := hl.lt
  have hx := setRo_ext h hi' cs
  have hb1 := (h.boxes i _ hi (isHole_row hmb)).1
  have hlt := h.nb_lt hl
  obtain ⟨cur, t, hc, hv, h1⟩ := (h.boxes i _ hi (isHole_row hmb)).row hmb
  have hun : ∀ a, (E.setRo i cs).Live a → E.Live a := fun a ha => (live_unset (E := E) rfl ha).elim id fun e => e ▸ hl
  have hp := flats_PVs hv hf
  have hp' : PVs (E.setRo i cs).w (E.setRo i cs).ok cs cur.toList := PVs_mono hx.cells _ _ hp
  refine ⟨⟨h.basele, fun j cs' hj hh => ?_, fun k f hk => ?_, fun a b ha hb => h.inj a b (hun a ha) (hun b hb), h.injf, fun a k ha => h.sep a k (hun a ha)⟩, ?_⟩
  · by_cases hn : i = j
    · subst hn
      have : cs' = [.rbox cs] := by simpa [Env.setRo, hi'] using hj.symm
      subst this
      exact ⟨hb1, .inr (.inr (.inl ⟨cs, cur, t, rfl, hc, hp', h1⟩))⟩
    · have hcs : E.h.boxes[j]? = some cs' := by simpa [Env.setRo, List.getElem?_set_ne hn] using hj
      exact (h.boxes j cs' hcs hh).ext hx (live_of hcs hh) rfl
  · have hk' : k < E.h.fams.length := (List.getElem?_eq_some_iff.1 hk).1
    exact (h.fams k f hk).ext hx rfl rfl
  · simp only [VR, PV]
    refine ⟨E.nb i, 0, rfl, PCells_of fun j c hj => ?_⟩
    obtain ⟨_, hg⟩ := PVs_get hp'
    obtain ⟨u, hu, hpu⟩ := hg hj
    refine ⟨u, .inr ⟨hb1, hlt.2, fun j' hj' e => ?_, fun k f hk he => ?_⟩, ?_, h1 u (List.mem_of_getElem? hu), hpu⟩
    · have : j' = i := h.inj j' i (hun j' hj') hl e
      subst this
      exact ⟨cs, by simp [Env.setRo, hi']⟩
    · exact absurd he.symm (h.sep i k hl (List.getElem?_eq_some_iff.1 hk).1)
    · rw [Nat.zero_add]
      show E.w.cell? ⟨E.nb i, j, none⟩ = some u
      rw [cell_of_row _ _ _ _ _ _ hc]
      simpa using hu
theorem roCaps_sound : ∀ {xs : List AV} {E : Env} {us : List Value} {ys : List AV} {h' : AH}, SR E → VRs E xs us → roCaps E.h xs = some (ys, h') → ∃ E', E'.w = E.w ∧ Ext E E' ∧ SR E' ∧ E'.h = h' ∧ VRs E' ys us
  | [], E, us, ys, h', hS, hv, h => by
    simp only [roCaps] at h
    cases h
    exact ⟨E, rfl, Ext.refl E, hS, rfl, hv⟩
  | x :: xs, E, us, ys, h', hS, hv, h => by
    simp only [VRs] at hv
    obtain ⟨u, us', rfl, h1, h2⟩ := hv
    by_cases hp : ∃ b off, x = .ptr b off
    · obtain ⟨b, off, rfl⟩ := hp
      simp only [roCaps] at h
      split at h
      case isFalse => cases h
      rename_i h0
      subst h0
      split at h
      case h_2 => cases h
      rename_i cs hcs
      split at h
      case isFalse => cases h
      rename_i hc
      simp only [Option.map_eq_some_iff] at h
      obtain ⟨⟨ys', h''⟩, hr, he⟩ := h
      cases he
      simp only [VR] at h1
      obtain ⟨hb, rfl⟩ := h1
      obtain ⟨hS1, hv1⟩ := setRo_SR hS hcs hc.1 hc.2
      have hx1 := setRo_ext hS hb.lt cs
      obtain ⟨E', w', hx', hS', hh, hvs⟩ := roCaps_sound (E := E.setRo b cs) hS1 (VRs_ext hx1 _ _ h2) hr
      refine ⟨E', w', hx1.trans hx', hS', hh, ?_⟩
      simp only [VRs]
      exact ⟨_, _, rfl, VR_ext hx' _ _ hv1, hvs⟩
    · have hr : roCaps E.h (x :: xs) = (roCaps E.h xs).map fun p => (x :: p.1, p.2) := by
        cases x <;> first | rfl | exact absurd ⟨_, _, rfl⟩ hp
      rw [hr] at h
      simp only [Option.map_eq_some_iff] at h
      obtain ⟨⟨ys', h''⟩, hr, he⟩ := h
      cases he
      obtain ⟨E', w', hx', hS', hh, hvs⟩ := roCaps_sound hS h2 hr
      refine ⟨E', w', hx', hS', hh, ?_⟩
      simp only [VRs]
      exact ⟨_, _, rfl, VR_ext hx' _ _ h1, hvs⟩
theorem d_closro {f : FuncId} {first caps : Array Operand} {cs : List Opd} {v : AV} {h' : AH} (hS : SR E) (hf : FR E fr a.tmps) (ho : o.op = .makeFunc (.func f) first caps) (h0 : first.size = 0) (hc : mapO resOpd caps.toList = some cs)
    (h : (roCaps E.h (cs.map (get fr))).map (fun p => ((.fn f p.1 : AV), p.2)) = some (v, h')) : Does P a o E v h' := by
  simp only [Option.map_eq_some_iff] at h
  obtain ⟨⟨ys, h''⟩, hr, he⟩ := h
  cases he
  have hv := opds_sound hf hc
  obtain ⟨E', w', hx', hS', hh, hvs⟩ := roCaps_sound hS hv hr
  have : first = #[] := Array.size_eq_zero_iff.1 h0
  subst this
  refine ⟨_, .func (.func f) #[] (caps.map a.eval), E', ?_, .inl rfl, hx', hS', hh, ?_⟩
  · rw [w']
    simp [execOp, ho, Instr.makeFunc]
  · simp only [VR]
    exact ⟨_, rfl, hvs⟩
theorem bytesOfA_get : ∀ {ys : List AV} {ns : List Int}, bytesOfA ys = some ns → ns.length = ys.length ∧ ∀ (i : Nat) (n : Int), ns[i]? = some n → ys[i]? = some (.int .u8 n)
  | [], ns, h => by simp [bytesOfA] at h; subst h; simp
  | y :: ys, ns, h => by
    unfold bytesOfA at h
    split at h
    · rename_i e; cases e
    · rename_i n xs e
      cases e
      simp only [Option.map_eq_some_iff] at h
      obtain ⟨ns', h1, rfl⟩ := h
      obtain ⟨h2, h3⟩ := bytesOfA_get h1
      refine ⟨by simp [h2], fun i m hi => ?_⟩
      cases i with
      | zero => simp at hi; subst hi; rfl
      | succ i => simpa using h3 i m (by simpa using hi)
    · cases h
theorem q_bstr {s d e : TypeId} {x : Operand} {x' : Opd} {v : AV} {h' : AH} (hS : SR E) (hf : FR E fr a.tmps) (ho : o.op = .convert s d x) (hs : P.underlying s = some (.slice e)) (hd : P.underlying d = some .string) (he : P.underlying e = some (.int .u8))
    (hx : resOpd x = some x') (hev : bstrA E.h (get fr x') = some (v, h')) : Does P a o E v h' := by
  unfold bstrA at hev
  split at hev
  case h_2 => cases hev
  rename_i ys hys
  split at hev
  case h_2 => cases hev
  rename_i ns hns
  cases hev
  obtain ⟨ad, c, e1, e2, e3⟩ := elems_sound hS (by omega) (opd_sound hf hx) hys
  obtain ⟨g1, g2⟩ := bytesOfA_get hns
  refine Quiet.does hS ⟨.string (strOf ns), ?_, by simp [VR]⟩
  have ex : (execOp a.eval o).run P E.w = (do let v ← convert s d (a.eval x); pure (Next.value v) : Sem Next).run P E.w := by simp [execOp, ho]
  rw [ex]
  have key : (convert s d (a.eval x)).run P E.w = .ok (.string (strOf ns)) E.w := by
    rw [e1]
    cases ad with
    | none =>
      have : ys = [] := List.eq_nil_of_length_eq_zero (e2 rfl)
      subst this
      have : ns = [] := List.eq_nil_of_length_eq_zero g1
      subst this
      exact run_convert_bytes_nil E.w s e hs he _ _ d hd
    | some ad =>
      by_cases hy : ys = []
      · subst hy
        have : ns = [] := List.eq_nil_of_length_eq_zero g1
        subst this
        rw [run_convert_bytes_string E.w s d e _ _ _ hs he hd]
        simp [Conv.bytesToString, loadCells, Result.andThen]
        rfl
      · obtain ⟨b, q, h1, h2⟩ := e3 hy
        cases h1
        refine run_convert_bytes_arg E.w s e hs he b q ys.length c ns g1 (fun i hi => ?_) d hd
        have hin : ns[i]? = some (ns.getD i 0) := by rw [List.getD, List.getElem?_eq_getElem (by omega)]; rfl
        have hyi := g2 i _ hin
        obtain ⟨_, h4⟩ := h2 i _ hyi
        obtain ⟨u, h5, _, h6⟩ := h4 0 _ rfl
        simp only [VR, PV] at h6
        subst h6
        simpa using h5
  simp [key, Result.andThen]
end
theorem flat_frz1 (h : AH) (am : Bool) {x : AV} (hx : x.flat = true) : frz1 h am x = some x := by
  cases x <;> simp [AV.flat] at hx <;> simp only [frz1]
  rename_i f cs
  subst hx
  rfl
theorem flat_frzL (h : AH) (am : Bool) : ∀ {xs : List AV}, xs.all AV.flat = true → frzL h am xs = some xs
  | [], _ => rfl
  | x :: xs, hx => by
    simp only [List.all_cons, Bool.and_eq_true] at hx
    simp [frzL, flat_frz1 h am hx.1, flat_frzL h am hx.2]
theorem flat_frz (h : AH) (am : Bool) {x : AV} (hx : flatA x = true) : frz h am x = some x := by
  unfold flatA at hx
  split at hx
  · rename_i cs
    simp [frz, flat_frzL h am hx]
  · cases hx
  · rename_i h1 h2
    have e : frz h am x = frz1 h am x := by
      unfold frz
      split
      · exact absurd rfl (h1 _)
      · rfl
    rw [e, flat_frz1 h am hx]
section
variable {E : Env} {P : Program} {fr : Fr} {a : Act} {o : Oper}
theorem exec_clear {args : Array Operand} {ats : Array TypeId} {x : Operand} {t : TypeId} (ho : o.op = .call { callee := .builtin .clear, args := args, argTypes := ats }) (h1 : args.toList = [x]) (h2 : ats.toList = [t]) {v : Value} {w w' : World}
    (h : (Builtin.clear_ #[t] o.type #[a.eval x]).run P w = .ok v w') : (execOp a.eval o).run P w = .ok (.value v) w' := by
  have e1 : args = #[x] := by cases args; simp at h1; simp [h1]
  have e2 : ats = #[t] := by cases ats; simp at h2; simp [h2]
  rw [e1, e2] at ho
  simp only [execOp, ho, resolve, invoke, builtin, Sem.run_bind, Sem.run_pure, Result.andThen_ok, List.map_toArray, List.map_cons, List.map_nil, h]
theorem d_clr {args : Array Operand} {ats : Array TypeId} {x : Operand} {x' : Opd} {t e : TypeId} {z v : AV} {h' : AH} (hS : SR E) (hf : FR E fr a.tmps) (ho : o.op = .call { callee := .builtin .clear, args := args, argTypes := ats })
    (h1 : args.toList = [x]) (h2 : ats.toList = [t]) (ht : P.underlying t = some (.slice e)) (hz : Program.zeroA P e = some z) (hx : resOpd x = some x') (hev : clrA E.h z (get fr x') = some (v, h')) : Does P a o E v h' := by
  have hv := opd_sound hf hx
  unfold clrA at hev
  split at hev
  · rename_i b q xs hg
    split at hev
    · rename_i h0
      cases hev
      rw [hg] at hv
      simp only [VR, PV] at hv
      obtain ⟨ad, len, cap, e1, e2, _⟩ := hv
      have : len = 0 := by omega
      subst this
      refine ⟨_, .tuple #[], E, exec_clear ho h1 h2 ?_, .inl rfl, Ext.refl E, hS, rfl, VR_undef E⟩
      rw [e1]
      cases ad <;> simp [Builtin.clear_, run_underlying ht]
    · cases hev
  · rename_i k n off len hg
    split at hev
    · rename_i f hfk
      split at hev
      · rename_i hc
        obtain ⟨c1, c2, c3, c4⟩ := hc
        cases hev
        rw [hg] at hv
        simp only [VR] at hv
        obtain ⟨base, cap, f', e1, hf', _, e5⟩ := hv
        have : f' = f := by rw [hfk] at hf'; simpa using hf'.symm
        subst this
        obtain ⟨l1, l2, l3, l4, l5⟩ := e5 c1
        cases len with
        | zero =>
          have hset : E.h.fams.set k { f' with xs := f'.xs.take off ++ List.replicate 0 z ++ f'.xs.drop (off + 0) } = E.h.fams := set_same (by simpa using hfk)
          refine ⟨_, .tuple #[], E, exec_clear ho h1 h2 ?_, .inl rfl, Ext.refl E, hS, by rw [hset], VR_undef E⟩
          rw [e1]
          cases base <;> simp [Builtin.clear_, run_underlying ht]
        | succ m =>
          have hF := hS.fams k f' hfk
          have hroom := hF.room
          have hbase := l5 (by omega)
          obtain ⟨cur, t', k1, k2, k3⟩ := hF.cells
          obtain ⟨i, zv, q1, q2, q3, q4, q5⟩ := zeroA_spec hz
          have hsz := hF.sz
          obtain ⟨zv', q2', hzl, _, hrow, hone⟩ := made_RowL (E := E) hz (n := m + 1) q1 (by
            have hpv := constAV_sound (w := E.w) (ok := E.ok) q4
            obtain ⟨g1, _⟩ := PV_cells hpv q5
            have := (PVs_get g1).1
            simp at this
            omega)
          rw [q2] at q2'
          cases q2'
          have hfi : f'.sz = i.size := by omega
          have hnew : (Builtin.zeroCells zv.cells (m + 1)) = madeCells zv.cells ((m + 1) * i.size) := by rw [← q3]; rfl
          have hnl : (madeCells zv.cells ((m + 1) * i.size)).toList.length = (m + 1) * f'.sz := by rw [hfi]; simp [size_madeCells]
          have hfit : (E.im k).o + (off - (E.im k).lo) * f'.sz + (m + 1) * f'.sz ≤ cur.size := by
            have h3 : (off - (E.im k).lo + (m + 1)) * f'.sz ≤ (E.im k).cap * f'.sz := Nat.mul_le_mul_right _ (by omega)
            rw [Nat.add_mul] at h3
            omega
          have hst := run_storeCells_at P (E.im k).b ((E.im k).o + (off - (E.im k).lo) * f'.sz) t' (madeCells zv.cells ((m + 1) * i.size)).toList 0 cur E.w k1 (by rw [hnl]; omega) hone
          simp only [Nat.add_zero] at hst
          obtain ⟨us, hus⟩ : ∃ us : Array Value, us = (cur.toList.take ((E.im k).o + (off - (E.im k).lo) * f'.sz) ++ (madeCells zv.cells ((m + 1) * i.size)).toList ++ cur.toList.drop ((E.im k).o + (off - (E.im k).lo) * f'.sz + (madeCells zv.cells ((m + 1) * i.size)).toList.length)).toArray := ⟨_, rfl⟩
          rw [← hus] at hst
          have hget : ∀ j : Nat, us[j]? = if j < (E.im k).o + (off - (E.im k).lo) * f'.sz then cur[j]? else if j < (E.im k).o + (off - (E.im k).lo) * f'.sz + (m + 1) * f'.sz then (madeCells zv.cells ((m + 1) * i.size)).toList[j - ((E.im k).o + (off - (E.im k).lo) * f'.sz)]? else cur[j]? := by
            intro j
            have := splice_get (l := cur.toList) (off := (E.im k).o + (off - (E.im k).lo) * f'.sz) (vs := (madeCells zv.cells ((m + 1) * i.size)).toList) (by rw [hnl]; simpa using hfit) j
            rw [hnl] at this
            simp only [Array.getElem?_toList] at this
            rw [hus, List.getElem?_toArray, hnl, this, Array.getElem?_toList]
          have hlen : f'.xs.length = ({ f' with xs := f'.xs.take off ++ List.replicate (m + 1) z ++ f'.xs.drop (off + (m + 1)) } : Fam).xs.length := by
            show f'.xs.length = (f'.xs.take off ++ List.replicate (m + 1) z ++ f'.xs.drop (off + (m + 1))).length
            simp only [List.length_append, List.length_take, List.length_replicate, List.length_drop]
            omega
          have hkeep : f'.wr = false → ∀ j, j < (E.im k).o + (f'.xs.length - (E.im k).lo) * f'.sz → us[j]? = cur[j]? := fun h => by rw [c3] at h; cases h
          refine ⟨_, .tuple #[], E.setFam k us { f' with xs := f'.xs.take off ++ List.replicate (m + 1) z ++ f'.xs.drop (off + (m + 1)) }, exec_clear ho h1 h2 ?_, .inl rfl, setFam_ext hS hfk k1 rfl rfl (Nat.le_of_eq hlen) hkeep,
            setFam_SR hS hfk k1 rfl rfl (Nat.le_of_eq hlen) hkeep (by rw [← hlen]; exact hroom) (by rw [hus]; simp [hnl]; omega) ?_, rfl, VR_undef _⟩
          · rw [e1, hbase]
            have hzr : (zeroValue e).run P E.w = .ok zv E.w := by simp [zeroValue, typeInfo, q1, q2]
            simp [Builtin.clear_, run_underlying ht, hzr, hnew, hst, Env.setFam]
          · intro j x'' hj hx''
            have hxx : (f'.xs.take off ++ List.replicate (m + 1) z ++ f'.xs.drop (off + (m + 1)))[j]? = some x'' := hx''
            have ho' : off ≤ f'.xs.length := by omega
            by_cases hj1 : j < off
            · rw [List.append_assoc, List.getElem?_append_left (by simp; omega), List.getElem?_take, if_pos hj1] at hxx
              obtain ⟨g1, g2⟩ := k3 j x'' hj hxx
              refine ⟨g1, fun c y hy => ?_⟩
              obtain ⟨w, w1, w2⟩ := g2 c y hy
              have hcs : c < f'.sz := by have := (List.getElem?_eq_some_iff.1 hy).1; omega
              have := mul_room (show j - (E.im k).lo < off - (E.im k).lo by omega) hcs
              exact ⟨w, by rw [hget, if_pos (by omega)]; exact w1, w2⟩
            · by_cases hj2 : j < off + (m + 1)
              · rw [List.append_assoc, List.getElem?_append_right (by simp; omega), List.getElem?_append_left (by simp; omega)] at hxx
                rw [show (f'.xs.take off).length = off from by simp; omega] at hxx
                obtain ⟨g1, g2⟩ := hrow (j - off) x'' hxx
                refine ⟨by omega, fun c y hy => ?_⟩
                obtain ⟨w, w1, w2⟩ := g2 c y hy
                have hcs : c < f'.sz := by have := (List.getElem?_eq_some_iff.1 hy).1; omega
                have hpos : (E.im k).o + (j - (E.im k).lo) * f'.sz + c = (E.im k).o + (off - (E.im k).lo) * f'.sz + ((j - off) * i.size + c) := by
                  rw [show j - (E.im k).lo = (off - (E.im k).lo) + (j - off) from by omega, Nat.add_mul, hfi]; omega
                have := mul_room (show j - off < m + 1 by omega) hcs
                refine ⟨w, ?_, w2⟩
                rw [hpos, hget, if_neg (by omega), if_pos (by rw [← hfi]; omega), show (E.im k).o + (off - (E.im k).lo) * f'.sz + ((j - off) * i.size + c) - ((E.im k).o + (off - (E.im k).lo) * f'.sz) = (j - off) * i.size + c from by omega]
                exact w1
              · rw [List.getElem?_append_right (by simp; omega), List.getElem?_drop] at hxx
                have hjj : off + (m + 1) + (j - (f'.xs.take off ++ List.replicate (m + 1) z).length) = j := by simp; omega
                rw [hjj] at hxx
                obtain ⟨g1, g2⟩ := k3 j x'' hj hxx
                refine ⟨g1, fun c y hy => ?_⟩
                obtain ⟨w, w1, w2⟩ := g2 c y hy
                refine ⟨w, ?_, w2⟩
                have hge : (off - (E.im k).lo) * f'.sz + (m + 1) * f'.sz ≤ (j - (E.im k).lo) * f'.sz := by
                  rw [← Nat.add_mul]
                  exact Nat.mul_le_mul_right _ (by omega)
                rw [hget, if_neg (by omega), if_neg (by omega)]
                exact w1
      · cases hev
    · cases hev
  · cases hev
theorem d_mkv {t e : TypeId} {l c : Operand} {l' c' : Opd} {z v : AV} {i : TypeInfo} {h' : AH} (hS : SR E) (hf : FR E fr a.tmps) (ho : o.op = .makeSlice t l c) (hu : P.underlying t = some (.slice e)) (hi : P.info? e = some i) (hz : Program.zeroA P e = some z)
    (hpos : 0 < i.size) (hl : resOpd l = some l') (hc : resOpd c = some c') (hev : mkvA E.h z i.bytes (get fr l') (get fr c') = some (v, h')) : Does P a o E v h' := by
  unfold mkvA at hev
  split at hev
  · rename_i k1 x k2 y hx hy
    split at hev
    · rename_i hcc
      obtain ⟨h0, rfl, hb, hm⟩ := hcc
      cases hev
      have e1 := opd_sound hf hl
      have e2 := opd_sound hf hc
      rw [hx] at e1; rw [hy] at e2
      simp only [VR] at e1 e2
      obtain ⟨zv, h2, hzl, h3, hr, h1⟩ := made_RowL (E := E) hz (n := x.toNat) hi hpos
      have hrun := run_make (P := P) E.w t e i zv hu hi h2 k1 k2 x x h0 (Int.le_refl _) (by rw [Int.mul_comm]; unfold roomA at hb; omega) (by unfold maxLen at hm; omega)
      have hpv := fresh_PV (e := e) hS (by rw [← hzl] at hpos; exact hpos) (by rw [hzl]; exact hr) (by simp; omega)
      have hb : Bl E.w.heap.size E.w (E.w.alloc (.cells (madeCells zv.cells (x.toNat * i.size)) e)) := ⟨(Below.refl _ _).alloc (Nat.le_refl _) _, fun _ => Nat.le_refl _⟩
      refine ⟨_, .slice (some ⟨E.w.heap.size, 0, none⟩) x.toNat x.toNat, { E with w := E.w.alloc (.cells (madeCells zv.cells (x.toNat * i.size)) e) }, ?_, .inl rfl, grow_ext hS hb, grow_SR hS hb, rfl, ?_⟩
      · simp only [execOp, ho, e1, e2, Sem.run_bind, hrun, Result.andThen_ok, Sem.run_pure]
      · refine VR_of_PV _ _ ?_
        simpa using hpv
    · cases hev
  · cases hev
theorem flat_get {α : Type} (l : List α) : ∀ (n j : Nat) (c : α), ((List.replicate n l).flatten)[j]? = some c → ∃ i q, i < n ∧ j = i * l.length + q ∧ l[q]? = some c
  | 0, j, c, h => by simp at h
  | n + 1, j, c, h => by
    rw [List.replicate_succ, List.flatten_cons] at h
    by_cases hj : j < l.length
    · rw [List.getElem?_append_left hj] at h
      exact ⟨0, j, by omega, by omega, h⟩
    · rw [List.getElem?_append_right (by omega)] at h
      obtain ⟨i, q, h1, h2, h3⟩ := flat_get l n _ c h
      exact ⟨i + 1, q, by omega, by rw [Nat.succ_mul]; omega, h3⟩
theorem flat_len {α : Type} (l : List α) : ∀ n : Nat, ((List.replicate n l).flatten).length = n * l.length
  | 0 => by simp
  | n + 1 => by rw [List.replicate_succ, List.flatten_cons, List.length_append, flat_len l n, Nat.succ_mul]; omega
theorem d_mkb {t e : TypeId} {l c : Operand} {l' c' : Opd} {z v : AV} {i : TypeInfo} {h' : AH} (hS : SR E) (hf : FR E fr a.tmps) (ho : o.op = .makeSlice t l c) (hu : P.underlying t = some (.slice e)) (hi : P.info? e = some i) (hz : Program.zeroA P e = some z)
    (hpos : 0 < i.size) (hl : resOpd l = some l') (hc : resOpd c = some c') (hev : mkbA E.h z i.bytes (get fr l') (get fr c') = some (v, h')) : Does P a o E v h' := by
  unfold mkbA at hev
  split at hev
  · rename_i k1 x k2 y hx hy
    split at hev
    · rename_i hcc
      obtain ⟨h0, rfl, hb, hm⟩ := hcc
      cases hev
      have e1 := opd_sound hf hl
      have e2 := opd_sound hf hc
      rw [hx] at e1; rw [hy] at e2
      simp only [VR] at e1 e2
      obtain ⟨zv, h2, hzl, h3, hr, h1⟩ := made_RowL (E := E) hz (n := x.toNat) hi hpos
      have hrun := run_make (P := P) E.w t e i zv hu hi h2 k1 k2 x x h0 (Int.le_refl _) (by rw [Int.mul_comm]; unfold roomA at hb; omega) (by unfold maxLen at hm; omega)
      have hvs : VRs E (List.replicate x.toNat z.cells).flatten (madeCells zv.cells (x.toNat * i.size)).toList := by
        refine VRs_of (by rw [flat_len, hzl, Array.length_toList, size_madeCells]) fun j c u hc hu' => ?_
        obtain ⟨p, q, p1, p2, p3⟩ := flat_get _ _ _ _ hc
        obtain ⟨g1, g2⟩ := hr p z (by rw [List.getElem?_replicate, if_pos p1])
        obtain ⟨w, w1, _, w3⟩ := g2 q c p3
        rw [hzl] at p2
        rw [← p2, hu'] at w1
        cases w1
        exact VR_of_PV _ _ w3
      refine ⟨_, .slice (some ⟨E.w.heap.size, 0, none⟩) x.toNat x.toNat, E.newBox (madeCells zv.cells (x.toNat * i.size)) e (List.replicate x.toNat z.cells).flatten, ?_, .inl rfl, newBox_ext hS _ _ _, newBox_SR hS hvs h1, rfl, ?_⟩
      · simp only [execOp, ho, e1, e2, Sem.run_bind, hrun, Result.andThen_ok, Sem.run_pure, Env.newBox]
      · simp only [VR]
        exact ⟨live_new rfl (VRs_hole hvs), _, by simp only [Env.newBox, upd_same], Nat.le_refl _, by omega⟩
    · cases hev
  · cases hev
end
end Go.Abs
