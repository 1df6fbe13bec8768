/- A statement whose operations come in the order of the text. -/
import Derived.Test.YtpkegmgepnhfnaaGreatV3
import Derived.MapKept
import Derived.Laws.BytesArg
/- Maps: a new one, a look into one, an entry. -/
namespace Go.Abs
open Go.RowKit (Below)
section
variable {E : Env} {P : Program} {fr : Fr} {a : Act} {o : Oper}

theorem heap_alloc_obj (w : World) (x : Obj) : (w.alloc x).heap[w.heap.size]? = some x := (MapKept.heap_alloc w x).1

/-! ### A new map -/

def Env.newMap (E : Env) : Env :=
  { E with w := E.w.alloc (.map #[] 0), nb := upd E.nb E.h.boxes.length E.w.heap.size, h := { E.h with boxes := E.h.boxes ++ [[.mbox [] []]] } }

theorem newMap_ext (h : SR E) : Ext E E.newMap := by
  refine ⟨fun b o ho => ?_, by simp [Env.newMap], fun i hi => upd_other _ _ (by omega), Nat.le_refl _, fun k f f' hf hf' => ?_, rfl, rfl, (Below.refl _ _).alloc h.basele _⟩
  · have hlt := ok_lt h ho
    refine ⟨?_, cell_eq (Below.heap_alloc _ _ _ hlt)⟩
    rcases ho with ho | ⟨h1, _, h3, h4⟩
    · exact .inl ho
    · refine .inr ⟨h1, by simp [Env.newMap]; omega, fun i hi => ?_, h4⟩
      by_cases hn : i = E.h.boxes.length
      · subst hn; simp only [Env.newMap, upd_same]; intro e; omega
      · have hi' : i < E.h.boxes.length := by simp [Env.newMap] at hi; omega
        simp only [Env.newMap, upd_other _ _ hn]
        intro e
        obtain ⟨cs', hcs'⟩ := h3 i hi' e
        exact ⟨cs', by rw [List.getElem?_append_left hi']; exact hcs'⟩
  · have : f = f' := by have := hf.symm.trans hf'; simpa using this
    subst this
    exact ⟨rfl, Nat.le_refl _, fun _ => rfl⟩

theorem newMap_SR (h : SR E) : SR E.newMap := by
  have hx := newMap_ext h
  have hlen : E.newMap.h.boxes.length = E.h.boxes.length + 1 := by simp [Env.newMap]
  have hnb : ∀ i, i < E.h.boxes.length → E.newMap.nb i = E.nb i := fun i hi => upd_other _ _ (by omega)
  have hnew : E.newMap.nb E.h.boxes.length = E.w.heap.size := upd_same _ _ _
  refine ⟨Nat.le_trans h.basele (by simp [Env.newMap]), fun i cs' hi => ?_, fun k f hk => ?_, fun i j hi hj he => ?_, h.injf, fun i k hi hk => ?_⟩
  · by_cases hn : i = E.h.boxes.length
    · subst hn
      have : cs' = [.mbox [] []] := by simpa [Env.newMap] using hi.symm
      subst this
      exact ⟨by rw [hnew]; exact h.basele, .inr (.inl ⟨[], [], #[], 0, rfl, by rw [hnew]; exact heap_alloc_obj _ _, by simp [PVs], by simp [PVs]⟩)⟩
    · have hi' : i < E.h.boxes.length := by have := (List.getElem?_eq_some_iff.1 hi).1; omega
      have hcs : E.h.boxes[i]? = some cs' := by
        simp only [Env.newMap] at hi
        rwa [List.getElem?_append_left hi'] at hi
      exact (h.boxes i cs' hcs).ext hx hi' (Below.heap_alloc _ _ _ (h.nb_lt hi').2)
  · have hk' : k < E.h.fams.length := (List.getElem?_eq_some_iff.1 hk).1
    exact (h.fams k f hk).ext hx rfl (Below.heap_alloc _ _ _ (h.im_lt hk').2)
  · rw [hlen] at hi hj
    by_cases hi' : i < E.h.boxes.length <;> by_cases hj' : j < E.h.boxes.length
    · rw [hnb i hi', hnb j hj'] at he; exact h.inj i j hi' hj' he
    · obtain rfl : j = E.h.boxes.length := by omega
      rw [hnb i hi', hnew] at he; have := (h.nb_lt hi').2; omega
    · obtain rfl : i = E.h.boxes.length := by omega
      rw [hnb j hj', hnew] at he; have := (h.nb_lt hj').2; omega
    · omega
  · rw [hlen] at hi
    have hk' : k < E.h.fams.length := hk
    by_cases hi' : i < E.h.boxes.length
    · rw [hnb i hi']; exact h.sep i k hi' hk'
    · obtain rfl : i = E.h.boxes.length := by omega
      rw [hnew]
      have := (h.im_lt hk').2
      simp only [Env.newMap]
      omega

theorem d_mkmap {t : TypeId} (hS : SR E) (ho : o.op = .makeMap t none) : Does P a o E (.mp E.h.boxes.length) { E.h with boxes := E.h.boxes ++ [[.mbox [] []]] } := by
  refine ⟨_, .map (some E.w.heap.size), E.newMap, ?_, .inl rfl, newMap_ext hS, newMap_SR hS, rfl, ?_⟩
  · simp [execOp, ho, Instr.makeMap, Env.newMap, Result.andThen]
  · simp only [VR, Env.newMap, upd_same]
    exact ⟨by simp, trivial⟩

/-! ### An entry -/

def Env.setMap (E : Env) (i : Nat) (es : Array MapEntry) (clk : Nat) (cs : List AV) : Env :=
  { E with w := { E.w with heap := E.w.heap.setIfInBounds (E.nb i) (.map es clk) }, h := { E.h with boxes := E.h.boxes.set i cs } }

theorem set_below {w : World} {B g : Nat} (x : Obj) (hg : B ≤ g) : Below B w { w with heap := w.heap.setIfInBounds g x } :=
  ⟨rfl, rfl, rfl, by simp, fun k hk => by simp [Array.getElem?_setIfInBounds_ne (show g ≠ k by omega)]⟩

theorem set_other (w : World) (g k : Nat) (x : Obj) (h : k ≠ g) : ({ w with heap := w.heap.setIfInBounds g x } : World).heap[k]? = w.heap[k]? := by
  simp [Array.getElem?_setIfInBounds_ne (Ne.symm h)]

theorem setMap_ext (h : SR E) {i : Nat} (hi : i < E.h.boxes.length) {ks vs : List AV} (hold : E.h.boxes[i]? = some [.mbox ks vs]) (es : Array MapEntry) (clk : Nat) (cs : List AV) : Ext E (E.setMap i es clk cs) := by
  have hb := h.nb_lt hi
  refine ⟨fun b o ho => ?_, by simp [Env.setMap], fun _ _ => rfl, Nat.le_refl _, fun k f f' hf hf' => ?_, rfl, rfl, set_below _ hb.1⟩
  · have hne : b ≠ E.nb i := by
      rcases ho with ⟨ho, _⟩ | ⟨_, _, h3, _⟩
      · omega
      · intro e
        obtain ⟨cs', hcs'⟩ := h3 i hi e.symm
        rw [hold] at hcs'
        cases hcs'
    refine ⟨?_, cell_eq (set_other _ _ _ _ hne)⟩
    rcases ho with ho | ⟨h1, h2, h3, h4⟩
    · exact .inl ho
    · refine .inr ⟨h1, by simpa [Env.setMap] using h2, fun j hj e => ?_, h4⟩
      obtain ⟨cs', hcs'⟩ := h3 j (by simpa [Env.setMap] using hj) e
      have hij : i ≠ j := fun e' => hne (by rw [e']; exact e.symm)
      exact ⟨cs', by simpa [Env.setMap, List.getElem?_set_ne hij] using hcs'⟩
  · have : f = f' := by have := hf.symm.trans hf'; simpa using this
    subst this
    exact ⟨rfl, Nat.le_refl _, fun _ => rfl⟩

theorem setMap_SR (h : SR E) {i : Nat} {ks vs ks' vs' : List AV} (hi : E.h.boxes[i]? = some [.mbox ks vs]) {es : Array MapEntry} {clk : Nat} (h1 : PVs E.w E.ok ks' (es.toList.map (·.key))) (h2 : PVs E.w E.ok vs' (es.toList.map (·.val))) :
    SR (E.setMap i es clk [.mbox ks' vs']) := by
  have hi' := (List.getElem?_eq_some_iff.1 hi).1
  have hx := setMap_ext h hi' hi es clk [.mbox ks' vs']
  have hlen : (E.setMap i es clk [.mbox ks' vs']).h.boxes.length = E.h.boxes.length := by simp [Env.setMap]
  have hb1 := (h.boxes i _ hi).1
  have hlt := h.nb_lt hi'
  refine ⟨by simpa [Env.setMap] using h.basele, fun j cs' hj => ?_, fun k f hk => ?_, fun a b ha hb => h.inj a b (by simpa [hlen] using ha) (by simpa [hlen] using hb), h.injf, fun a k ha => h.sep a k (by simpa [hlen] using ha)⟩
  · by_cases hn : i = j
    · subst hn
      have : cs' = [.mbox ks' vs'] := by simpa [Env.setMap, hi'] using hj.symm
      subst this
      exact ⟨hb1, .inr (.inl ⟨ks', vs', es, clk, rfl, by simp [Env.setMap, hlt.2], PVs_mono hx.cells _ _ h1, PVs_mono hx.cells _ _ h2⟩)⟩
    · have hj' : j < E.h.boxes.length := by have := (List.getElem?_eq_some_iff.1 hj).1; omega
      have hcs : E.h.boxes[j]? = some cs' := by simpa [Env.setMap, List.getElem?_set_ne hn] using hj
      exact (h.boxes j cs' hcs).ext hx hj' (set_other _ _ _ _ (fun e => hn (h.inj _ _ hi' hj' e.symm)))
  · have hk' : k < E.h.fams.length := (List.getElem?_eq_some_iff.1 hk).1
    exact (h.fams k f hk).ext hx rfl (set_other _ _ _ _ (fun e => h.sep i k hi' hk' e.symm))

/-! ### Keys -/

theorem keyStr_spec {kt : TypeId} {str : Bool} (h : keyStr P kt = some str) : (str = true ∧ P.underlying kt = some .string) ∨ (str = false ∧ ∃ k, P.underlying kt = some (.int k)) := by
  unfold keyStr at h
  split at h
  · rename_i hu; cases h; exact .inl ⟨rfl, hu⟩
  · rename_i k hu; cases h; exact .inr ⟨rfl, k, hu⟩
  · cases h

theorem run_checkKey' {kt : TypeId} {str : Bool} (h : keyStr P kt = some str) (w : World) (v : Value) (e : Bool) (n : Nat) : (Instr.checkKey e (n + 1) kt v).run P w = .ok () w := by
  rcases keyStr_spec h with ⟨_, hu⟩ | ⟨_, k, hu⟩ <;> (unfold Instr.checkKey; simp only [Sem.run_bind, run_underlying hu, Result.andThen]; cases v <;> rfl)

theorem eqKey_sound {w : World} {ok : Nat → Nat → Prop} {str : Bool} {d : TypeDesc} (hd : (str = true ∧ d = .string) ∨ (str = false ∧ ∃ k, d = .int k)) {x y : AV} {u v : Value} {b : Bool} (hx : VR E x u) (hy : PV w ok y v) (h : eqKey str x y = some b) :
    Instr.sameNow d u v = some b ∧ (b = true → u = v) := by
  unfold eqKey at h
  split at h
  · simp only [VR] at hx
    simp only [PV] at hy
    subst hx hy
    split at h
    · rename_i hs
      cases h
      rcases hd with ⟨_, rfl⟩ | ⟨h1, _⟩
      · exact ⟨rfl, fun e => by rw [(MapKept.bytes_beq _ _).1 e]⟩
      · rw [h1] at hs; cases hs
    · cases h
  · simp only [VR] at hx
    simp only [PV] at hy
    subst hx hy
    split at h
    · rename_i hs
      cases h
      rcases hd with ⟨h1, _⟩ | ⟨_, k', rfl⟩
      · rw [h1] at hs; simp at hs
      · obtain ⟨_, rfl⟩ := hs
        exact ⟨by simp [Instr.sameNow], fun e => by rw [eq_of_beq e]⟩
    · cases h
  · cases h

theorem findK_sound {w : World} {ok : Nat → Nat → Prop} {str : Bool} {d : TypeDesc} (hd : (str = true ∧ d = .string) ∨ (str = false ∧ ∃ k, d = .int k)) {x : AV} {u : Value} (hx : VR E x u) : ∀ {ks : List AV} {es : List MapEntry} {i : Nat} {r : Option Nat},
    PVs w ok ks (es.map (·.key)) → findK str x ks i = some r →
    (r = none ∧ Instr.findNow d u es i = some none) ∨ ∃ j e, r = some (i + j) ∧ es[j]? = some e ∧ Instr.findNow d u es i = some (some (i + j, e.val)) ∧ u = e.key
  | [], es, i, r, hp, h => by
    simp only [findK] at h
    cases h
    cases es with
    | nil => exact .inl ⟨rfl, rfl⟩
    | cons e es => simp [PVs] at hp
  | y :: ks, [], i, r, hp, h => by simp [PVs] at hp
  | y :: ks, e :: es, i, r, hp, h => by
    simp only [PVs, List.map_cons] at hp
    obtain ⟨v, vs, he, h1, h2⟩ := hp
    cases he
    simp only [findK] at h
    split at h
    · rename_i hq
      cases h
      obtain ⟨g1, g2⟩ := eqKey_sound hd hx h1 hq
      exact .inr ⟨0, e, rfl, rfl, by simp [Instr.findNow, g1], g2 rfl⟩
    · rename_i hq
      obtain ⟨g1, g2⟩ := eqKey_sound hd hx h1 hq
      rcases findK_sound hd hx h2 h with ⟨k1, k2⟩ | ⟨j, e', k1, k2, k3, k4⟩
      · exact .inl ⟨k1, by simp [Instr.findNow, g1, k2]⟩
      · refine .inr ⟨j + 1, e', by rw [k1]; congr 1; omega, by simpa using k2, ?_, k4⟩
        simp only [Instr.findNow, g1, k3]
        rw [show i + 1 + j = i + (j + 1) by omega]
    · cases h

theorem keyStr_desc {kt : TypeId} {str : Bool} (h : keyStr P kt = some str) : ∃ d, P.underlying kt = some d ∧ ((str = true ∧ d = .string) ∨ (str = false ∧ ∃ k, d = .int k)) := by
  rcases keyStr_spec h with ⟨h1, hu⟩ | ⟨h1, k, hu⟩
  · exact ⟨_, hu, .inl ⟨h1, rfl⟩⟩
  · exact ⟨_, hu, .inr ⟨h1, k, rfl⟩⟩

/-- The entries that can be read are the model's. -/
theorem mapEnts_sound (hS : SR E) {x : AV} {v : Value} {ks vs : List AV} (hv : VR E x v) (h : mapEnts E.h x = some (ks, vs)) :
    ∃ es : Array MapEntry, PVs E.w E.ok ks (es.toList.map (·.key)) ∧ PVs E.w E.ok vs (es.toList.map (·.val)) ∧ ((v = .map none ∧ es = #[]) ∨ ∃ b clk, v = .map (some b) ∧ E.w.heap[b]? = some (.map es clk)) := by
  unfold mapEnts at h
  split at h
  · cases h
    simp only [VR, PV] at hv
    obtain ⟨b, es, clk, rfl, _, h1, h2, h3⟩ := hv
    exact ⟨es, h2, h3, .inr ⟨b, clk, rfl, h1⟩⟩
  · split at h
    · rename_i ks' vs' hb
      cases h
      simp only [VR] at hv
      obtain ⟨_, rfl⟩ := hv
      obtain ⟨es, clk, h1, h2, h3⟩ := (hS.boxes _ _ hb).map
      exact ⟨es, h2, h3, .inr ⟨_, clk, rfl, h1⟩⟩
    · cases h
  · cases h
    simp only [VR] at hv
    subst hv
    exact ⟨#[], by simp [PVs], by simp [PVs], .inl ⟨rfl, rfl⟩⟩
  · cases h

theorem d_mlook {t kt et : TypeId} {x k : Operand} {x' k' : Opd} {ok str : Bool} {z v : AV} {h' : AH} (hS : SR E) (hf : FR E fr a.tmps) (ho : o.op = .lookup t x k ok) (ht : P.underlying t = some (.map kt et)) (hk : keyStr P kt = some str) (hz : Program.zeroA P et = some z)
    (hx : resOpd x = some x') (hkk : resOpd k = some k') (hev : mlookA str ok z E.h (get fr x') (get fr k') = some (v, h')) : Does P a o E v h' := by
  unfold mlookA at hev
  split at hev
  case isFalse => cases hev
  split at hev
  case h_2 => cases hev
  rename_i ks vs hm
  obtain ⟨es, e1, e2, e3⟩ := mapEnts_sound hS (opd_sound hf hx) hm
  have hkv := opd_sound hf hkk
  obtain ⟨d, hd, hd'⟩ := keyStr_desc hk
  obtain ⟨i, zv, z1, z2, z3, z4, z5⟩ := zeroA_spec hz
  have hzv : VR E z zv := VR_of_PV _ _ (constAV_sound z4)
  have pair : ∀ {y : AV} {u : Value} (b : Bool), VR E y u → VR E (if ok then .tup [y, .bool b] else y) (if ok then .tuple #[u, .bool b] else u) := by
    intro y u b hy
    cases ok with
    | false => exact hy
    | true =>
      simp only [if_true, VR]
      exact ⟨_, rfl, by simp [VRs, VR, hy]⟩
  have run : ∀ (r : Option (Nat × Value)), Instr.findNow d (a.eval k) es.toList 0 = some r → ∀ (u : Value) (b : Bool), (match r with | some (_, v) => u = v ∧ b = true | none => u = zv ∧ b = false) →
      (execOp a.eval o).run P E.w = .ok (.value (if ok then .tuple #[u, .bool b] else u)) E.w := by
    intro r hr u b hu
    rcases e3 with ⟨hm, rfl⟩ | ⟨bl, clk, hm, hb⟩
    · cases r with
      | some p => simp [Instr.findNow] at hr
      | none =>
        obtain ⟨rfl, rfl⟩ := hu
        simp [execOp, ho, Instr.lookup, run_underlying ht, hm, run_checkKey' hk, MapKept.run_findKey hd hr, zeroValue, typeInfo, z1, z2, Result.andThen]
    · cases r with
      | some p =>
        obtain ⟨q, v⟩ := p
        obtain ⟨rfl, rfl⟩ := hu
        simp [execOp, ho, Instr.lookup, run_underlying ht, hm, MapKept.run_getObj_map hb, run_checkKey' hk, MapKept.run_findKey hd hr, Result.andThen]
      | none =>
        obtain ⟨rfl, rfl⟩ := hu
        simp [execOp, ho, Instr.lookup, run_underlying ht, hm, MapKept.run_getObj_map hb, run_checkKey' hk, MapKept.run_findKey hd hr, zeroValue, typeInfo, z1, z2, Result.andThen]
  split at hev
  · rename_i j hj
    split at hev
    · rename_i y hy
      cases hev
      rcases findK_sound hd' hkv e1 hj with ⟨h1, _⟩ | ⟨q, e, h1, h2, h3, _⟩
      · cases h1
      · have hq : j = q := by simpa using h1
        subst hq
        obtain ⟨hl, hg⟩ := PVs_get e2
        obtain ⟨u, hu, hpu⟩ := hg hy
        have hue : u = e.val := by
          rw [List.getElem?_map, h2] at hu
          simpa using hu.symm
        subst hue
        exact Quiet.does hS ⟨_, run _ h3 e.val true ⟨rfl, rfl⟩, pair true (VR_of_PV _ _ hpu)⟩
    · cases hev
  · rename_i hj
    cases hev
    rcases findK_sound hd' hkv e1 hj with ⟨_, h2⟩ | ⟨q, e, h1, _⟩
    · exact Quiet.does hS ⟨_, run _ h2 zv false ⟨rfl, rfl⟩, pair false hzv⟩
    · cases h1
  · cases hev

theorem set_self_eq {α : Type} {x : α} : ∀ {l : List α} {j : Nat}, l[j]? = some x → l.set j x = l
  | [], _, h => by simp at h
  | y :: l, 0, h => by simp at h; simp [h]
  | y :: l, j + 1, h => by simp only [List.set_cons_succ]; rw [set_self_eq (l := l) (by simpa using h)]

theorem PVs_set {w : World} {ok : Nat → Nat → Prop} {cs : List AV} {us : List Value} (h : PVs w ok cs us) (i : Nat) {c : AV} {u : Value} (hc : PV w ok c u) : PVs w ok (cs.set i c) (us.set i u) := by
  obtain ⟨hl, hg⟩ := PVs_get h
  refine PVs_of (by simp [hl]) fun j x y hx hy => ?_
  rw [List.getElem?_set] at hx hy
  by_cases e : i = j
  · subst e
    rw [if_pos rfl] at hx hy
    split at hx <;> split at hy <;> simp at hx hy
    subst hx hy
    exact hc
  · rw [if_neg e] at hx hy
    obtain ⟨y', h1, h2⟩ := hg hx
    rw [hy] at h1
    cases h1
    exact h2

theorem PVs_snoc {w : World} {ok : Nat → Nat → Prop} {cs : List AV} {us : List Value} (h : PVs w ok cs us) {c : AV} {u : Value} (hc : PV w ok c u) : PVs w ok (cs ++ [c]) (us ++ [u]) := by
  obtain ⟨hl, hg⟩ := PVs_get h
  refine PVs_of (by simp [hl]) fun j x y hx hy => ?_
  by_cases e : j < cs.length
  · rw [List.getElem?_append_left e] at hx
    rw [List.getElem?_append_left (by omega)] at hy
    obtain ⟨y', h1, h2⟩ := hg hx
    rw [hy] at h1
    cases h1
    exact h2
  · rw [List.getElem?_append_right (by omega)] at hx hy
    rw [hl] at hy
    have : j - cs.length = 0 := by
      have := (List.getElem?_eq_some_iff.1 hx).1
      simp at this
      omega
    rw [this] at hx hy
    simp at hx hy
    subst hx hy
    exact hc

theorem keyOk_PV {x : AV} {v : Value} {str : Bool} (hv : VR E x v) (h : keyOk str x = true) : PV E.w E.ok x v ∧ ∀ n, Instr.sameBits n v v = true := by
  unfold keyOk at h
  split at h
  · simp only [VR] at hv
    subst hv
    exact ⟨by simp [PV], MapKept.sameBits_self (d := .string) (by simp [MapKept.IsKey])⟩
  · rename_i k n
    simp only [VR] at hv
    subst hv
    exact ⟨by simp [PV], MapKept.sameBits_self (d := .int k) (by simp [MapKept.IsKey])⟩
  · cases h

theorem d_mup {t kt et : TypeId} {m k x : Operand} {m' k' x' : Opd} {str : Bool} {v : AV} {h' : AH} (hS : SR E) (hf : FR E fr a.tmps) (ho : o.op = .mapUpdate t m k x ∨ o.op = .insert t m k x) (ht : P.underlying t = some (.map kt et)) (hk : keyStr P kt = some str)
    (hm : resOpd m = some m') (hkk : resOpd k = some k') (hx : resOpd x = some x') (hev : mupA str E.h (get fr m') (get fr k') (get fr x') = some (v, h')) : Does P a o E v h' := by
  unfold mupA at hev
  split at hev
  case h_2 => cases hev
  rename_i b hgm
  split at hev
  case h_2 => cases hev
  rename_i ks vs u hb hu
  split at hev
  case isFalse => cases hev
  rename_i hok
  have hmv := opd_sound hf hm
  rw [hgm] at hmv
  simp only [VR] at hmv
  obtain ⟨hlt, hme⟩ := hmv
  obtain ⟨es, clk, b1, b2, b3⟩ := (hS.boxes b _ hb).map
  have hkv := opd_sound hf hkk
  obtain ⟨d, hd, hd'⟩ := keyStr_desc hk
  obtain ⟨hkp, hbits⟩ := keyOk_PV hkv hok.1
  have hup : PV E.w E.ok u (a.eval x) := (frz_sound hS ⟨fun _ _ h => h, fun h => by cases h⟩ (opd_sound hf hx) hu).1
  have hex : (execOp a.eval o).run P E.w = ((do Instr.mapUpdate t (a.eval m) (a.eval k) (a.eval x); pure Next.skip : Sem Next)).run P E.w := by
    rcases ho with ho | ho <;> simp only [execOp, ho]
  split at hev
  · rename_i j hj
    cases hev
    rcases findK_sound hd' hkv b2 hj with ⟨h1, _⟩ | ⟨q, e, h1, h2, h3, h4⟩
    · cases h1
    · have hq : j = q := by simpa using h1
      subst hq
      have hj' : es[j]? = some e := by simpa using h2
      have hlist : (es.modify j fun e => { e with key := a.eval k, val := a.eval x }).toList = es.toList.set j { e with key := a.eval k, val := a.eval x } := by
        apply List.ext_getElem?
        intro i
        rw [Array.getElem?_toList, Array.getElem?_modify, List.getElem?_set]
        by_cases hij : j = i
        · subst hij
          have hl : j < es.size := by have := (List.getElem?_eq_some_iff.1 h2).1; simpa using this
          have hje : es[j]'hl = e := by rw [Array.getElem?_eq_getElem hl] at hj'; exact Option.some.inj hj'
          simp [hj', hl, hje]
        · simp [hij]
      refine ⟨.skip, undef, E.setMap b (es.modify j fun e => { e with key := a.eval k, val := a.eval x }) clk [.mbox ks (vs.set j u)], ?_, .inr ⟨rfl, rfl⟩, setMap_ext hS hlt hb _ _ _, setMap_SR hS hb ?_ ?_, rfl, by simp [VR_undef]⟩
      · rw [hex]
        simp [Instr.mapUpdate, run_underlying ht, hme, MapKept.run_getObj_map b1, run_checkKey' hk, MapKept.run_findKey hd h3, hj', h4.symm, Instr.keyThatStays, hbits, MapKept.run_setObj_map _ b1, Result.andThen, Env.setMap]
      · rw [hlist, List.map_set]
        have : (es.toList.map (·.key)).set j (a.eval k) = es.toList.map (·.key) := set_self_eq (by rw [List.getElem?_map, h2, h4]; rfl)
        rw [this]
        exact b2
      · rw [hlist, List.map_set]
        exact PVs_set b3 j hup
  · rename_i hj
    cases hev
    rcases findK_sound hd' hkv b2 hj with ⟨_, h2⟩ | ⟨q, e, h1, _⟩
    · refine ⟨.skip, undef, E.setMap b (es.push { key := a.eval k, val := a.eval x, born := clk }) (clk + 1) [.mbox (ks ++ [get fr k']) (vs ++ [u])], ?_, .inr ⟨rfl, rfl⟩, setMap_ext hS hlt hb _ _ _, setMap_SR hS hb ?_ ?_, rfl, by simp [VR_undef]⟩
      · rw [hex]
        simp [Instr.mapUpdate, run_underlying ht, hme, MapKept.run_getObj_map b1, run_checkKey' hk, MapKept.run_findKey hd h2, MapKept.run_setObj_map _ b1, Result.andThen, Env.setMap]
      · simp only [Array.toList_push, List.map_append, List.map_cons, List.map_nil]
        exact PVs_snoc b2 hkp
      · simp only [Array.toList_push, List.map_append, List.map_cons, List.map_nil]
        exact PVs_snoc b3 hup
    · cases h1
  · cases hev

/-! ### A closure whose boxes are only read from now on -/

def Env.setRo (E : Env) (i : Nat) (ys : List AV) : Env := { E with h := { E.h with boxes := E.h.boxes.set i [.rbox ys] } }

theorem setRo_ext (h : SR E) {i : Nat} (hi : i < E.h.boxes.length) (ys : List AV) : Ext E (E.setRo i ys) := by
  refine ⟨fun b o ho => ⟨?_, Stay.refl _ _ _⟩, by simp [Env.setRo], fun _ _ => rfl, Nat.le_refl _, fun k f f' hf hf' => ?_, rfl, rfl, Below.refl _ _⟩
  · rcases ho with ho | ⟨h1, h2, h3, h4⟩
    · exact .inl ho
    · refine .inr ⟨h1, h2, fun j hj e => ?_, h4⟩
      by_cases hij : i = j
      · subst hij
        exact ⟨ys, by simp [Env.setRo, hi]⟩
      · obtain ⟨cs', hcs'⟩ := h3 j (by simpa [Env.setRo] using hj) e
        exact ⟨cs', by simpa [Env.setRo, List.getElem?_set_ne hij] using hcs'⟩
  · have : f = f' := by have := hf.symm.trans hf'; simpa using this
    subst this
    exact ⟨rfl, Nat.le_refl _, fun _ => rfl⟩

theorem flats_PVs : ∀ {cs : List AV} {us : List Value}, VRs E cs us → cs.all AV.flat = true → PVs E.w E.ok cs us
  | [], us, h, _ => by simpa [VRs, PVs] using h
  | c :: cs, us, h, hf => by
    simp only [VRs] at h
    obtain ⟨u, us', rfl, h1, h2⟩ := h
    simp only [List.all_cons, Bool.and_eq_true] at hf
    simp only [PVs]
    exact ⟨u, us', rfl, flat_PV h1 hf.1, flats_PVs h2 hf.2⟩

theorem setRo_SR (h : SR E) {i : Nat} {cs : List AV} (hi : E.h.boxes[i]? = some cs) (hmb : isMB cs = false) (hf : cs.all AV.flat = true) :
    SR (E.setRo i cs) ∧ VR (E.setRo i cs) (.pv cs) (.pointer (some ⟨E.nb i, 0, none⟩)) := by
  have hi' := (List.getElem?_eq_some_iff.1 hi).1
  have hx := setRo_ext h hi' cs
  have hlen : (E.setRo i cs).h.boxes.length = E.h.boxes.length := by simp [Env.setRo]
  have hb1 := (h.boxes i _ hi).1
  have hlt := h.nb_lt hi'
  obtain ⟨cur, t, hc, hv, h1⟩ := (h.boxes i _ hi).row hmb
  have hp := flats_PVs hv hf
  have hp' : PVs (E.setRo i cs).w (E.setRo i cs).ok cs cur.toList := PVs_mono hx.cells _ _ hp
  refine ⟨⟨h.basele, fun j cs' hj => ?_, fun k f hk => ?_, fun a b ha hb => h.inj a b (by simpa [hlen] using ha) (by simpa [hlen] using hb), h.injf, fun a k ha => h.sep a k (by simpa [hlen] using ha)⟩, ?_⟩
  · by_cases hn : i = j
    · subst hn
      have : cs' = [.rbox cs] := by simpa [Env.setRo, hi'] using hj.symm
      subst this
      exact ⟨hb1, .inr (.inr ⟨cs, cur, t, rfl, hc, hp', h1⟩)⟩
    · have hj' : j < E.h.boxes.length := by have := (List.getElem?_eq_some_iff.1 hj).1; omega
      have hcs : E.h.boxes[j]? = some cs' := by simpa [Env.setRo, List.getElem?_set_ne hn] using hj
      exact (h.boxes j cs' hcs).ext hx hj' rfl
  · have hk' : k < E.h.fams.length := (List.getElem?_eq_some_iff.1 hk).1
    exact (h.fams k f hk).ext hx rfl rfl
  · simp only [VR, PV]
    refine ⟨E.nb i, 0, rfl, PCells_of fun j c hj => ?_⟩
    obtain ⟨hl, hg⟩ := PVs_get hp'
    obtain ⟨u, hu, hpu⟩ := hg hj
    refine ⟨u, .inr ⟨hb1, hlt.2, fun j' hj' e => ?_, fun k f hk he => ?_⟩, ?_, h1 u (List.mem_of_getElem? hu), hpu⟩
    · have : j' = i := h.inj j' i (by simpa [hlen] using hj') hi' e
      subst this
      exact ⟨cs, by simp [Env.setRo, hi']⟩
    · exact absurd he.symm (h.sep i k hi' (List.getElem?_eq_some_iff.1 hk).1)
    · rw [Nat.zero_add]
      show E.w.cell? ⟨E.nb i, j, none⟩ = some u
      rw [cell_of_row _ _ _ _ _ _ hc]
      simpa using hu

theorem roCaps_sound : ∀ {xs : List AV} {E : Env} {us : List Value} {ys : List AV} {h' : AH}, SR E → VRs E xs us → roCaps E.h xs = some (ys, h') → ∃ E', E'.w = E.w ∧ Ext E E' ∧ SR E' ∧ E'.h = h' ∧ VRs E' ys us
  | [], E, us, ys, h', hS, hv, h => by
    simp only [roCaps] at h
    cases h
    exact ⟨E, rfl, Ext.refl E, hS, rfl, hv⟩
  | x :: xs, E, us, ys, h', hS, hv, h => by
    simp only [VRs] at hv
    obtain ⟨u, us', rfl, h1, h2⟩ := hv
    by_cases hp : ∃ b off, x = .ptr b off
    · obtain ⟨b, off, rfl⟩ := hp
      simp only [roCaps] at h
      split at h
      case isFalse => cases h
      rename_i h0
      subst h0
      split at h
      case h_2 => cases h
      rename_i cs hcs
      split at h
      case isFalse => cases h
      rename_i hc
      simp only [Option.map_eq_some_iff] at h
      obtain ⟨⟨ys', h''⟩, hr, he⟩ := h
      cases he
      simp only [VR] at h1
      obtain ⟨hb, rfl⟩ := h1
      obtain ⟨hS1, hv1⟩ := setRo_SR hS hcs hc.1 hc.2
      have hx1 := setRo_ext hS hb cs
      obtain ⟨E', w', hx', hS', hh, hvs⟩ := roCaps_sound (E := E.setRo b cs) hS1 (VRs_ext hx1 _ _ h2) hr
      refine ⟨E', w', hx1.trans hx', hS', hh, ?_⟩
      simp only [VRs]
      exact ⟨_, _, rfl, VR_ext hx' _ _ hv1, hvs⟩
    · have hr : roCaps E.h (x :: xs) = (roCaps E.h xs).map fun p => (x :: p.1, p.2) := by
        cases x <;> first | rfl | exact absurd ⟨_, _, rfl⟩ hp
      rw [hr] at h
      simp only [Option.map_eq_some_iff] at h
      obtain ⟨⟨ys', h''⟩, hr, he⟩ := h
      cases he
      obtain ⟨E', w', hx', hS', hh, hvs⟩ := roCaps_sound hS h2 hr
      refine ⟨E', w', hx', hS', hh, ?_⟩
      simp only [VRs]
      exact ⟨_, _, rfl, VR_ext hx' _ _ h1, hvs⟩

theorem d_closro {f : FuncId} {first caps : Array Operand} {cs : List Opd} {v : AV} {h' : AH} (hS : SR E) (hf : FR E fr a.tmps) (ho : o.op = .makeFunc (.func f) first caps) (h0 : first.size = 0) (hc : mapO resOpd caps.toList = some cs)
    (h : (roCaps E.h (cs.map (get fr))).map (fun p => ((.fn f p.1 : AV), p.2)) = some (v, h')) : Does P a o E v h' := by
  simp only [Option.map_eq_some_iff] at h
  obtain ⟨⟨ys, h''⟩, hr, he⟩ := h
  cases he
  have hv := opds_sound hf hc
  obtain ⟨E', w', hx', hS', hh, hvs⟩ := roCaps_sound hS hv hr
  have : first = #[] := Array.size_eq_zero_iff.1 h0
  subst this
  refine ⟨_, .func (.func f) #[] (caps.map a.eval), E', ?_, .inl rfl, hx', hS', hh, ?_⟩
  · rw [w']
    simp [execOp, ho, Instr.makeFunc]
  · simp only [VR]
    exact ⟨_, rfl, hvs⟩

/-! ### A string of bytes -/

theorem bytesOfA_get : ∀ {ys : List AV} {ns : List Int}, bytesOfA ys = some ns → ns.length = ys.length ∧ ∀ (i : Nat) (n : Int), ns[i]? = some n → ys[i]? = some (.int .u8 n)
  | [], ns, h => by simp [bytesOfA] at h; subst h; simp
  | y :: ys, ns, h => by
    unfold bytesOfA at h
    split at h
    · rename_i e; cases e
    · rename_i n xs e
      cases e
      simp only [Option.map_eq_some_iff] at h
      obtain ⟨ns', h1, rfl⟩ := h
      obtain ⟨h2, h3⟩ := bytesOfA_get h1
      refine ⟨by simp [h2], fun i m hi => ?_⟩
      cases i with
      | zero => simp at hi; subst hi; rfl
      | succ i => simpa using h3 i m (by simpa using hi)
    · cases h

theorem q_bstr {s d e : TypeId} {x : Operand} {x' : Opd} {v : AV} {h' : AH} (hS : SR E) (hf : FR E fr a.tmps) (ho : o.op = .convert s d x) (hs : P.underlying s = some (.slice e)) (hd : P.underlying d = some .string) (he : P.underlying e = some (.int .u8))
    (hx : resOpd x = some x') (hev : bstrA E.h (get fr x') = some (v, h')) : Does P a o E v h' := by
  unfold bstrA at hev
  split at hev
  case h_2 => cases hev
  rename_i ys hys
  split at hev
  case h_2 => cases hev
  rename_i ns hns
  cases hev
  obtain ⟨ad, c, e1, e2, e3⟩ := elems_sound hS (by omega) (opd_sound hf hx) hys
  obtain ⟨g1, g2⟩ := bytesOfA_get hns
  refine Quiet.does hS ⟨.string (strOf ns), ?_, by simp [VR]⟩
  have ex : (execOp a.eval o).run P E.w = (do let v ← convert s d (a.eval x); pure (Next.value v) : Sem Next).run P E.w := by simp [execOp, ho]
  rw [ex]
  have key : (convert s d (a.eval x)).run P E.w = .ok (.string (strOf ns)) E.w := by
    rw [e1]
    cases ad with
    | none =>
      have : ys = [] := List.eq_nil_of_length_eq_zero (e2 rfl)
      subst this
      have : ns = [] := List.eq_nil_of_length_eq_zero g1
      subst this
      exact run_convert_bytes_nil E.w s e hs he _ _ d hd
    | some ad =>
      by_cases hy : ys = []
      · subst hy
        have : ns = [] := List.eq_nil_of_length_eq_zero g1
        subst this
        rw [run_convert_bytes_string E.w s d e _ _ _ hs he hd]
        simp [Conv.bytesToString, loadCells, Result.andThen]
        rfl
      · obtain ⟨b, q, h1, h2⟩ := e3 hy
        cases h1
        refine run_convert_bytes_arg E.w s e hs he b q ys.length c ns g1 (fun i hi => ?_) d hd
        have hin : ns[i]? = some (ns.getD i 0) := by rw [List.getD, List.getElem?_eq_getElem (by omega)]; rfl
        have hyi := g2 i _ hin
        obtain ⟨_, h4⟩ := h2 i _ hyi
        obtain ⟨u, h5, _, h6⟩ := h4 0 _ rfl
        simp only [VR, PV] at h6
        subst h6
        simpa using h5
  simp [key, Result.andThen]
end
end Go.Abs

/- Every operation but a call: the abstract step is followed by the model's. -/
namespace Go.Abs
open Go.RowKit (Below)
section
variable {E : Env} {P : Program} {fr : Fr} {a : Act} {o : Oper} {O : Orc} {c : Ctx}

def ROp.isCall : ROp → Bool
  | .call .. | .callv .. => true
  | _ => false

theorem reform_ok {el z : AV} {cs : List AV} (h : el.reform cs = some z) (hl : cs.length = el.cells.length) (hf : ∀ x ∈ cs, x.cells = [x] ∨ ∃ aas, el = .agg aas) : z.cells = cs := by
  cases el <;> simp only [AV.reform] at h
  case agg => cases h; rfl
  all_goals
    simp only [AV.cells, List.length_cons, List.length_nil] at hl
    cases cs with
    | nil => simp at hl
    | cons c r =>
      have hr : r = [] := by simpa using hl
      subst hr
      simp at h
      subst h
      rcases hf c (by simp) with h' | ⟨aas, h'⟩
      · exact h'
      · cases h'

theorem st_row_does {t : TypeId} {x y : Operand} {x' y' : Opd} {n k m i q sz : Nat} {h1 : AH} (hS : SR E) (hf : FR E fr a.tmps) (hop : o.op = .store t x y) (hn : Program.size? P t = some n) (hx : resOpd x = some x') (hy : resOpd y = some y')
    (hg : get fr x' = .ep k m i q sz) (hst : storeE E.h n (get fr y') k m i q sz = some h1) : Does P a o E undefA h1 := by
  unfold storeE at hst
  split at hst
  · rename_i f hfk
    split at hst
    · rename_i hc
      split at hst
      · rename_i el u hel hu
        split at hst
        · rename_i hl
          simp only [Option.map_eq_some_iff] at hst
          obtain ⟨z, hz, rfl⟩ := hst
          refine d_st_row hS hf hop hn hx hy hg hfk hc.1 hc.2.1 hc.2.2 hel hu hl.1 hl.2 (reform_ok hz (by simp [splice]; omega) fun w hw => ?_)
          -- the cells of an element, and of a value laid to rest, are single
          by_cases hag : ∃ aas, el = .agg aas
          · exact .inr hag
          · refine .inl ?_
            have hel1 : el.cells = [el] := by cases el <;> first | rfl | exact absurd ⟨_, rfl⟩ hag
            rw [hel1] at hw hl
            simp only [List.length_cons, List.length_nil] at hl
            have hF := hS.fams k f hfk
            obtain ⟨hPu, hut⟩ := frz_sound hS (am := false) (ok' := E.ok) ⟨fun _ _ h => h, fun h => by cases h⟩ (opd_sound hf hy) hu
            obtain ⟨g1, g2⟩ := PV_cells hPu hut
            have hcell : ∀ {w : AV} {u : Value}, PV E.w E.ok w u → u.oneCell' = true → w.cells = [w] := by
              intro w u h1 h2
              cases w <;> first | rfl | (simp only [PV] at h1; obtain ⟨us, rfl, _⟩ := h1; simp [Value.oneCell'] at h2)
            unfold splice at hw
            simp only [List.mem_append] at hw
            rcases hw with (hw | hw) | hw
            · have := List.mem_of_mem_take hw
              simp at this; subst this; exact hel1
            · obtain ⟨j, hj⟩ := List.getElem?_of_mem hw
              obtain ⟨u', k1, k2⟩ := (PVs_get g1).2 hj
              exact hcell k2 (g2 u' (List.mem_of_getElem? k1))
            · have := List.mem_of_mem_drop hw
              simp at this; subst this; exact hel1
        · cases hst
      · cases hst
    · cases hst
  · cases hst

theorem op_does (hS : SR E) (hf : FR E fr a.tmps) {r r0 : ROp} (hr : resOp P o.op = some r0) (hlax : r = r0 ∨ r = r0.lax) {v : AV} {h' : AH} (hev : evalOp O c r fr E.h = some (v, h')) (hnc : r.isCall = false) : Does P a o E v h' := by
  cases hop : o.op with
  | move x =>
    rw [hop] at hr; simp only [resOp, Option.map_eq_some_iff] at hr
    obtain ⟨y, hy, rfl⟩ := hr
    obtain rfl : r = .mov y := by rcases hlax with h | h <;> exact h
    simp only [evalOp] at hev; cases hev
    exact (q_mov hf (.inl hop) hy).does hS
  | assign x =>
    rw [hop] at hr; simp only [resOp, Option.map_eq_some_iff] at hr
    obtain ⟨y, hy, rfl⟩ := hr
    obtain rfl : r = .mov y := by rcases hlax with h | h <;> exact h
    simp only [evalOp] at hev; cases hev
    exact (q_mov hf (.inr hop) hy).does hS
  | pick q x y =>
    rw [hop] at hr; simp only [resOp] at hr
    split at hr
    · rename_i q' x' y' h1 h2 h3
      cases hr
      obtain rfl : r = .pick q' x' y' := by rcases hlax with h | h <;> exact h
      simp only [evalOp] at hev
      split at hev
      · rename_i t ht
        cases hev
        exact (q_pick hf hop h1 h2 h3 ht).does hS
      · cases hev
    · cases hr
  | alloc t =>
    rw [hop] at hr; simp only [resOp, Option.map_eq_some_iff] at hr
    obtain ⟨z, hz, rfl⟩ := hr
    obtain rfl : r = .alloc z := by rcases hlax with h | h <;> exact h
    simp only [evalOp] at hev; cases hev
    exact d_alloc hS hop hz
  | box t x =>
    rw [hop] at hr; simp only [resOp, Option.map_eq_some_iff] at hr
    obtain ⟨y, hy, rfl⟩ := hr
    obtain rfl : r = .box y := by rcases hlax with h | h <;> exact h
    simp only [evalOp] at hev
    split at hev
    · cases hev
    · rename_i ht
      cases hev
      exact d_box hS hf hop hy (by simpa using ht)
  | build t parts =>
    rw [hop] at hr; simp only [resOp] at hr
    split at hr
    · rename_i fs zs hu hz
      split at hr
      · rename_i hs
        simp only [Option.map_eq_some_iff] at hr
        obtain ⟨ps, hp, rfl⟩ := hr
        obtain rfl : r = .build (.agg zs) ps := by rcases hlax with h | h <;> exact h
        simp only [evalOp, AV.cells] at hev
        split at hev
        · rename_i qs hq
          cases hev
          exact (q_build hf hop hu hz hs hp hq).does hS
        · cases hev
      · cases hr
    · cases hr
  | buildSlice t len parts =>
    rw [hop] at hr; simp only [resOp] at hr
    split at hr
    · rename_i e hu
      split at hr
      · rename_i z n ps hz hn hp
        split at hr
        · rename_i hc
          cases hr
          have hev : evalOp O c (.bslice len z ps) fr E.h = some (v, h') := by
            rcases hlax with rfl | rfl
            · exact hev
            · simp only [ROp.lax, evalOp] at hev
              split at hev
              · simp only [evalOp]; exact hev
              · cases hev
          simp only [evalOp] at hev
          split at hev
          · rename_i xs hx
            cases hev
            exact d_bslice hS hf hop hu hz hn hc.1 hc.2 hp hx
          · cases hev
        · cases hr
      · cases hr
    · cases hr
  | load t x =>
    rw [hop] at hr; simp only [resOp] at hr
    split at hr
    · rename_i b n y hb hn hy
      cases hr
      have key : ∃ w, loadA E.h b n (get fr y) = some w ∧ (w, E.h) = (v, h') := by
        rcases hlax with rfl | rfl
        · simp only [evalOp] at hev
          split at hev
          · rename_i w hw; exact ⟨w, hw, by simpa using hev⟩
          · cases hev
        · simp only [ROp.lax, evalOp] at hev
          split at hev
          · cases hev
          · split at hev
            · rename_i w hw; exact ⟨w, hw, by simpa using hev⟩
            · cases hev
      obtain ⟨w, hw, he⟩ := key
      cases he
      exact (q_ld hS hf hop hb hn hy hw).does hS
    · cases hr
  | store t x y =>
    rw [hop] at hr; simp only [resOp] at hr
    split at hr
    · rename_i n x' y' hn hx hy
      cases hr
      obtain rfl : r = .st n x' y' := by rcases hlax with h | h <;> exact h
      simp only [evalOp] at hev
      split at hev
      · rename_i h1 hst
        cases hev
        unfold storeA at hst
        split at hst
        · rename_i b off hg
          split at hst
          · rename_i cs hcs
            split at hst
            · rename_i hc
              cases hst
              exact d_st_box hS hf hop hn hx hy hg hcs hc.1 hc.2.1 hc.2.2.1 hc.2.2.2
            · cases hst
          · cases hst
        · rename_i k m i q sz hg
          split at hst
          case h_2 => cases hst
          rename_i h2 hlay
          unfold layH at hlay
          split at hlay
          · cases hlay
            exact st_row_does hS hf hop hn hx hy hg hst
          · unfold rstF at hlay
            split at hlay
            case h_2 => cases hlay
            rename_i k2 n2 off2 len2 hgy
            split at hlay
            case h_2 => cases hlay
            rename_i f2 hf2
            cases hlay
            have hx1 := rstFam_ext hf2
            obtain ⟨nx, u, E', e1, e2, e3, e4, e5, e6⟩ := st_row_does (E := E.rstFam k2 f2) (rstFam_SR hS hf2) (hf.ext hx1) hop hn hx hy hg hst
            exact ⟨nx, u, E', e1, e2, hx1.trans e3, e4, e5, e6⟩
        · cases hst
      · cases hev
    · cases hr
  | nilCheck x =>
    rw [hop] at hr; simp only [resOp, Option.map_eq_some_iff] at hr
    obtain ⟨y, hy, rfl⟩ := hr
    obtain rfl : r = .nilck y := by rcases hlax with h | h <;> exact h
    simp only [evalOp] at hev
    have : h' = E.h := by split at hev <;> first | (cases hev; rfl) | cases hev
    subst this
    exact (q_nilck hf hop hy hev).does hS
  | binOp op t x y t' =>
    rw [hop] at hr; simp only [resOp] at hr
    split at hr
    · rename_i x' y' hx hy
      have gen : r0 = .bin op x' y' → Does P a o E v h' := by
        intro h; subst h
        obtain rfl : r = .bin op x' y' := by rcases hlax with h | h <;> exact h
        simp only [evalOp] at hev
        split at hev
        · rename_i w hw; cases hev; exact (q_bin hf hop hx hy hw).does hS
        · cases hev
      split at hr
      · rename_i ht
        cases hr
        obtain rfl : r = .beq false x' y' := by rcases hlax with h | h <;> exact h
        simp only [evalOp] at hev
        split at hev
        · rename_i i j hi hj; cases hev; exact (q_beq (neg := false) hf hop ht hx hy hi hj).does hS
        · cases hev
      · rename_i ht
        cases hr
        obtain rfl : r = .beq true x' y' := by rcases hlax with h | h <;> exact h
        simp only [evalOp] at hev
        split at hev
        · rename_i i j hi hj; cases hev; exact (q_beq (neg := true) hf hop ht hx hy hi hj).does hS
        · cases hev
      · rename_i ht
        split at hr
        · cases hr
          obtain rfl : r = .nileq false x' := by rcases hlax with h | h <;> exact h
          simp only [evalOp] at hev
          split at hev
          · rename_i hi; cases hev; exact (q_nileq (neg := false) hf hop ht hx hy hi).does hS
          · cases hev
        · cases hr
      · rename_i ht
        split at hr
        · cases hr
          obtain rfl : r = .nileq true x' := by rcases hlax with h | h <;> exact h
          simp only [evalOp] at hev
          split at hev
          · rename_i hi; cases hev; exact (q_nileq (neg := true) hf hop ht hx hy hi).does hS
          · cases hev
        · cases hr
      · cases hr; exact gen rfl
    · cases hr
  | unOp op t x =>
    rw [hop] at hr; simp only [resOp, Option.map_eq_some_iff] at hr
    obtain ⟨y, hy, rfl⟩ := hr
    obtain rfl : r = .un op y := by rcases hlax with h | h <;> exact h
    simp only [evalOp] at hev
    split at hev
    · rename_i w hw; cases hev; exact (q_un hf hop hy hw).does hS
    · cases hev
  | convert s d x =>
    rw [hop] at hr; simp only [resOp] at hr
    split at hr
    · rename_i k0 k hs hd
      simp only [Option.map_eq_some_iff] at hr
      obtain ⟨y, hy, rfl⟩ := hr
      obtain rfl : r = .conv k y := by rcases hlax with h | h <;> exact h
      simp only [evalOp] at hev
      split at hev
      · rename_i q n hq; cases hev; exact (q_conv hf hop hs hd hy hq).does hS
      · cases hev
    · rename_i hs hd
      simp only [Option.map_eq_some_iff] at hr
      obtain ⟨y, hy, rfl⟩ := hr
      obtain rfl : r = .cstr y := by rcases hlax with h | h <;> exact h
      simp only [evalOp] at hev
      split at hev
      · rename_i n hq; cases hev; exact (q_cstr hf hop hs hd hy hq).does hS
      · cases hev
    · rename_i e hs hd
      split at hr
      · rename_i he
        simp only [Option.map_eq_some_iff] at hr
        obtain ⟨y, hy, rfl⟩ := hr
        obtain rfl : r = .bstr y := by rcases hlax with h | h <;> exact h
        simp only [evalOp] at hev
        exact q_bstr hS hf hop hs hd he hy hev
      · cases hr
    · cases hr
  | makeFunc fn first caps =>
    rw [hop] at hr
    cases fn <;> simp only [resOp] at hr <;> try (cases hr; done)
    split at hr
    · rename_i f h0
      simp only [Option.map_eq_some_iff] at hr
      obtain ⟨cs, hc, rfl⟩ := hr
      obtain rfl : r = .clos _ cs := by rcases hlax with h | h <;> exact h
      simp only [evalOp] at hev
      split at hev
      · exact d_closro hS hf hop h0 hc hev
      · cases hev
        exact (q_clos hf hop h0 hc).does hS
    · cases hr
  | makeSlice t l q =>
    rw [hop] at hr; simp only [resOp] at hr
    split at hr
    · rename_i e hu
      split at hr
      · rename_i i z l' q' hi hz hl hq
        split at hr
        · rename_i hpos
          cases hr
          obtain rfl : r = .mkslice z i.bytes l' q' := by rcases hlax with h | h <;> exact h
          simp only [evalOp] at hev
          split at hev
          · rename_i k1 x k2 y hx hy
            split at hev
            · rename_i hc
              cases hev
              exact d_mkslice hS hf hop hu hi hz hpos hl hq hx hy hc.1 hc.2.1 hc.2.2.1 hc.2.2.2
            · cases hev
          · cases hev
        · cases hr
      · cases hr
    · cases hr
  | slice t x lo hi mx =>
    rw [hop] at hr; simp only [resOp] at hr
    split at hr
    · rename_i x' lo' hi' ht hx hlo hhi hmx
      cases hr
      obtain rfl : r = .slc 0 x' lo' hi' none := by rcases hlax with h | h <;> exact h
      have hmn : mx = none := by
        cases mx with
        | none => rfl
        | some m => simp [resOpt] at hmx
      subst hmn
      simp only [evalOp] at hev
      split at hev
      · rename_i l u m hl hu hm
        simp only [boundA] at hm
        cases hm
        split at hev
        · rename_i w hw
          cases hev
          unfold sliceA at hw
          split at hw
          · rename_i s hs
            dsimp only at hw
            split at hw
            · rename_i hc
              cases hw
              exact (q_slc_str hf hop ht hx hlo hhi hs hl hu hc.2.2.1 hc.2.2.2.1 hc.2.2.2.2).does hS
            · cases hw
          · simp at hw
          · split at hw <;> simp at hw
          · cases hw
        · cases hev
      · cases hev
    · rename_i e x' lo' hi' mx' ht hx hlo hhi hmx
      split at hr
      · rename_i n hn
        split at hr
        · rename_i hpos
          cases hr
          obtain rfl : r = .slc n x' lo' hi' mx' := by rcases hlax with h | h <;> exact h
          simp only [evalOp] at hev
          split at hev
          · rename_i l u m hl hu hm
            split at hev
            · rename_i w hw
              cases hev
              unfold sliceA at hw
              split at hw
              · simp [show ¬ n = 0 from by omega] at hw
              · rename_i full z xs hg
                dsimp only at hw
                simp only [hpos, true_and] at hw
                split at hw
                · rename_i hz
                  split at hw
                  · split at hw
                    · rename_i hc
                      cases hw
                      exact (q_slc_vs hf hop ht hn hx hlo hhi hmx hg hl hu hm hz hc.1 hc.2.1 (.inl ⟨rfl, hc.2.2, rfl⟩)).does hS
                    · cases hw
                  · rename_i q
                    split at hw
                    · rename_i hc
                      cases hw
                      exact (q_slc_vs hf hop ht hn hx hlo hhi hmx hg hl hu hm hz hc.2.1 hc.2.2.1 (.inr ⟨q, rfl, hc.1, hc.2.2.2.1, hc.2.2.2.2, rfl⟩)).does hS
                    · cases hw
                · cases hw
              · rename_i k m0 off len hg
                dsimp only at hw
                split at hw
                · rename_i f hfk
                  simp only [hpos, true_and] at hw
                  split at hw
                  · rename_i hz
                    split at hw
                    · split at hw
                      · rename_i hc
                        cases hw
                        exact (q_slc_sl hS hf hop ht hn hx hlo hhi hmx hg hl hu hm hfk hz.1 hz.2 (.inl ⟨rfl, hc.1, hc.2.1, hc.2.2, rfl⟩)).does hS
                      · cases hw
                    · rename_i q
                      split at hw
                      · rename_i hc
                        cases hw
                        obtain ⟨c1, c2, c3, rfl⟩ := hc
                        exact (q_slc_sl hS hf hop ht hn hx hlo hhi hmx hg hl hu hm hfk hz.1 hz.2 (.inr ⟨rfl, c1, c2, c3, rfl⟩)).does hS
                      · cases hw
                  · cases hw
                · cases hw
              · cases hw
            · cases hev
          · cases hev
        · cases hr
      · cases hr
    · cases hr
  | fieldAddr s x i =>
    rw [hop] at hr; simp only [resOp] at hr
    split at hr
    · rename_i fs x' hs hx
      split at hr
      · rename_i f hi
        split at hr
        · rename_i n hn
          split at hr
          · rename_i hpos
            cases hr
            obtain rfl : r = .faddr f.offset x' := by rcases hlax with h | h <;> exact h
            simp only [evalOp] at hev
            have : h' = E.h := by split at hev <;> first | (cases hev; rfl) | cases hev
            subst this
            exact (q_faddr hf hop hs hi hn hpos hx hev).does hS
          · cases hr
        · cases hr
      · cases hr
    · cases hr
  | field s x i =>
    rw [hop] at hr; simp only [resOp] at hr
    split at hr
    · rename_i fs x' hs hx
      split at hr
      · rename_i f hi
        split at hr
        · rename_i b n hb hn
          cases hr
          obtain rfl : r = .fld b f.offset n x' := by rcases hlax with h | h <;> exact h
          simp only [evalOp] at hev
          split at hev
          · rename_i cs hg
            split at hev
            · rename_i w hw; cases hev; exact (q_fld hf hop hs hi hb hn hx hg hw).does hS
            · cases hev
          · cases hev
        · cases hr
      · cases hr
    · cases hr
  | indexAddr t x i =>
    rw [hop] at hr; simp only [resOp] at hr
    split at hr
    · rename_i e x' i' ht hx hi
      split at hr
      · rename_i n hn
        split at hr
        · cases hr
          obtain rfl : r = .iaddr n x' i' := by rcases hlax with h | h <;> exact h
          simp only [evalOp] at hev
          have : h' = E.h := by
            split at hev
            · split at hev
              · split at hev <;> first | (cases hev; rfl) | cases hev
              · cases hev
            · split at hev <;> first | (cases hev; rfl) | cases hev
            · cases hev
          subst this
          exact (q_iaddr hS hf hop ht hn hx hi hev).does hS
        · cases hr
      · cases hr
    · cases hr
  | index t x i =>
    rw [hop] at hr; simp only [resOp] at hr
    split at hr
    · rename_i x' i' ht hx hi
      cases hr
      obtain rfl : r = .idx x' i' := by rcases hlax with h | h <;> exact h
      simp only [evalOp] at hev
      split at hev
      · rename_i s q j hg hj
        split at hev
        · rename_i h0
          split at hev
          · rename_i b hb; cases hev; exact (q_idx hf hop ht hx hi hg hj h0 hb).does hS
          · cases hev
        · cases hev
      · cases hev
    · cases hr
  | extract x i =>
    rw [hop] at hr; simp only [resOp, Option.map_eq_some_iff] at hr
    obtain ⟨y, hy, rfl⟩ := hr
    obtain rfl : r = .ext y i := by rcases hlax with h | h <;> exact h
    simp only [evalOp] at hev
    split at hev
    · rename_i vs hg
      split at hev
      · rename_i w hw; cases hev; exact (q_ext hf hop hy hg hw).does hS
      · cases hev
    · cases hev
  | call q =>
    rw [hop] at hr
    obtain ⟨callee, args, ats⟩ := q
    cases callee with
    | invoke x m => simp [resOp] at hr
    | value x =>
      cases x <;> simp only [resOp] at hr <;> try (cases hr; done)
      · simp only [Option.map_eq_some_iff] at hr
        obtain ⟨aas, _, rfl⟩ := hr
        rcases hlax with rfl | rfl <;> simp [ROp.isCall, ROp.lax] at hnc
      · split at hr
        · simp only [Option.map_eq_some_iff] at hr
          obtain ⟨aas, _, rfl⟩ := hr
          rcases hlax with rfl | rfl <;> simp [ROp.isCall, ROp.lax] at hnc
        · cases hr
    | builtin b =>
      cases b <;> simp only [resOp] at hr <;> try (cases hr; done)
      case append =>
        split at hr
        · rename_i s x t u h1 h2
          split at hr
          · rename_i e ht
            split at hr
            · rename_i i z s' x' hi hz hs hx
              split at hr
              · rename_i hc
                cases hr
                obtain ⟨hpos, rfl⟩ := hc
                obtain rfl : r = .app i.size i.bytes s' x' := by rcases hlax with h | h <;> exact h
                simp only [evalOp, appendA] at hev
                split at hev
                · cases hev
                · rename_i ys hys
                  split at hev
                  · rename_i z0 xs hg
                    split at hev
                    · rename_i h0
                      cases hev
                      -- nothing is appended
                      have e1 := opd_sound hf hs
                      have e1' := e1
                      rw [hg] at e1
                      simp only [VR, PV] at e1
                      obtain ⟨base, len, cap, e2, _, e4, _⟩ := e1
                      obtain ⟨ad, cx, f1, _⟩ := elems_sound hS hpos (opd_sound hf hx) hys
                      refine ⟨_, .slice base len cap, E, exec_append hop h1 h2 ?_, .inl rfl, Ext.refl E, hS, rfl, by rw [hg, e2] at e1'; exact e1'⟩
                      rw [e2, f1, h0]
                      exact run_append_zero t _ e i ht hi base ad len cap cx e4 E.w
                    · rename_i h0
                      split at hev
                      · rename_i hb
                        cases hev
                        exact d_app_full hS hf hop h1 h2 ht hi hz hpos hs hx hg hys h0 hb.1 hb.2.1 hb.2.2
                      · cases hev
                  · rename_i k n off len hg
                    split at hev
                    · rename_i f hfk
                      split at hev
                      · rename_i hb
                        cases hev
                        exact d_app_row hS hf hop h1 h2 ht hi hz hpos hs hx hg hys hfk hb.1 hb.2.1 hb.2.2.1 hb.2.2.2.1 hb.2.2.2.2
                      · cases hev
                    · cases hev
                  · cases hev
              · cases hr
            · cases hr
          · cases hr
        · cases hr
      case len =>
        split at hr
        · rename_i x t h1 h2
          split at hr
          · rename_i ht
            simp only [Option.map_eq_some_iff] at hr
            obtain ⟨y, hy, rfl⟩ := hr
            obtain rfl : r = .len true y := by rcases hlax with h | h <;> exact h
            simp only [evalOp] at hev
            split at hev
            · rename_i s hs; cases hev; exact (q_len_str hf hop h1 h2 ht hy hs).does hS
            · cases hev
          · rename_i e ht
            simp only [Option.map_eq_some_iff] at hr
            obtain ⟨y, hy, rfl⟩ := hr
            obtain rfl : r = .len false y := by rcases hlax with h | h <;> exact h
            simp only [evalOp] at hev
            have : h' = E.h := by split at hev <;> first | (cases hev; rfl) | cases hev
            subst this
            exact (q_len hf hop h1 h2 ht hy hev).does hS
          · cases hr
        · cases hr
      case max =>
        split at hr
        · rename_i x y h1
          split at hr
          · rename_i x' y' hx hy
            cases hr
            obtain rfl : r = .max x' y' := by rcases hlax with h | h <;> exact h
            simp only [evalOp] at hev
            split at hev
            · rename_i k i k' j hi hj
              split at hev
              · cases hev; exact (q_max hf hop h1 hx hy hi hj).does hS
              · cases hev
            · cases hev
          · cases hr
        · cases hr
  | makeMap t q =>
    cases q with
    | some q => rw [hop] at hr; simp [resOp] at hr
    | none =>
      rw [hop] at hr; simp only [resOp] at hr
      split at hr
      · cases hr
        obtain rfl : r = .mkmap := by rcases hlax with h | h <;> exact h
        simp only [evalOp] at hev; cases hev
        exact d_mkmap hS hop
      · cases hr
  | lookup t x k ok =>
    rw [hop] at hr; simp only [resOp] at hr
    split at hr
    · rename_i kt et hu
      split at hr
      · rename_i b z x' k' hk hz hx hkk
        cases hr
        obtain rfl : r = .mlook b ok z x' k' := by rcases hlax with h | h <;> exact h
        simp only [evalOp] at hev
        exact d_mlook hS hf hop hu hk hz hx hkk hev
      · cases hr
    · cases hr
  | mapUpdate t m k x =>
    rw [hop] at hr; simp only [resOp] at hr
    split at hr
    · rename_i kt et hu
      split at hr
      · rename_i b m' k' x' hk hm hkk hx
        cases hr
        obtain rfl : r = .mup b m' k' x' := by rcases hlax with h | h <;> exact h
        simp only [evalOp] at hev
        exact d_mup hS hf (.inl hop) hu hk hm hkk hx hev
      · cases hr
    · cases hr
  | insert t m k x =>
    rw [hop] at hr; simp only [resOp] at hr
    split at hr
    · rename_i kt et hu
      split at hr
      · rename_i b m' k' x' hk hm hkk hx
        cases hr
        obtain rfl : r = .mup b m' k' x' := by rcases hlax with h | h <;> exact h
        simp only [evalOp] at hev
        exact d_mup hS hf (.inr hop) hu hk hm hkk hx hev
      · cases hr
    · cases hr
  | _ => rw [hop] at hr; simp [resOp] at hr

end
end Go.Abs

/- Calls: of functions that are pure, of functions that share the heap. -/
namespace Go.Abs
open Go.RowKit (Below)

/-- What a pure function gives, in whatever memory its arguments lie. -/
def PureS (P : Program) (O : Orc) : Prop :=
  ∀ (f : FuncId) (args : List AV) (r : AV), O.pure f args = some r → Program.enterable P f = true ∧
    ∀ (w : World) (ok0 : Nat → Nat → Prop) (vs : Array Value), (∀ b o, ok0 b o → b < w.heap.size) → PVs w ok0 args vs.toList →
      Calls P f vs w fun e w' => ∃ u, e = .returned u ∧ Below w.heap.size w w' ∧ PV w' (fun b o => ok0 b o ∨ (w.heap.size ≤ b ∧ b < w'.heap.size)) r u

/-- What a function that shares the heap does. -/
def RawS (P : Program) (O : Orc) : Prop :=
  ∀ (f : FuncId) (args : List AV) (h : AH) (r : AV) (h' : AH), O.raw f args h = some (r, h') → Program.enterable P f = true ∧
    ∀ (E : Env) (vs : Array Value), SR E → E.h = h → VRs E args vs.toList →
      Calls P f vs E.w fun e w' => ∃ u E', e = .returned u ∧ w' = E'.w ∧ Ext E E' ∧ SR E' ∧ E'.h = h' ∧ VR E' r u

mutual
theorem scalar1_PV {w w' : World} {ok ok' : Nat → Nat → Prop} : ∀ {x : AV} {v : Value}, x.scalar1 = true → PV w ok x v → PV w' ok' x v := by
  intro x v hs h
  cases x <;> simp only [AV.scalar1] at hs <;> first | (cases hs; done) | simpa [PV] using h
end

theorem scalars_PVs {w w' : World} {ok ok' : Nat → Nat → Prop} : ∀ {xs : List AV} {vs : List Value}, (∀ x ∈ xs, x.scalar1 = true) → PVs w ok xs vs → PVs w' ok' xs vs
  | [], vs, _, h => by simpa [PVs] using h
  | x :: xs, vs, hs, h => by
    simp only [PVs] at h ⊢
    obtain ⟨u, us, rfl, h1, h2⟩ := h
    exact ⟨u, us, rfl, scalar1_PV (hs x (by simp)) h1, scalars_PVs (fun y hy => hs y (by simp [hy])) h2⟩

theorem scalar0_PV {w w' : World} {ok ok' : Nat → Nat → Prop} {x : AV} {v : Value} (hs : x.scalar0 = true) (h : PV w ok x v) : PV w' ok' x v := by
  unfold AV.scalar0 at hs
  split at hs
  · rename_i cs
    simp only [PV] at h ⊢
    obtain ⟨us, rfl, h1, h2⟩ := h
    exact ⟨us, rfl, h1, scalars_PVs (by simpa using hs) h2⟩
  · exact scalar1_PV hs h

theorem scalars0_PVs {w w' : World} {ok ok' : Nat → Nat → Prop} : ∀ {xs : List AV} {vs : List Value}, (∀ x ∈ xs, x.scalar0 = true) → PVs w ok xs vs → PVs w' ok' xs vs
  | [], vs, _, h => by simpa [PVs] using h
  | x :: xs, vs, hs, h => by
    simp only [PVs] at h ⊢
    obtain ⟨u, us, rfl, h1, h2⟩ := h
    exact ⟨u, us, rfl, scalar0_PV (hs x (by simp)) h1, scalars0_PVs (fun y hy => hs y (by simp [hy])) h2⟩

theorem scalar_PV {w w' : World} {ok ok' : Nat → Nat → Prop} {x : AV} {v : Value} (hs : x.scalar = true) (h : PV w ok x v) : PV w' ok' x v := by
  unfold AV.scalar at hs
  split at hs
  · rename_i vs
    simp only [PV] at h ⊢
    obtain ⟨us, rfl, h2⟩ := h
    exact ⟨us, rfl, scalars0_PVs (by simpa using hs) h2⟩
  · exact scalar0_PV hs h

theorem frz1_tame {h : AH} {x : AV} (ht : tame1 h x = true) : frz1 h true x = frz1 h false x := by
  cases x <;> simp only [frz1]
  case mp b => simp [tame1] at ht
  case sl k n off len =>
    unfold tame1 at ht
    cases hf : h.fams[k]? with
    | none => rfl
    | some f =>
      simp only [hf] at ht ⊢
      simp [ht]

theorem frzL_tame {h : AH} : ∀ {xs : List AV}, xs.all (tame1 h) = true → frzL h true xs = frzL h false xs
  | [], _ => rfl
  | x :: xs, ht => by
    simp only [List.all_cons, Bool.and_eq_true] at ht
    simp only [frzL, frz1_tame ht.1, frzL_tame ht.2]

theorem frz_tame {h : AH} {x : AV} (ht : tame h x = true) : frz h true x = frz h false x := by
  unfold frz
  split
  · rename_i cs
    rw [frzL_tame (by simpa [tame] using ht)]
  · rename_i hx
    refine frz1_tame ?_
    unfold tame at ht
    split at ht
    · exact absurd rfl (hx _)
    · exact ht

theorem frzAll_tame {h : AH} : ∀ {xs : List AV}, xs.all (tame h) = true → frzAll h true xs = frzAll h false xs
  | [], _ => rfl
  | x :: xs, ht => by
    simp only [List.all_cons, Bool.and_eq_true] at ht
    simp only [frzAll, frz_tame ht.1, frzAll_tame ht.2]

section
variable {E : Env} {P : Program} {fr : Fr} {a : Act} {o : Oper} {O : Orc} {c : Ctx}

theorem call_sound (hP : PureS P O) (hR : RawS P O) (hS : SR E) {f : FuncId} {args : List AV} {vs : Array Value} {r : AV} {h' : AH} (hv : VRs E args vs.toList) (h : callA O c f args E.h = some (r, h')) :
    Program.enterable P f = true ∧ Calls P f vs E.w fun e w' => ∃ u E', e = .returned u ∧ w' = E'.w ∧ Ext E E' ∧ SR E' ∧ E'.h = h' ∧ VR E' r u := by
  unfold callA at h
  split at h
  · obtain ⟨h1, h2⟩ := hR f args E.h r h' (kpB_some h)
    exact ⟨h1, h2 E vs hS rfl hv⟩
  · split at h
    · cases h
    · rename_i aas has
      split at h
      · cases h
      · rename_i q hq
        split at h
        · rename_i hc
          cases h
          obtain ⟨h1, h2⟩ := hP f aas r hq
          refine ⟨h1, ?_⟩
          by_cases hs : r.scalar = true
          · have hpv := frzAll_sound hS (am := true) (ok' := fun b _ => b < E.w.heap.size) ⟨fun b o ho => ok_lt hS ho, fun _ b _ _ hb => hb⟩ hv has
            refine (h2 E.w (fun b _ => b < E.w.heap.size) vs (fun _ _ hb => hb) hpv).mono fun e w' ⟨u, he, hb, hu⟩ => ?_
            exact ⟨u, { E with w := w' }, he, rfl, grow_ext hS hb, grow_SR hS hb, rfl, VR_of_PV _ _ (scalar_PV hs hu)⟩
          · have ht : args.all (tame E.h) = true := by simpa [hs] using hc
            rw [frzAll_tame ht] at has
            have hpv := frzAll_sound hS (am := false) (ok' := E.ok) ⟨fun _ _ h => h, fun h => by cases h⟩ hv has
            refine (h2 E.w E.ok vs (fun b o hb => ok_lt hS hb) hpv).mono fun e w' ⟨u, he, hb, hu⟩ => ?_
            have hx := grow_ext hS hb
            refine ⟨u, { E with w := w' }, he, rfl, hx, grow_SR hS hb, rfl, VR_of_PV _ _ (PV_mono (fun b o ho => ⟨?_, Stay.refl _ _ _⟩) _ _ hu)⟩
            rcases ho with ho | ho
            · exact (hx.cells b o ho).1
            · refine .inr ⟨Nat.le_trans hS.basele ho.1, ho.2, fun i hi => ?_, fun k g hk he => ?_⟩
              · have := (hS.nb_lt hi).2
                intro e
                have e' : E.nb i = b := e
                omega
              · have := (hS.im_lt (List.getElem?_eq_some_iff.1 hk).1).2
                have he' : (E.im k).b = b := he
                omega
        · cases h

theorem enter_of {f : FuncId} (he : Program.enterable P f = true) (args : Array Value) (w : World) : (callFunc f args).run P w = .ok (.enter f args) w := by
  unfold Program.enterable at he
  unfold callFunc
  split at he
  · rename_i fn hfn
    simp only [Bool.and_eq_true, Bool.not_eq_true'] at he
    have hne : fn.name ≠ "runtime.NumGoroutine" := by simpa using he.2
    have h1 : fn.body ≠ none := by intro h; rw [h] at he; simp at he
    simp [hfn, hne, h1]
  · cases he

theorem map_form {α β : Type} {f : α → β} {x : Option α} {r : β} (h : x.map f = some r) : ∃ y, r = f y := by
  cases x with
  | none => cases h
  | some y => exact ⟨y, by simpa using h.symm⟩

def isCallOp : Op → Bool
  | .call { callee := .value _, args := _, argTypes := _ } => true
  | _ => false

theorem call_form {p : Op} {r : ROp} (hr : resOp P p = some r) (hp : isCallOp p = false) : r.isCall = false := by
  unfold resOp at hr
  repeat' (split at hr)
  all_goals first
    | (cases hr; done)
    | (cases hr; rfl)
    | (obtain ⟨y, rfl⟩ := map_form hr; rfl)
    | (exfalso; simp [isCallOp] at hp; done)

/-- Every operation: the abstract step is followed by the model's. -/
theorem op_wp (hP : PureS P O) (hR : RawS P O) (hS : SR E) (hf : FR E fr a.tmps) {r r0 : ROp} (hr : resOp P o.op = some r0) (hlax : r = r0 ∨ r = r0.lax) {v : AV} {h' : AH} (hev : evalOp O c r fr E.h = some (v, h'))
    {K : Act → World → Prop} {Q : Exit → Act → World → Prop} (hK : ∀ u E', Ext E E' → SR E' → E'.h = h' → VR E' v u → K (a.put o.dst u) E'.w) : o.wp P a E.w K Q := by
  by_cases hnc : r.isCall = false
  · obtain ⟨nx, u, E', h1, h2, h3, h4, h5, h6⟩ := op_does (c := c) hS hf hr hlax hev hnc
    unfold Oper.wp
    rw [h1]
    rcases h2 with rfl | ⟨rfl, rfl⟩
    · exact hK u E' h3 h4 h5 h6
    · exact hK undef E' h3 h4 h5 h6
  · have hcalls : ∀ (f : FuncId) (vs : Array Value) (args : List AV), VRs E args vs.toList → callA O c f args E.h = some (v, h') → (execOp a.eval o).run P E.w = (callFunc f vs).run P E.w → o.wp P a E.w K Q := by
      intro f vs args hv hc hx
      obtain ⟨h1, h2⟩ := call_sound hP hR hS hv hc
      unfold Oper.wp
      rw [hx, enter_of h1]
      refine Calls.mono h2 fun e w' ⟨u, E', he, hw, k1, k2, k3, k4⟩ => ?_
      subst he; subst hw
      exact hK u E' k1 k2 k3 k4
    by_cases hp : isCallOp o.op = false
    · have h1 := call_form hr hp
      rcases hlax with rfl | rfl
      · exact absurd h1 hnc
      · refine absurd ?_ hnc
        cases r0 <;> first | rfl | exact h1
    · cases hop : o.op <;> rw [hop] at hp hr <;> try (exact absurd rfl hp)
      rename_i q
      obtain ⟨callee, args, ats⟩ := q
      cases callee with
      | invoke x m => exact absurd rfl hp
      | builtin b => exact absurd rfl hp
      | value x =>
        cases x <;> simp only [resOp] at hr <;> try (cases hr; done)
        case tmp t =>
          simp only [Option.map_eq_some_iff] at hr
          obtain ⟨aas, has, rfl⟩ := hr
          obtain rfl : r = .callv (.t t) aas := by rcases hlax with h | h <;> exact h
          simp only [evalOp] at hev
          split at hev
          · rename_i f caps hg
            have hev : callA O c f (aas.map (get fr) ++ caps) E.h = some (v, h') := by
              split at hev
              · cases hev
              · exact hev
            have hv := hf.val t
            have hg' : fr.getD t undefA = .fn f caps := hg
            rw [hg'] at hv
            simp only [VR] at hv
            obtain ⟨us, e1, e2⟩ := hv
            refine hcalls f (args.map a.eval ++ us) _ ?_ hev ?_
            · have := VRs_append (opds_sound hf has) e2
              simpa using this
            · simp [execOp, hop, resolve, Act.eval, e1, Deferred.ofValue, invoke]
          · cases hev
        case func f =>
          split at hr
          · simp only [Option.map_eq_some_iff] at hr
            obtain ⟨aas, has, rfl⟩ := hr
            obtain rfl : r = .call f aas := by rcases hlax with h | h <;> exact h
            simp only [evalOp] at hev
            refine hcalls f (args.map a.eval) _ (opds_sound hf has) hev ?_
            simp [execOp, hop, resolve, Act.eval, Deferred.ofValue, invoke]
          · cases hr

end
end Go.Abs

namespace Go.Abs
open Go.RowKit (Below)

/-- One operation, its guard looked at. -/
def stepA (O : Orc) (c : Ctx) (o : RO) (fr : Fr) (h : AH) : Option (AV × AH) :=
  match wantedA fr o.guard with
  | some true => evalOp O c o.op fr h
  | some false => some (undefA, h)
  | none => none

theorem evalOps_cons (O : Orc) (c : Ctx) (o : RO) (rest : List RO) (fr : Fr) (h : AH) :
    evalOps O c (o :: rest) fr h = (stepA O c o fr h).bind fun x => evalOps O c rest (put fr o.dst x.1) x.2 := by
  unfold stepA
  simp only [evalOps]
  cases wantedA fr o.guard with
  | none => rfl
  | some b =>
    cases b with
    | false => rfl
    | true =>
      dsimp only
      cases evalOp O c o.op fr h with
      | none => rfl
      | some x => rfl

/-- A resolved operation and the one that it stands for. -/
structure RORel (P : Program) (ops : List Oper) (o : Oper) (ro : RO) : Prop where
  dst : ro.dst = o.dst
  guard : resGuard ops o.guard = some ro.guard
  op : ∃ r0, resOp P o.op = some r0 ∧ (ro.op = r0 ∨ ro.op = r0.lax)

theorem resRO_rel {P : Program} {ops : List Oper} {o : Oper} {ro : RO} (h : resRO P ops o = some ro) : RORel P ops o ro := by
  unfold resRO at h
  split at h
  · rename_i r g h1 h2
    cases h
    exact ⟨rfl, h2, r, h1, .inl rfl⟩
  · cases h

theorem RORel.lax {P : Program} {ops : List Oper} {o : Oper} {ro : RO} (h : resRO P ops o = some ro) : RORel P ops o ro.lax := by
  unfold resRO at h
  split at h
  · rename_i r g h1 h2
    cases h
    exact ⟨rfl, h2, r, h1, .inr rfl⟩
  · cases h

section
variable {P : Program} {O : Orc} {c : Ctx}

theorem wanted_sound {E : Env} {fr : Fr} {a : Act} (hf : FR E fr a.tmps) {ops : Array Oper} {o : Oper} {g : Option (Nat × Bool)} (hg : resGuard ops.toList o.guard = some g) {b : Bool} (hw : wantedA fr g = some b) :
    Region.wanted o (yielded ops a.tmps) = b := by
  unfold resGuard at hg
  unfold Region.wanted
  split at hg
  · rename_i h0
    cases hg
    simp [wantedA] at hw
    simp [h0, hw]
  · rename_i j want h0
    split at hg
    · rename_i o' ho'
      split at hg
      · rename_i d hd
        cases hg
        have hv := hf.val d
        have hy : ((ops[j]?).bind (·.dst)) = some d := by
          have : ops[j]? = some o' := by simpa using ho'
          simp [this, hd]
        simp only [h0]
        simp only [wantedA] at hw
        unfold yielded
        simp only [hy, Option.bind_some]
        split at hw
        · rename_i b' hb
          cases hw
          rw [hb] at hv
          simp only [VR] at hv
          have : a.tmps[d]? = some (.bool b') := by
            rw [Array.getD_eq_getD_getElem?] at hv
            cases h1 : a.tmps[d]? with
            | none => rw [h1] at hv; simp [undef] at hv
            | some u => rw [h1] at hv; simpa using hv
          simp only [this]
          cases b' <;> cases want <;> rfl
        · rename_i vs hb
          cases hw
          rw [hb] at hv
          simp only [VR] at hv
          obtain ⟨us, e, _⟩ := hv
          have : ∀ b', a.tmps[d]? ≠ some (.bool b') := by
            intro b' h1
            rw [Array.getD_eq_getD_getElem?, h1] at e
            simp at e
          cases h1 : a.tmps[d]? with
          | none => rfl
          | some u =>
            cases u <;> first | rfl | exact absurd h1 (this _)
        · cases hw
      · cases hg
    · cases hg

theorem step_wp (hP : PureS P O) (hR : RawS P O) {E : Env} {fr : Fr} {a : Act} (hS : SR E) (hf : FR E fr a.tmps) {ops : Array Oper} {o : Oper} {ro : RO} (hr : RORel P ops.toList o ro) {v : AV} {h' : AH} (hev : stepA O c ro fr E.h = some (v, h'))
    {K : Act → World → Prop} {Q : Exit → Act → World → Prop} (hK : ∀ u E', Ext E E' → SR E' → E'.h = h' → VR E' v u → K (a.put o.dst u) E'.w) :
    if Region.wanted o (yielded ops a.tmps) then o.wp P a E.w K Q else K (a.put o.dst undef) E.w := by
  unfold stepA at hev
  split at hev
  · rename_i hw
    rw [if_pos (wanted_sound hf hr.guard hw)]
    obtain ⟨r0, h1, h2⟩ := hr.op
    exact op_wp hP hR hS hf h1 h2 hev hK
  · rename_i hw
    cases hev
    have := wanted_sound hf hr.guard hw
    rw [if_neg (by simp [this])]
    exact hK undef E (Ext.refl E) hS rfl (VR_undef E)
  · cases hev

theorem ops_text (hP : PureS P O) (hR : RawS P O) {ops : Array Oper} {Q : Exit → Act → World → Prop} :
    ∀ (l : List Oper) (ros : List RO), ros.length = l.length → (∀ (i : Nat) (o : Oper) (ro : RO), l[i]? = some o → ros[i]? = some ro → RORel P ops.toList o ro) →
      ∀ (E : Env) (fr : Fr) (a : Act) (fr' : Fr) (h' : AH), SR E → FR E fr a.tmps → evalOps O c ros fr E.h = some (fr', h') →
        (∀ a' E', Ext E E' → SR E' → E'.h = h' → FR E' fr' a'.tmps → a'.defers = a.defers → Q .normal a' E'.w) → wpList P ops Q l a E.w
  | [], ros, hl, _, E, fr, a, fr', h', hS, hf, hev, hQ => by
    have : ros = [] := List.eq_nil_of_length_eq_zero (by simpa using hl)
    subst this
    simp only [evalOps] at hev
    cases hev
    exact hQ a E (Ext.refl E) hS rfl hf rfl
  | o :: l, ros, hl, hrel, E, fr, a, fr', h', hS, hf, hev, hQ => by
    cases ros with
    | nil => simp at hl
    | cons ro ros =>
      rw [evalOps_cons, Option.bind_eq_some_iff] at hev
      obtain ⟨⟨v, h1⟩, hst, hrest⟩ := hev
      have hr := hrel 0 o ro rfl rfl
      have := step_wp (Q := Q) hP hR hS hf hr hst (K := wpList P ops Q l) (fun u E' hx hS' he hv => by
        refine ops_text hP hR l ros (by simpa using hl) (fun i o' ro' h1 h2 => hrel (i + 1) o' ro' (by simpa using h1) (by simpa using h2)) E' (put fr ro.dst v) (a.put o.dst u) fr' h' hS' ?_ (by rw [he]; exact hrest) fun a' E'' hx' hS'' he' hf' hd => ?_
        · rw [hr.dst]; exact FR.put (FR.ext hx hf) o.dst hv
        · refine hQ a' E'' (hx.trans hx') hS'' he' hf' (hd.trans ?_)
          cases o.dst <;> rfl)
      unfold wpList
      split
      · rename_i hw; rw [if_pos hw] at this; exact .inl this
      · rename_i hw; rw [if_neg hw] at this; exact this

end
end Go.Abs
