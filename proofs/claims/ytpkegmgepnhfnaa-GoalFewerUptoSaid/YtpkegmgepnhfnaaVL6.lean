/- From the statement's readings of the arguments to abstract values; and back to the statement. -/
import Derived.Test.YtpkegmgepnhfnaaVL5
import Derived.Test.YtpkegmgepnhfnaaRows
import Derived.ProofKit
import Derived.OpenShut
import Derived.JoinedCond
import Derived.Deep.Slices
import Derived.Carry
namespace Go.Abs
open Go.RowKit (Below)
open Go.ChangeShapes Go.WideShapes Go.Deep
open Go.Proofs.Ytpkegmgepnhfnaa (Rows.uptoBulk Rows.uptoBulkAll)

abbrev okW (w : World) : Nat → Nat → Prop := fun b _ => b < w.heap.size

/-- Cells and their abstract forms. -/
def CV (w : World) (ys : List AV) (cs : List Value) : Prop := PVs w (okW w) ys cs ∧ ∀ u ∈ cs, u.oneCell' = true

/-- What reads ys a value of type t, at most n steps deep, has an abstract form. -/
def Opens (P : Program) (w : World) (t : TypeId) {T : Type} (cells : T → List AV) (good : T → Prop) (wt : T → Nat) (n : Nat) : Prop :=
  ∀ {H : Type} (enc : TypeId × Value → H) (cs : List Value) (x : DataW H × List MemPlace), DataW.trod enc P w 0 (fun _ => true) true n t cs = some x →
    ∃ a, good a ∧ wt a ≤ Rows.uptoBulk x.1 ∧ CV w (cells a) cs

section
variable {P : Program} {w : World} {t e : TypeId}

theorem Opens.le {T : Type} {cells : T → List AV} {good : T → Prop} {wt : T → Nat} {n m : Nat} (h : Opens P w t cells good wt n) (hm : m ≤ n) : Opens P w t cells good wt m :=
  fun enc cs x hx => h enc cs x (DataW.trod_le hm hx)

theorem CV_one {a : AV} {v : Value} (h : PV w (okW w) a v) (ho : v.oneCell' = true) : CV w [a] [v] := by
  refine ⟨?_, fun u hu => by simp at hu; subst hu; exact ho⟩
  simp only [PVs]
  exact ⟨v, [], rfl, h, rfl⟩

theorem opens_int {k : IntKind} (ht : P.underlying t = some (.int k)) (n : Nat) : Opens P w t (fun i : Int => [.int k i]) (fun i => (Lit.int k i).wf = true) (fun _ => 1) n := by
  intro H enc cs x hx
  obtain ⟨i, rfl, rfl, hw⟩ := DataW.trod_int ht hx
  exact ⟨i, hw, by simp [Rows.uptoBulk], CV_one (by simp [PV]) rfl⟩

theorem opens_bool (ht : P.underlying t = some .bool) (n : Nat) : Opens P w t (fun b : Bool => [.bool b]) (fun _ => True) (fun _ => 1) n := by
  intro H enc cs x hx
  obtain ⟨i, rfl, rfl⟩ := DataW.trod_bool ht hx
  exact ⟨i, trivial, by simp [Rows.uptoBulk], CV_one (by simp [PV]) rfl⟩

theorem opens_str (ht : P.underlying t = some .string) (n : Nat) : Opens P w t (fun s : ByteArray => [.str s]) (fun s => s.size ≤ maxLen) (fun s => s.size + 1) n := by
  intro H enc cs x hx
  obtain ⟨s, rfl, rfl, hw⟩ := DataW.trod_string ht hx
  exact ⟨s, hw, Nat.le_of_eq (by simp only [Rows.uptoBulk, Array.length_toList]; rfl), CV_one (by simp [PV]) rfl⟩

theorem list_of {T : Type} {R : Nat → T → Prop} : ∀ {n : Nat}, (∀ i, i < n → ∃ a, R i a) → ∃ ys : List T, ys.length = n ∧ ∀ i a, ys[i]? = some a → R i a
  | 0, _ => ⟨[], rfl, fun i a h => by simp at h⟩
  | n + 1, h => by
    obtain ⟨ys, hl, ha⟩ := list_of (n := n) fun i hi => h i (by omega)
    obtain ⟨a, hr⟩ := h n (by omega)
    refine ⟨ys ++ [a], by simp [hl], fun i b hb => ?_⟩
    by_cases hi : i < n
    · rw [List.getElem?_append_left (by omega)] at hb
      exact ha i b hb
    · rw [List.getElem?_append_right (by omega), hl] at hb
      have hin : i = n := by
        have := (List.getElem?_eq_some_iff.1 hb).1
        simp at this
        omega
      subst hin
      simp at hb
      subst hb
      exact hr

theorem sum_bulk {H T : Type} {wt : T → Nat} : ∀ {ys : List T} {l : List (DataW H)}, ys.length = l.length → (∀ (i : Nat) (a : T) (d : DataW H), ys[i]? = some a → l[i]? = some d → wt a ≤ Rows.uptoBulk d) → (ys.map wt).sum ≤ Rows.uptoBulkAll l
  | [], l, _, _ => by simp
  | a :: ys, [], h, _ => by simp at h
  | a :: ys, d :: l, h, k => by
    have h1 := k 0 a d rfl rfl
    have h2 := sum_bulk (ys := ys) (l := l) (by simpa using h) fun i a d ha hd => k (i + 1) a d (by simpa using ha) (by simpa using hd)
    simp only [List.map_cons, List.sum_cons, Rows.uptoBulkAll]
    omega

theorem PV_sl {sz : Nat} {xs : List AV} {a : Addr} {len cap : Nat} (hlen : xs.length = len) (hc : len ≤ cap) (hm : cap ≤ maxLen) (hsz : 0 < sz)
    (hx : ∀ (i : Nat) (x : AV), xs[i]? = some x → ∃ cs', w.cells? 0 (a.add (i * sz)) sz = some cs' ∧ CV w x.cells cs') : PV w (okW w) (.vs false sz xs) (.slice (some a) len cap) := by
  simp only [PV]
  refine ⟨some a, len, cap, rfl, hlen.symm, hc, hm, (by simp), ⟨(by simp), ⟨(by simp), fun e => absurd hsz (by omega)⟩⟩, fun hne => ?_⟩
  have spot : a.spot = none := by
    cases xs with
    | nil => exact absurd rfl hne
    | cons x xs =>
      obtain ⟨cs', h1, h2, _⟩ := hx 0 x rfl
      obtain ⟨_, hl, hcell⟩ := World.cells?_some h1
      have h0 := hcell 0 hsz
      rw [List.getElem?_eq_getElem (by omega)] at h0
      simpa [Addr.add] using World.cell?_spot h0
  obtain ⟨b, o, sp⟩ := a
  subst spot
  refine ⟨b, o, rfl, hsz, PEls_of fun j x hj => ?_⟩
  obtain ⟨cs', h1, h2, h3⟩ := hx j x hj
  obtain ⟨_, hl, hcell⟩ := World.cells?_some h1
  obtain ⟨g1, g2⟩ := PVs_get h2
  refine ⟨by omega, PCells_of fun q c hq => ?_⟩
  obtain ⟨u, hu, hv⟩ := g2 hq
  have hqlt : q < sz := by
    have := (List.getElem?_eq_some_iff.1 hq).1
    omega
  have hcl := hcell q hqlt
  rw [hu, Go.WideShapes.add_plain, Go.WideShapes.add_plain] at hcl
  exact ⟨u, World.block_lt_of_cell? _ _ hcl, hcl, h3 u (List.mem_of_getElem? hu), hv⟩

/-- A slice. -/
theorem opens_slice {T : Type} {sz : Nat} {enc : T → AV} {good : T → Prop} {wt : T → Nat} {n : Nat} (ht : P.underlying t = some (.slice e)) (hsz : P.cellsOf e = sz) (hpos : 0 < sz)
    (elem : Opens P w e (fun a => (enc a).cells) good wt n) :
    Opens P w t (fun ys : Bool × List T => [sl (false, ys.1) sz (ys.2.map enc)]) (fun ys => ∀ a ∈ ys.2, good a) (fun ys => (ys.2.map wt).sum + 1) (n + 1) := by
  intro H ec cs x hx
  rcases DataW.trod_slice ht hx with ⟨rfl, rfl⟩ | ⟨a, len, cap, elems, rest, n', hn, rfl, rfl, hb, hl, hm, hlen, hel, hsp, hns⟩
  · exact ⟨(false, []), fun a ha => by simp at ha, by simp [Rows.uptoBulk], CV_one (by simp only [sl, PV]; exact ⟨none, 0, 0, rfl, by simp, Nat.le_refl _, Nat.zero_le _, by simp, by simp, fun h => absurd rfl h⟩) rfl⟩
  · have hnn : n' = n := by omega
    subst hnn
    obtain ⟨ys, hys, hr⟩ := list_of (T := T) (n := len) (R := fun i a' => good a' ∧ (∀ y, elems[i]? = some y → wt a' ≤ Rows.uptoBulk y.1) ∧ ∃ cs', w.cells? 0 (a.add (i * sz)) sz = some cs' ∧ CV w (enc a').cells cs') fun i hi => by
      have h1 := hel i hi
      rw [List.getElem?_eq_getElem (by omega), hsz] at h1
      obtain ⟨cs', h2, h3⟩ := Option.bind_eq_some_iff.1 h1
      obtain ⟨a', k1, k2, k3⟩ := elem ec cs' _ h3
      exact ⟨a', k1, fun y hy => by rw [List.getElem?_eq_getElem (by omega)] at hy; cases hy; exact k2, cs', h2, k3⟩
    refine ⟨(true, ys), fun a' ha' => ?_, ?_, CV_one ((congrArg (fun q => PV w (okW w) q (.slice (some a) len cap)) (sl_def false sz (ys.map enc))).mp (PV_sl (by simp [hys]) hl hm hpos fun i x hx => ?_)) rfl⟩
    · obtain ⟨i, hi⟩ := List.mem_iff_getElem?.1 ha'
      exact (hr i a' hi).1
    · have := sum_bulk (wt := wt) (ys := ys) (l := elems.map (·.1)) (by simp [hys, hlen]) fun i a' d ha' hd => by
        simp only [List.getElem?_map, Option.map_eq_some_iff] at hd
        obtain ⟨y, hy, rfl⟩ := hd
        exact (hr i a' ha').2.1 y hy
      simp only [Rows.uptoBulk]
      omega
    · simp only [List.getElem?_map, Option.map_eq_some_iff] at hx
      obtain ⟨a', ha', rfl⟩ := hx
      exact (hr i a' ha').2.2

theorem drop_take_one {α : Type} {l : List α} {i : Nat} (h : i < l.length) : (l.drop i).take 1 = [l[i]] := by
  rw [List.drop_eq_getElem_cons h]
  rfl

/-- A struct whose fields are of one cell each. -/
theorem struct_parts {H : Type} {enc : TypeId × Value → H} {fs : Array Field} {n : Nat} {cs : List Value} {x : DataW H × List MemPlace} (ht : P.underlying t = some (.struct fs)) (hc : P.cellsOf t = fs.size)
    (hf : ∀ (i : Nat) (f : Field), fs[i]? = some f → f.offset = i ∧ P.cellsOf f.type = 1) (h : DataW.trod enc P w 0 (fun _ => true) true n t cs = some x) :
    ∃ (m : Nat) (xs : List (DataW H × List MemPlace)), n = m + 1 ∧ cs.length = fs.size ∧ xs.length = fs.size ∧ x.1 = .agg (xs.map (·.1)) ∧ ∀ (i : Nat) (f : Field), fs[i]? = some f → ∃ c y, cs[i]? = some c ∧ xs[i]? = some y ∧ DataW.trod enc P w 0 (fun _ => true) true m f.type [c] = some y := by
  obtain ⟨xs, m, rfl, rfl, h1, h2, h3⟩ := DataW.trod_struct ht h
  refine ⟨m, xs, rfl, by omega, h2, rfl, fun i f hi => ?_⟩
  obtain ⟨ho, hs⟩ := hf i f hi
  have hlt : i < fs.size := (Array.getElem?_eq_some_iff.1 hi).1
  have := h3 i f hi
  rw [ho, hs, drop_take_one (by omega), List.getElem?_eq_getElem (by omega)] at this
  exact ⟨cs[i], xs[i], List.getElem?_eq_getElem _, List.getElem?_eq_getElem _, this⟩

theorem CV_cons {ys : List AV} {cs : List Value} {y : AV} {c : Value} (h : CV w [y] [c]) (k : CV w ys cs) : CV w (y :: ys) (c :: cs) := by
  obtain ⟨h1, h2⟩ := h
  refine ⟨?_, fun u hu => ?_⟩
  · simp only [PVs] at h1 ⊢
    obtain ⟨u, us, he, h3, rfl⟩ := h1
    cases he
    exact ⟨c, cs, rfl, h3, k.1⟩
  · rcases List.mem_cons.1 hu with rfl | hu
    · exact h2 u (by simp)
    · exact k.2 u hu

theorem CV_nil : CV w [] [] := ⟨by simp [PVs], fun u hu => by simp at hu⟩

end

/-! ### Back to the statement -/
section
variable {P : Program}

theorem trodAll_stays {H : Type} {enc : TypeId × Value → H} {W W' : World} (hl : laidOutB P = true) (hb : Below W.heap.size W W') : ∀ {ts : List TypeId} {vs : List Value} {ds : List (DataW H)} {ps : List MemPlace}, (∀ t ∈ ts, P.readableRec t = true ∧ t < P.types.size) →
    DataW.TrodAll enc P W 0 (fun _ => true) true ts vs ds ps → (∀ p ∈ ps, p.block < W.heap.size) → ∀ {sp : Nat → Bool}, (∀ p ∈ ps, sp p.block = true) → DataW.TrodAll enc P W' 0 sp true ts vs ds ps
  | [], [], [], _, _, h, _, _, _ => h
  | t :: ts, v :: vs, d :: ds, ps, hr, h, hlt, sp, hs => by
    obtain ⟨p, q, h1, h2, rfl⟩ := h
    refine ⟨p, q, WideElems.Trod_stays hl (hr t (by simp)).1 (hr t (by simp)).2 h1 (fun x hx => hb.same (hlt x (by simp [hx]))) (fun x hx => hs x (by simp [hx])), ?_, rfl⟩
    exact trodAll_stays hl hb (fun t ht => hr t (by simp [ht])) h2 (fun x hx => hlt x (by simp [hx])) (fun x hx => hs x (by simp [hx]))

/-- The kit's `post_of_same`, for a call whose new blocks may be frozen: no variables. -/
theorem post_frozen {H : Type} {enc : TypeId × Value → H} {f : Func} {s : ChangeSpec} {W W' : World} {args : Array Value} {v : Value} {ds gs : List (DataW H)} {before pa : List MemPlace}
    (hW : DataW.Whole enc P f.params.toList s.vars false W args.toList ds gs before) (hps : before = pa)
    (hres : ∀ (b : Nat) (sp : Nat → Bool) (hd : Bool), DataW.TrodAll enc P W' b sp hd f.resultTypes.toList (v.resultList f.resultTypes.size) (s.fn H (ds ++ gs)).results [])
    (hargs : ∀ sp : Nat → Bool, (∀ p ∈ before, sp p.block = true) → DataW.TrodAll enc P W' 0 sp true f.params.toList args.toList (s.fn H (ds ++ gs)).args pa)
    (hv : s.vars = []) (hgs : (s.fn H (ds ++ gs)).vars = []) (hk : W.keptBut W' (· ∈ before)) (hfz : ∀ a : Addr, a.block < W.heap.size → W'.frozen? a = W.frozen? a)
    (hok : ∀ (j : Nat) (t : TypeId) (r : Value), f.resultTypes[j]? = some t → (v.resultList f.resultTypes.size)[j]? = some r → Value.okWide P W' .any 0 t r) :
    s.post enc P f false true false false W args v W' := by
  subst hps
  have hold : ∀ p ∈ before, (fun b => decide (b < W.heap.size)) p.block = true := fun p hp => by simpa using hW.lt p hp
  have hvars : ∀ sp : Nat → Bool, DataW.TrodVars enc P W' sp s.vars (s.fn H (ds ++ gs)).vars [] := fun sp => by rw [hv, hgs]; rfl
  refine ⟨ds, gs, before, [], before, [], hW, hres _ _ _, hargs _ hold, hvars _, World.keptBut_mono (fun p hp => ⟨hp, ?_⟩) hk, fun _ => ?_⟩
  · exact Or.inr (Or.inl hp)
  · have hlt := hW.lt
    obtain ⟨_, _, _, _, _, hz, hn⟩ := hW
    refine ⟨hok, _, _, ([] ++ before) ++ [], ⟨[] ++ before, [], trodAll_append (hargs _ (fun _ _ => rfl)) (hres _ _ _), hvars _, rfl, ?_, ?_⟩, ?_⟩
    · intro b off hp
      have hp' : MemPlace.cell b off ∈ before := by simpa using hp
      rw [hfz _ (hlt _ hp')]
      exact hz b off hp'
    · intro ha
      cases ha
    · intro p hp _
      simpa using hp

/-- From the contract 'it returns true' to the statement's own words. -/
theorem true_post {C : Cfg} (hC : CfgS P C) (hl : laidOutB P = true) {f : FuncId} {fn : Func} {tb : TypeId} (hb : P.underlying tb = some .bool) (hres : fn.resultTypes = #[tb]) (hpar : ∀ t ∈ fn.params.toList, P.readableRec t = true ∧ t < P.types.size)
    {s : ChangeSpec} (hv : s.vars = []) {H : Type} {enc : TypeId × Value → H} {W : World} {args : Array Value} {ds gs : List (DataW H)} {before : List MemPlace}
    (hs : (s.fn H (ds ++ gs)).results = [.lit (.bool true)] ∧ (s.fn H (ds ++ gs)).args = ds ∧ (s.fn H (ds ++ gs)).vars = [])
    (hW : DataW.Whole enc P fn.params.toList s.vars false W args.toList ds gs before) {ys : List AV} (hy : PVs W (okW W) ys args.toList) (h : pc C f ys = some (.bool true)) :
    Calls P f args W fun e W' => ∃ v, e = .returned v ∧ s.post enc P fn false true false false W args v W' := by
  have hlt := hW.lt
  have hW' := hW
  obtain ⟨p, q, hA, hV, hpq, hfz, hnd⟩ := hW
  rw [hv] at hV
  obtain ⟨rfl, rfl⟩ := trodVars_none hV
  rw [List.append_nil] at hpq
  subst hpq
  refine (pc_sound hC h W (okW W) args (fun b o hb => hb) hy).mono fun e W' ⟨u, he, hbel, hu⟩ => ?_
  have hu' : u = .bool true := by simpa [PV] using hu
  subst hu' he
  refine ⟨_, rfl, post_frozen hW' rfl (fun b sp hd => ?_) (fun sp hsp => ?_) hv hs.2.2 (hbel.frame _) (fun a ha => hbel.frozen ha) (RowKit.ok_one hres rfl (RowKit.okWide_bool_mk hb _))⟩
  · rw [hs.1, hres]
    exact trodAll_mk1 (RowKit.shut_bool hb _)
  · rw [hs.2.1]
    exact trodAll_stays hl hbel hpar hA hlt hsp
end
end Go.Abs
