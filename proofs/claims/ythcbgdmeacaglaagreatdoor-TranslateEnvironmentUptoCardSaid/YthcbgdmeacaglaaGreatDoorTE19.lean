/- A part of the proof. -/
import Derived.Test.YthcbgdmeacaglaaGreatDoorTE18
import Derived.KernelRfl
import Derived.Test.YthcbgdmeacaglaaGreatDoorCards
import Derived.Test.YthcbgdmeacaglaaGreatDoorTie
import Derived.WalkKit
import Derived.ProofKit
import Derived.OpenShut
import Derived.JoinedCond
import Derived.Deep.DeepHandedRow
import Derived.Lib.LaidTab
set_option linter.all false
namespace Go.Abs
structure CfgLe (C C' : Cfg) : Prop where
  code : C'.code = C.code
  ctx : C'.ctx = C.ctx
  rspec : C'.rspec = C.rspec
  spec : ∀ f, C'.spec f = C.spec f ∨ (C.spec f = none ∧ C.code f = none ∧ C.rspec f = none)
theorem CfgLe.orc {C C' : Cfg} (H : CfgLe C C') : ∀ n, Le (orc C n) (orc C' n)
  | 0 => ⟨fun f a r h => (nomatch h), fun f a g r h => (nomatch h), fun s s' t x _ h => (nomatch h)⟩
  | n + 1 => by
    have ih := H.orc n
    have hr : ∀ (f : FuncId) (args : List AV) (h : AH) (x : AV × AH), rawA C (Go.Abs.orc C n) f args h = some x → rawA C' (Go.Abs.orc C' n) f args h = some x := fun f args h x he => by
      have := rawA_mono (C := C) ih he
      unfold rawA at this ⊢
      rw [H.code, H.ctx, H.rspec]
      exact this
    refine ⟨fun f args r he => ?_, fun f args h x he => ?_, fun s s' t x hs he => iter_mono hs (Nat.le_refl _) he⟩
    · change pureA C (Go.Abs.orc C n) f args = some r at he
      show pureA C' (Go.Abs.orc C' n) f args = some r
      unfold pureA at he ⊢
      rcases H.spec f with e1 | ⟨e1, e2, e3⟩
      · rw [e1]
        cases hs : C.spec f with
        | some s => rw [hs] at he; exact he
        | none =>
          rw [hs] at he
          simp only at he ⊢
          cases hq : rawA C (Go.Abs.orc C n) f args AH.empty with
          | none => rw [hq] at he; cases he
          | some y => rw [hq] at he; rw [hr f args AH.empty y hq]; exact he
      · rw [e1] at he
        simp only [rawA, e2, e3] at he
        cases he
    · change rawR C (Go.Abs.orc C n) f args h = some x at he
      show rawR C' (Go.Abs.orc C' n) f args h = some x
      unfold rawR at he ⊢
      rw [H.ctx]
      cases hq : rawA C (Go.Abs.orc C n) f args h with
      | none => rw [hq] at he; unfold rstP at he; split at he <;> cases he
      | some y =>
        rw [hq] at he
        rw [hr f args h y hq]
        exact he
theorem CfgLe.pc {C C' : Cfg} (H : CfgLe C C') {f : FuncId} {args : List AV} {r : AV} (h : Go.Abs.pc C f args = some r) : Go.Abs.pc C' f args = some r := by
  obtain ⟨n, hn⟩ := pc_orc C h
  exact orc_pc C' ((H.orc n).pure f args r hn)
theorem pc_enter {P : Program} {C : Cfg} (hC : CfgS P C) {f : FuncId} {args : List AV} {r : AV} (h : pc C f args = some r) : Program.enterable P f = true := by
  obtain ⟨n, hn⟩ := pc_orc C h
  exact ((orc_sound hC n).1 f args r hn).1
theorem pc_spec_of {C : Cfg} {f : FuncId} {s : List AV → Option AV} (hs : C.spec f = some s) {args : List AV} {r : AV} (h : s args = some r) : pc C f args = some r := by
  apply pc_of
  unfold pureA
  rw [hs]
  exact h
end Go.Abs
namespace Go.Abs.Q
open Go.Proofs
def ownW (f : FuncId) : Bool := Nat.beq f n_compile_raw || Nat.beq f n_translate_assignments || Nat.beq f n_slices_Clone_Step || Nat.beq f n_slices_Clone_Term || Nat.beq f n_slices_Clone_string
def ctxW (f : FuncId) : Ctx :=
  if Nat.beq f n_compile_raw then { ctxF n_compile_raw with noB := fun g => noBF g && !(Nat.beq g n_slices_Clone_Goal) }
  else if Nat.beq f n_translate_assignments then { ctxF n_translate_assignments with raw := fun g => (ctxF n_translate_assignments).raw g || Nat.beq g n_slices_Clone_string }
  else if Nat.beq f n_slices_Clone_string then { ctxF n_slices_Clone_string with mutApp := false }
  else ctxF f
noncomputable def specW (f : FuncId) : Option (List AV → Option AV) := if ownW f || Nat.beq f n_slices_Clone_Goal then none else some fun args => pc Qf f args
def rspecW (f : FuncId) : Option RSpec := if Nat.beq f n_slices_Clone_Goal then some (cloR 5 72 88) else none
noncomputable def codeW (f : FuncId) : Option RFunc := if ownW f then resFunc Tryz.prog ctxW f else none
noncomputable def W : Cfg := ⟨codeW, ctxW, specW, rspecW⟩
theorem WS : CfgS Tryz.prog W := by
  refine ⟨fun f rf h => ?_, fun f s hs args r hr => ?_, mixed, fun f s hs O hP args h r h' he => ?_⟩
  · have h1 : codeW f = some rf := h
    unfold codeW at h1
    split at h1
    · exact h1
    · cases h1
  · have hs' : specW f = some s := hs
    unfold specW at hs'
    split at hs'
    · cases hs'
    · cases hs'
      exact ⟨pc_enter QfS hr, fun w ok0 vs hk hG hv => pc_sound QfS hr w ok0 vs hk hG hv⟩
  · have hs' : rspecW f = some s := hs
    unfold rspecW at hs'
    split at hs'
    · rename_i hf
      cases hs'
      obtain rfl := Nat.eq_of_beq_eq_true hf
      exact clo_sound Tryz.cloLaw O args h r h' he
    · cases hs'
def conB (f : FuncId) : Bool := Nat.beq f n_compile_raw || Nat.beq f n_translate_assignments
noncomputable def specH (f : FuncId) : Option (List AV → Option AV) := if conB f then some (fun args => pc W f args) else specG f
noncomputable def Qr : Cfg := ⟨codeF, ctxF, specH, rspecF⟩
theorem con_ff (f : FuncId) (h : conB f = true) : Qf.spec f = none ∧ Qf.code f = none ∧ Qf.rspec f = none := by
  unfold conB at h
  rw [Bool.or_eq_true] at h
  rcases h with h | h <;> obtain rfl := Nat.eq_of_beq_eq_true h <;> exact ⟨rfl, rfl, rfl⟩
theorem QfLe : CfgLe Qf Qr := by
  refine ⟨rfl, rfl, rfl, fun f => ?_⟩
  by_cases h : conB f = true
  · exact .inr (con_ff f h)
  · exact .inl (if_neg h)
theorem lift2 {f : FuncId} {args : List AV} {r : AV} (h : pc Qf f args = some r) : pc Qr f args = some r := QfLe.pc h
theorem QrS : CfgS Tryz.prog Qr := by
  refine ⟨QfS.code, fun f s hs args r hr => ?_, QfS.mixed, QfS.rspec⟩
  have hs' : specH f = some s := hs
  unfold specH at hs'
  split at hs'
  · cases hs'
    exact ⟨pc_enter WS hr, fun w ok0 vs hk hG hv => pc_sound WS hr w ok0 vs hk hG hv⟩
  · exact QfS.spec f s hs' args r hr
theorem conR {f : FuncId} (hf : conB f = true) {args : List AV} {r : AV} (h : pc W f args = some r) : pc Qr f args = some r := pc_spec_of (if_pos hf) h
theorem ofQf {f : FuncId} (hf : (ownW f || Nat.beq f n_slices_Clone_Goal) = false) {args : List AV} {r : AV} (h : pc Qf f args = some r) : pc W f args = some r := pc_spec_of (if_neg (by rw [hf]; exact Bool.noConfusion)) h
theorem cmpKr (f : FuncId) (args : List AV) (r : AV) (h : cmpK f args = some r) : pc Qr f args = some r := lift2 (cmpKf f args r h)
def noK (_ : FuncId) (_ : List AV) : Option AV := none
theorem noK_ok {C : Cfg} (f : FuncId) (args : List AV) (r : AV) (h : noK f args = some r) : pc C f args = some r := by cases h
end Go.Abs.Q
namespace Go.Abs.Q
open Go.Proofs
attribute [local simp] look_set_ne look_set_eq fin tupled code_loop toL_iff
theorem SmC_cE (l : List Tm) (t : Tm) (hl : l.length ≤ 1000) (h : ∀ u ∈ l, u.size ≤ 1000) (ht : t.size ≤ 1000) : SmC (cE l t) := by
  have key : ∀ u : Tm, u.size ≤ 1000 → okF (erF (attF u)) := fun u hu v hv => by
    simp only [erF, attF, List.map_cons, List.map_nil, List.mem_singleton] at hv
    subst hv
    rw [er_size1]
    exact hu
  refine ⟨⟨fun f hf => ?_, key t ht⟩, ?_, fun f hf => ?_, ?_⟩
  · obtain ⟨u, hu, rfl⟩ := List.mem_map.1 hf
    exact key u (h u hu)
  · simp only [cE, List.length_map]
    omega
  · obtain ⟨u, hu, rfl⟩ := List.mem_map.1 hf
    simp [erF, attF]
  · simp [cE, erF, attF]
theorem SmC_envL (bad : List ByteArray) : ∀ c ∈ envL bad, SmC c := by
  intro c hc
  simp only [envL, List.mem_append] at hc
  rcases hc with ((hc | hc) | hc) | hc
  · simp only [env1, List.map_cons, List.map_nil, List.mem_cons, List.not_mem_nil, or_false, Tm.kids] at hc
    rcases hc with rfl | rfl | rfl | rfl | rfl | rfl <;> refine SmC_cE _ _ ?_ ?_ ?_ <;> simp [vaX, vaY, Tm.size, Tm.sizes]
  · simp only [env2, List.mem_cons, List.not_mem_nil, or_false] at hc
    rcases hc with rfl | rfl | rfl | rfl | rfl <;> refine SmC_cE _ _ ?_ ?_ ?_ <;> simp [vaX, vaY, Tm.size, Tm.sizes]
  · simp only [env3, List.map_cons, List.map_nil, List.mem_cons, List.not_mem_nil, or_false] at hc
    rcases hc with rfl | rfl | rfl | rfl | rfl <;> refine SmC_cE _ _ ?_ ?_ ?_ <;> simp [vaX, vaW, Tm.size, Tm.sizes]
  · obtain ⟨b, hb, hc⟩ := List.mem_flatMap.1 hc
    simp only [badC, List.mem_cons, List.not_mem_nil, or_false] at hc
    rcases hc with rfl | rfl | rfl <;> refine SmC_cE _ _ ?_ ?_ ?_ <;> simp [vaW, Tm.size, Tm.sizes]
theorem len_envL (bad : List ByteArray) : (envL bad).length = 16 + 3 * bad.length := by
  have : (bad.flatMap (badC vaW)).length = 3 * bad.length := by
    induction bad with
    | nil => rfl
    | cons b l ih => rw [List.flatMap_cons, List.length_append, ih]; simp only [badC, List.length_cons, List.length_nil]; omega
  simp only [envL, List.length_append, this, List.length_map]
  simp only [env1, env2, env3, List.length_cons, List.length_nil]
theorem pcH {f : FuncId} {rf : RFunc} {args : List AV} {r : AV} (hc : codeF f = some rf) (hs : specH f = none) (hl : args.length ≤ rf.ntmps)
    (H : ∀ fr : Fr, fr.length = rf.ntmps → (∀ i, look fr i = args.getD i undefA) → Ends (evalCode (lim Qr) (ctxF f) rf.body (fr, ⟨[], []⟩)) (FIN rf.results r)) : pc Qr f args = some r :=
  pc_ends (C := Qr) hs hc hl fun fr h1 h2 => H fr h1 h2
theorem pc_TranslateEnvironment (hA : pc Qr n_law47_awake [] = some (.bool true)) (ma mb : Bool × Bool) (ag bad : List ByteArray) (hag : ag.length ≤ 1048576) (hbad : bad.length ≤ 1048576) (hsz : ∀ a ∈ ag, a.size ≤ 1099511627776) :
    pc Qr n_law47_TranslateEnvironment [castV ma mb ag bad] = some (.bool true) := by
  obtain ⟨fw, hfw⟩ := pc_castFew ma mb ag bad (by omega)
  obtain ⟨r1, e1, h1⟩ := pc_Environment ma mb ag bad hag hbad
  obtain ⟨r2, e2, h2⟩ := pc_refEnvironment ma mb ag bad hag hbad hsz
  have hfw := lift2 (lift hfw)
  have e1 := lift2 (lift e1)
  have e2 := lift2 (lift e2)
  have key : ∃ (x y : AV) (v : Int), r1 = .tup [x, .int .i64 v] ∧ r2 = .tup [y, .int .i64 v] ∧ pc Qr n_ref47_SameClauses [x, y] = some (.bool true) ∧ (∀ h am, frz h am x = some x ∧ frz h am y = some y) := by
    rcases h1 with ⟨v1, rfl⟩ | ⟨v1, m, C, rfl, hC⟩
    · rcases h2 with ⟨v2, rfl⟩ | ⟨v2, _⟩
      · exact ⟨_, _, _, rfl, rfl, lift2 (lift pc_SameNil), fun h am => ⟨rfl, rfl⟩⟩
      · exact absurd v2 v1
    · rcases h2 with ⟨v2, _⟩ | ⟨v2, m', D, rfl, hD⟩
      · exact absurd v1 v2
      · have hlen : C.length ≤ 1000000000 := by
          have := congrArg List.length hC
          rw [List.length_map, len_envL] at this
          omega
        have hs : ∀ c ∈ C, SmC c := fun c hc => SmC_er (SmC_envL bad _ (by rw [← hC]; exact List.mem_map_of_mem hc))
        exact ⟨_, _, _, rfl, rfl, lift2 (lift (pc_SameClauses m m' C D hlen (hC.trans hD.symm) hs)), fun h am => ⟨rfl, rfl⟩⟩
  obtain ⟨x, y, v, rfl, rfl, hS, hf⟩ := key
  have f1 := fun h am => (hf h am).1
  have f2 := fun h am => (hf h am).2
  refine pcH res_law47_TranslateEnvironment rfl (by simp [x_law47_TranslateEnvironment]) fun fr hl ha => ?_
  have h0 := ha 0
  clear ha
  simp [x_law47_TranslateEnvironment, castV, strsV] at hl h0
  simp only [castV, strsV] at hfw e1 e2
  cases fw with
  | false => simp [x_law47_TranslateEnvironment, hl, h0, hA, hfw]
  | true => simp [x_law47_TranslateEnvironment, hl, h0, hA, hfw, e1, e2, f1, f2, hS]
end Go.Abs.Q
namespace Go.Abs.Q
open Go.Proofs
open Go.Proofs.YthcbgdmeacaglaaGreatDoor (Rows.uptoBulk Rows.uptoBulkAll)
theorem cStr : Tryz.prog.cellsOf 9 = 1 := by kernel_rfl
theorem cStrs : Tryz.prog.cellsOf 22 = 1 := by kernel_rfl
theorem cCast : Tryz.prog.cellsOf 24 = 2 := by kernel_rfl
theorem len2 {α : Type} : ∀ {l : List α}, l.length = 2 → ∃ a b, l = [a, b]
  | [a, b], _ => ⟨a, b, rfl⟩
theorem struct_all {P : Program} {w : World} {t : TypeId} {H : Type} {enc : TypeId × Value → H} {fs : Array Field} {n : Nat} {cs : List Value} {x : DataW H × List MemPlace} (ht : P.underlying t = some (.struct fs)) {c : Nat} (hc : P.cellsOf t = c)
    (h : DataW.trod enc P w 0 (fun _ => true) true n t cs = some x) :
    ∃ (m : Nat) (xs : List (DataW H × List MemPlace)), n = m + 1 ∧ cs.length = c ∧ xs.length = fs.size ∧ x.1 = .agg (xs.map (·.1)) ∧ ∀ (i : Nat) (f : Field), fs[i]? = some f → ∃ y, xs[i]? = some y ∧ DataW.trod enc P w 0 (fun _ => true) true m f.type ((cs.drop f.offset).take (P.cellsOf f.type)) = some y := by
  obtain ⟨xs, m, rfl, rfl, h1, h2, h3⟩ := DataW.trod_struct ht h
  refine ⟨m, xs, rfl, by omega, h2, rfl, fun i f hi => ?_⟩
  have hlt : i < fs.size := (Array.getElem?_eq_some_iff.1 hi).1
  have := h3 i f hi
  rw [List.getElem?_eq_getElem (by omega)] at this
  exact ⟨xs[i], List.getElem?_eq_getElem _, this⟩
variable {w : World}
theorem sum_ge {α : Type} {f : α → Nat} (h : ∀ a, 1 ≤ f a) : ∀ l : List α, l.length ≤ (l.map f).sum
  | [] => by simp
  | a :: l => by have := h a; have := sum_ge h l; simp; omega
theorem sum_mem {α : Type} {f : α → Nat} {a : α} : ∀ {l : List α}, a ∈ l → f a ≤ (l.map f).sum
  | b :: l, h => by
    rcases List.mem_cons.1 h with rfl | h
    · simp
    · have := sum_mem (f := f) h
      simp
      omega
def strsW (l : List ByteArray) : Nat := (l.map fun s => s.size + 1).sum
theorem opens_strs (n : Nat) : Opens Tryz.prog w 22 (fun ys : Bool × List ByteArray => [sl (false, ys.1) 1 (ys.2.map AV.str)]) (fun _ => True) (fun ys => strsW ys.2) n := by
  intro H enc cs x hx
  cases n with
  | zero => simp [DataW.trod] at hx
  | succ n =>
    obtain ⟨ys, -, h1, h2⟩ := opens_slice (w := w) (enc := AV.str) Tryz.underlying22 cStr (by omega) (opens_str (w := w) Tryz.underlying9 n) enc _ _ hx
    exact ⟨ys, trivial, by unfold strsW; dsimp only at h1 ⊢; omega, h2⟩
structure CaR where
  ma : Bool
  ag : List ByteArray
  mb : Bool
  bad : List ByteArray
theorem opens_cast (n : Nat) : Opens Tryz.prog w 24 (fun a : CaR => [sl (false, a.ma) 1 (a.ag.map AV.str), sl (false, a.mb) 1 (a.bad.map AV.str)]) (fun _ => True) (fun a => strsW a.ag + strsW a.bad) n := by
  intro H enc cs x hx
  obtain ⟨m, xs, rfl, hcl, hxl, hx1, hf⟩ := struct_all Tryz.underlying24 cCast hx
  obtain ⟨y0, hy0, h0⟩ := hf 0 _ rfl
  obtain ⟨y1, hy1, h1⟩ := hf 1 _ rfl
  clear hf
  obtain ⟨v0, v1, rfl⟩ := len2 hcl
  obtain ⟨z0, z1, rfl⟩ := len2 hxl
  simp only [List.getElem?_cons_zero, List.getElem?_cons_succ, Option.some.injEq] at hy0 hy1
  subst hy0 hy1
  simp only [List.getElem_toArray, List.getElem_cons_zero, List.getElem_cons_succ, cStrs, List.drop_zero, List.drop_succ_cons, List.take_succ_cons, List.take_zero] at h0 h1
  obtain ⟨a, -, w0, cv0⟩ := opens_strs (w := w) m enc _ _ h0
  obtain ⟨b, -, w1, cv1⟩ := opens_strs (w := w) m enc _ _ h1
  refine ⟨⟨a.1, a.2, b.1, b.2⟩, trivial, ?_, CV_cons cv0 cv1⟩
  rw [hx1]
  dsimp only at w0 w1
  simp only [List.map_cons, List.map_nil, Rows.uptoBulk, Rows.uptoBulkAll]
  omega
theorem strsW_len (l : List ByteArray) : l.length ≤ strsW l := sum_ge (f := fun s : ByteArray => s.size + 1) (fun s => by omega) l
theorem strsW_mem {l : List ByteArray} {a : ByteArray} (h : a ∈ l) : a.size ≤ strsW l := by
  have := sum_mem (f := fun s : ByteArray => s.size + 1) h
  unfold strsW
  omega
end Go.Abs.Q
namespace Go.Abs.Q
open Go.Proofs Go.WideShapes
open Go.Proofs.YthcbgdmeacaglaaGreatDoor (Rows.uptoBulk Rows.uptoBulkAll)
variable {w : World}
theorem CV_agg {w : World} {cs : List AV} {us : Array Value} (h : CV w cs us.toList) : PV w (okW w) (.agg cs) (.agg us) := by
  simp only [PV]
  exact ⟨us, rfl, h.2, h.1⟩
theorem laidVars_mem {P : Program} {W : World} : ∀ {l : List (String × DataW Unit)} {ps : List MemPlace}, DataW.LaidVars P W l ps → ∀ {n : String} {d : DataW Unit}, (n, d) ∈ l →
    ∃ (g : Nat) (t : TypeId) (cs : Array Value) (fuel : Nat) (p : List MemPlace), P.globalNamed n = some g ∧ (P.globals[g]?).map (·.type) = some t ∧ W.var? P n = some cs ∧ DataW.trod (fun _ => ()) P W 0 (fun _ => true) false fuel t cs.toList = some (d, p)
  | (n', d') :: l, ps, h, n, d, hm => by
    obtain ⟨g, t, cs, fuel, p, q, h1, h2, h3, h4, h5, _⟩ := h
    rcases List.mem_cons.1 hm with e | hm
    · cases e
      exact ⟨g, t, cs, fuel, p, h1, h2, h3, h4⟩
    · exact laidVars_mem h5 hm
theorem glob_of_words {W : World} {l : List (String × DataW Unit)} {ps : List MemPlace} (h : DataW.LaidVars Tryz.prog W l ps) (hm : ("sealring/term.words", (Go.Proofs.YthcbgdmeacaglaaGreatDoor.Rows.laid_sealring_term_words : DataW Unit)) ∈ l) : GlobP W (okW W) := by
  obtain ⟨g, t, cs, fuel, p, h1, h2, h3, h4⟩ := laidVars_mem h hm
  obtain rfl : g = 1 := Option.some.inj ((show Tryz.prog.globalNamed "sealring/term.words" = some 1 by kernel_rfl).symm.trans h1) |>.symm
  obtain rfl : t = 22 := Option.some.inj ((show (Tryz.prog.globals[1]?).map (·.type) = some 22 by kernel_rfl).symm.trans h2) |>.symm
  rcases DataW.trod_slice Tryz.underlying22 h4 with ⟨_, hx⟩ | ⟨a, len, cap, elems, rest, n, -, hcs, hx, -, hlc, hcm, hel, hrd, -⟩
  · cases hx
  · have hc0 : cs[0]? = some (.slice (some a) len cap) := by
      rw [← Array.getElem?_toList, hcs]; rfl
    have hcell : W.cell? ⟨1, 0, none⟩ = some (.slice (some a) len cap) := (World.var?_cell h1 h3 0).trans hc0
    have hd : elems.map (·.1) = [.lit (.string [97, 110, 121]), .lit (.string [97, 103, 101, 110, 116]), .lit (.string [110, 111, 110, 99, 101]), .lit (.string [107, 101, 121]), .lit (.string [100, 97, 116, 97]), .lit (.string [116, 97, 103])] := by
      have := congrArg Prod.fst hx
      unfold Go.Proofs.YthcbgdmeacaglaaGreatDoor.Rows.laid_sealring_term_words at this
      injection this with e1 e2
      exact e1.symm
    have hl6 : len = 6 := by
      rw [← hel]
      have := congrArg List.length hd
      simpa using this
    intro x hx
    unfold globA at hx
    rw [List.mem_singleton] at hx
    subst hx
    simp only [PV, PCells]
    refine ⟨_, _, rfl, ⟨_, World.block_lt_of_cell? _ _ hcell, hcell, rfl, ?_⟩, trivial⟩
    refine PV_sl (by rw [hl6]; rfl) hlc hcm (by decide) fun i x hi => ?_
    have hi6 : i < 6 := by
      have := (List.getElem?_eq_some_iff.1 hi).1
      simpa using this
    have hr := hrd i (by omega)
    rw [cStr] at hr
    have hle : i < elems.length := by omega
    rw [List.getElem?_eq_getElem hle] at hr
    obtain ⟨c, hc1, hc2⟩ := Option.bind_eq_some_iff.1 hr
    obtain ⟨s, rfl, hs2, -⟩ := DataW.trod_string Tryz.underlying9 hc2
    have hdi : (elems.map (·.1))[i]? = some (.lit (.string s.data.toList)) := by
      rw [List.getElem?_map, List.getElem?_eq_getElem hle, hs2]; rfl
    rw [hd] at hdi
    have hx' : x = .str s := by
      have key : ∀ b : List UInt8, s.data.toList = b → s = ⟨b.toArray⟩ := fun b hb => by
        obtain ⟨d⟩ := s
        obtain ⟨d⟩ := d
        simp only at hb
        rw [hb]
      match i, hi6 with
      | 0, _ => simp at hdi hi; rw [← hi, key _ hdi.symm]
      | 1, _ => simp at hdi hi; rw [← hi, key _ hdi.symm]
      | 2, _ => simp at hdi hi; rw [← hi, key _ hdi.symm]
      | 3, _ => simp at hdi hi; rw [← hi, key _ hdi.symm]
      | 4, _ => simp at hdi hi; rw [← hi, key _ hdi.symm]
      | 5, _ => simp at hdi hi; rw [← hi, key _ hdi.symm]
    subst hx'
    exact ⟨[.string s], hc1, CV_one (by simp [PV]) rfl⟩
end Go.Abs.Q
namespace Go.Proofs.YthcbgdmeacaglaaGreatDoor
open Go.ChangeShapes Go.WideShapes Go.ChangeAt Go.RowKit Go.Abs Go.Abs.Q
theorem own : ownKnob Tryz.prog.godebug = none := by kernel_rfl
theorem laidOut : laidOutB Tryz.prog = true := by kernel_rfl
def cell1 : DataW Unit → List Value
  | .lit (.int k n) => [.int k n]
  | .lit (.string l) => [.string ⟨l.toArray⟩]
  | _ => []
def cell2 : DataW Unit → List Value
  | .agg l => l.flatMap cell1
  | .slice l _ => l.flatMap cell1
  | _ => []
def cell3 : DataW Unit → List Value
  | .agg l => l.flatMap cell2
  | _ => []
def laidBlock (l : List Value) : Obj → Obj
  | .cells _ t frozen => .cells l.toArray t frozen
  | o => o
noncomputable def laidWorld (os : Os) : World :=
  { World.holding Tryz.prog os ⟨#[], #[], []⟩ with heap := (((((((World.holding Tryz.prog os ⟨#[], #[], []⟩).heap.modify 3 (laidBlock (cell2 Rows.laid_math_bits_deBruijn32tab))).modify 4 (laidBlock (cell2 Rows.laid_math_bits_deBruijn64tab))).modify 2 (laidBlock (cell2 Rows.laid_internal_strconv_uint64pow10))).modify 6 (laidBlock (cell3 Rows.laid_unicode_utf8_acceptRanges))).modify 5 (laidBlock (cell2 Rows.laid_unicode_utf8_first))).modify 1 (laidBlock [.slice (some ⟨(World.holding Tryz.prog os ⟨#[], #[], []⟩).heap.size, 0, none⟩) 6 6])).push (.cells (cell2 Rows.laid_sealring_term_words).toArray 9 (0, 0)) }
theorem glob_of_laid {W : World} {l : List (String × DataW Unit)} (h : laidMetH Tryz.prog l W) (hf : (l.filter fun x => x.2.handleName?.isSome) = []) (hm : ("sealring/term.words", (Rows.laid_sealring_term_words : DataW Unit)) ∈ l) : GlobP W (okW W) := by
  unfold laidMetH at h
  rw [hf] at h
  obtain ⟨ps, hv, _⟩ := h
  exact glob_of_words hv hm
end Go.Proofs.YthcbgdmeacaglaaGreatDoor
