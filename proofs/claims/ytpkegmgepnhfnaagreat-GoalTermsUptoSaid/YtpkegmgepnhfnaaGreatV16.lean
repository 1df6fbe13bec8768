/- GoalTerms returns true, for every input of bulk at most 1048576; its arguments read afterwards as they read before. Conditions: none beyond the statement's own. -/
import Derived.Test.YtpkegmgepnhfnaaGreatV15
import Derived.Shelf.Strings.OnBuilder
import Derived.Test.YtpkegmgepnhfnaaGreatProg
import Derived.KernelRfl
import Derived.ProofKit
import Derived.WalkKit
import Derived.Lib.Strings
import Derived.Lib.Slices
import Derived.Lib.Walk
import Derived.Lib.Bytealg
import Derived.Test.YtpkegmgepnhfnaaGreatRows
import Derived.OpenShut
import Derived.JoinedCond
/- The contract of strings.Join, laid by the shelf's tools at this seat's program. -/
namespace Go.Proofs
open Go.Shelf
def Tryz.lays156_ren : Go.Shelf.Ren := ⟨fun | 156 => 98 | 165 => 113 | 166 => 114 | 169 => 115 | 240 => 135 | 241 => 136 | 276 => 149 | 277 => 150 | n => n, fun | 31 => 22 | 9 => 9 | 3 => 3 | 4 => 4 | 0 => 0 | 20 => 20 | 72 => 134 | 76 => 138 | 70 => 131 | 37 => 132 | 75 => 137 | 127 => 151 | 164 => 161 | 5 => 5 | 80 => 140 | n => n, fun | n => n⟩
theorem Tryz.lays156 : Go.Proofs.Lays.n156 Tryz.prog Tryz.lays156_ren := {
  mixed := by kernel_rfl
  f156 := Tryz.func98.trans (congrArg some (by kernel_rfl))
  f165 := Tryz.func113.trans (congrArg some (by kernel_rfl))
  f166 := Tryz.func114.trans (congrArg some (by kernel_rfl))
  f169 := Tryz.func115.trans (congrArg some (by kernel_rfl))
  f240 := Tryz.func135.trans (congrArg some (by kernel_rfl))
  f241 := Tryz.func136.trans (congrArg some (by kernel_rfl))
  f276 := Tryz.func149.trans (congrArg some (by kernel_rfl))
  f277 := Tryz.func150.trans (congrArg some (by kernel_rfl))
  t0 := Tryz.underlying0
  a0 := Tryz.isAgg0
  z0 := Tryz.sizeOf0
  v0 := Tryz.zeroValue0
  t3 := Tryz.underlying3
  a3 := Tryz.isAgg3
  z3 := Tryz.sizeOf3
  v3 := Tryz.zeroValue3
  t4 := Tryz.underlying4
  a4 := Tryz.isAgg4
  z4 := Tryz.sizeOf4
  v4 := Tryz.zeroValue4
  t9 := Tryz.underlying9
  a9 := Tryz.isAgg9
  z9 := Tryz.sizeOf9
  v9 := Tryz.zeroValue9
  t20 := Tryz.underlying20
  a20 := Tryz.isAgg20
  z20 := Tryz.sizeOf20
  v20 := Tryz.zeroValue20
  t31 := Tryz.underlying22
  a31 := Tryz.isAgg22
  z31 := Tryz.sizeOf22
  v31 := Tryz.zeroValue22
  t37 := Tryz.underlying132
  a37 := Tryz.isAgg132
  z37 := Tryz.sizeOf132
  v37 := Tryz.zeroValue132
  t70 := Tryz.underlying131
  a70 := Tryz.isAgg131
  z70 := Tryz.sizeOf131
  v70 := Tryz.zeroValue131
  t72 := Tryz.underlying134
  a72 := Tryz.isAgg134
  z72 := Tryz.sizeOf134
  v72 := Tryz.zeroValue134
  t75 := Tryz.underlying137
  a75 := Tryz.isAgg137
  z75 := Tryz.sizeOf137
  v75 := Tryz.zeroValue137
  t76 := Tryz.underlying138
  a76 := Tryz.isAgg138
  z76 := Tryz.sizeOf138
  v76 := Tryz.zeroValue138
  t127 := Tryz.underlying151
  a127 := Tryz.isAgg151
  z127 := Tryz.sizeOf151
  v127 := Tryz.zeroValue151
  t164 := Tryz.underlying161
  a164 := Tryz.isAgg161
  z164 := Tryz.sizeOf161
  v164 := Tryz.zeroValue161 }
theorem Tryz.Builder_Extra_156 : Builder.Extra Tryz.prog Tryz.lays156_ren := {
  sizeBuilder := by kernel_rfl
  liesBuilder := by kernel_rfl
  t5 := Tryz.underlying5
  a5 := Tryz.isAgg5
  z5 := Tryz.sizeOf5
  v5 := Tryz.zeroValue5
  infoByte := by kernel_rfl
  cellsByte := by kernel_rfl
  sizeByte := by kernel_rfl
  neB5 := by decide }
open Go.RowKit in
/-- No element: the empty string; the world is as it was. (Whatever the slice's address and capacity: a nil slice too.) (LAID: no walk: one application.) -/
theorem Tryz.strings_Join_none (a : Option Addr) (c : Nat) (sep : ByteArray) (w : World) :
    Calls Tryz.prog 98 #[.slice a 0 c, .string sep] w fun e w' => e = .returned (.string ⟨#[]⟩) ∧ w' = w := Any.strings_Join_none Tryz.lays156 Tryz.Builder_Extra_156 a c sep w
open Go.RowKit in
/-- strings.Join: "Join concatenates the elements of its first argument to create a single string. The separator string sep is placed between elements in the resulting string.": HOWEVER MANY ELEMENTS. Below the heap's end the world is as it was. (LAID: no walk: one application.) -/
theorem Tryz.strings_Join (bk o c : Nat) (xs : List ByteArray) (sep : ByteArray) (w : World) (hcells : ∀ (j : Nat) x, xs[j]? = some x → w.cell? ⟨bk, o + j, none⟩ = some (.string x)) (hbk : bk < w.heap.size) (hN : xs.length ≤ 140737488355328) (hcap : xs.length ≤ c) (hlen : (Lib.join (xs.map (·.data.toList)) sep.data.toList).length ≤ 140737488355328) :
    Calls Tryz.prog 98 #[.slice (some ⟨bk, o, none⟩) xs.length c, .string sep] w fun e w' => e = .returned (.string ⟨(Lib.join (xs.map (·.data.toList)) sep.data.toList).toArray⟩) ∧ Below w.heap.size w w' := Any.strings_Join Tryz.lays156 Tryz.Builder_Extra_156 bk o c xs sep w hcells hbk hN hcap hlen
end Go.Proofs

/- The settings are the program's: the contract that is taken of the string comparison holds. -/
namespace Go.Proofs

set_option maxHeartbeats 1000000 in
set_option maxRecDepth 100000 in
theorem Tryz.cmpString (a b : ByteArray) (w : World) :
    Calls Tryz.prog 106 #[.string a, .string b] w fun e w' => e = .returned (.int .i64 (Lib.compareBytes a.data.toList b.data.toList)) ∧ w' = w := by
  go_enter Tryz.func106, Tryz.ntmps106
  go_wp2
  rw [run_callFunc_extern Tryz.func129 (by kernel_rfl) (by kernel_rfl) (by kernel_rfl) (e := Extern.BytealgCompare.compare) (by kernel_rfl), Lib.run_compareString]
  simp only [Result.andThen]
  rw [Oper.upon_value]
  go_wp2
  go_ret
  exact ⟨rfl, rfl⟩

set_option maxHeartbeats 1000000 in
set_option maxRecDepth 100000 in
theorem Tryz.sliteIndexByte (s : ByteArray) (c : Int) (w : World) :
    Calls Tryz.prog 137 #[.string s, .int .u8 c] w fun e w' => e = .returned (.int .i64 (Lib.indexByte s.data.toList c.toNat.toUInt8)) ∧ w' = w := by
  go_enter Tryz.func137, Tryz.ntmps137
  go_wp2
  rw [run_callFunc_extern Tryz.func151 (by kernel_rfl) (by kernel_rfl) (by kernel_rfl) (e := Extern.BytealgIndexByte.indexByte) (by kernel_rfl), Lib.run_indexByteString]
  simp only [Result.andThen]
  rw [Oper.upon_value]
  go_wp2
  go_ret
  exact ⟨rfl, rfl⟩

set_option maxHeartbeats 2000000 in
set_option maxRecDepth 100000 in
theorem Tryz.sliteIndexOne (s : ByteArray) (c : UInt8) (w : World) :
    Calls Tryz.prog 117 #[.string s, .string ⟨#[c]⟩] w fun e w' => e = .returned (.int .i64 (Lib.indexByte s.data.toList c)) ∧ w' = w := by
  go_enter Tryz.func117, Tryz.ntmps117
  go_wp2_with (go_at_call 137; refine (Tryz.sliteIndexByte _ _ _).mono ?_; rintro e w' ⟨rfl, rfl⟩)
  · have h : ([c] == s.toList) = true := by assumption
    go_ret
    refine ⟨?_, rfl⟩
    have e : s.data.toList = [c] := by rw [← Lib.toList_data]; exact (beq_iff_eq.1 h).symm
    rw [e]
    simp [Lib.indexByte]
  · go_ret
    exact ⟨rfl, rfl⟩

set_option maxHeartbeats 1000000 in
theorem Tryz.stringsIndexOne (s : ByteArray) (c : UInt8) (w : World) :
    Calls Tryz.prog 100 #[.string s, .string ⟨#[c]⟩] w fun e w' => e = .returned (.int .i64 (Lib.indexByte s.data.toList c)) ∧ w' = w := by
  go_enter Tryz.func100, Tryz.ntmps100
  go_wp2_with (go_at_call 117; refine (Tryz.sliteIndexOne _ _ _).mono ?_; rintro e w' ⟨rfl, rfl⟩)
  go_ret
  exact ⟨rfl, rfl⟩

set_option maxHeartbeats 1000000 in
theorem Tryz.stringsContainsOne (s : ByteArray) (c : UInt8) (w : World) :
    Calls Tryz.prog 77 #[.string s, .string ⟨#[c]⟩] w fun e w' => e = .returned (.bool (decide (0 ≤ Lib.indexByte s.data.toList c))) ∧ w' = w := by
  go_enter Tryz.func77, Tryz.ntmps77
  go_wp2_with (go_at_call 100; refine (Tryz.stringsIndexOne _ _ _).mono ?_; rintro e w' ⟨rfl, rfl⟩)
  go_ret
  exact ⟨rfl, rfl⟩
end Go.Proofs

namespace Go.Abs.Q
open Go.Proofs
open Go.RowKit (Below)

theorem compare_eq : ∀ (a b : List UInt8), Lib.compareBytes a b = if Op.bytesLess a b then -1 else if a = b then 0 else 1
  | [], [] => by simp [Lib.compareBytes, Op.bytesLess]
  | [], _ :: _ => by simp [Lib.compareBytes, Op.bytesLess]
  | _ :: _, [] => by simp [Lib.compareBytes, Op.bytesLess]
  | x :: a, y :: b => by
    simp only [Lib.compareBytes, Op.bytesLess, compare_eq a b]
    by_cases h : x < y
    · simp [h]
    · by_cases h' : y < x
      · have hne : x ≠ y := fun e => h (e ▸ h')
        simp [h, h', hne]
      · have he : x = y := by
          apply UInt8.le_antisymm
          · exact UInt8.not_lt.1 h'
          · exact UInt8.not_lt.1 h
        subst he
        simp [h]

theorem cmpBytes_eq (a b : ByteArray) : cmpBytes a b = Lib.compareBytes a.data.toList b.data.toList := by
  rw [compare_eq, cmpBytes, Lib.toList_data, Lib.toList_data]

theorem indexByte_iff (c : UInt8) : ∀ l : List UInt8, 0 ≤ Lib.indexByte l c ↔ c ∈ l
  | [] => by simp [Lib.indexByte]
  | b :: l => by
    have ih := indexByte_iff c l
    have hge := Lib.indexByte_ge l c
    by_cases h : b = c
    · subst h
      simp [Lib.indexByte]
    · have h1 : Lib.indexByte (b :: l) c = if Lib.indexByte l c = -1 then -1 else Lib.indexByte l c + 1 := by
        simp [Lib.indexByte, h]
      have h2 : ¬c = b := fun e => h e.symm
      rw [h1, List.mem_cons]
      by_cases h3 : Lib.indexByte l c = -1
      · rw [if_pos h3]
        constructor
        · intro k; omega
        · rintro (k | k)
          · exact absurd k h2
          · have := ih.2 k; omega
      · rw [if_neg h3]
        constructor
        · intro k; exact .inr (ih.1 (by omega))
        · intro k
          omega
theorem indexByte_has (l : List UInt8) (c : UInt8) : decide (0 ≤ Lib.indexByte l c) = l.contains c := by
  rw [Bool.eq_iff_iff, decide_eq_true_iff, indexByte_iff]
  simp

theorem strsOf_spec : ∀ {xs : List AV} {l : List ByteArray}, strsOf xs = some l → xs = l.map AV.str
  | [], l, h => by simp [strsOf] at h; subst h; rfl
  | x :: xs, l, h => by
    unfold strsOf at h
    split at h
    · rename_i e; cases e
    · rename_i s xs' e
      cases e
      simp only [Option.map_eq_some_iff] at h
      obtain ⟨l', h1, rfl⟩ := h
      rw [List.map_cons, strsOf_spec h1]
    · cases h

theorem mixed : Tryz.prog.follows .mixedOrders = true := by kernel_rfl

theorem QS : CfgS Tryz.prog Q := by
  refine ⟨fun f rf h => (Q_code f).symm.trans h, fun f s hs args r hr => ?_, mixed⟩
  have hs' : specF f = some s := (Q_spec f).symm.trans hs
  unfold specF at hs'
  split at hs'
  · rename_i hf
    subst hf
    cases hs'
    unfold specCmp at hr
    split at hr
    · rename_i a b
      cases hr
      refine ⟨by kernel_rfl, fun w ok0 vs _ hv => ?_⟩
      have hvs : vs = #[.string a, .string b] := by
        simp only [PVs, PV] at hv
        obtain ⟨u, us, h1, rfl, u', us', rfl, rfl, rfl⟩ := hv
        cases vs
        simp_all
      subst hvs
      refine (Tryz.cmpString a b w).mono fun e w' ⟨he, hw⟩ => ?_
      subst hw
      exact ⟨_, he, Below.refl _ _, by simp [PV, cmpBytes_eq]⟩
    · cases hr
  · split at hs'
    · rename_i hf
      subst hf
      cases hs'
      unfold specHas at hr
      split at hr
      · rename_i a b
        split at hr
        · rename_i c hb
          cases hr
          refine ⟨by kernel_rfl, fun w ok0 vs _ hv => ?_⟩
          have hb' : b = ⟨#[c]⟩ := by
            obtain ⟨⟨l⟩⟩ := b
            simp at hb
            rw [hb]
          subst hb'
          have hvs : vs = #[.string a, .string ⟨#[c]⟩] := by
            simp only [PVs, PV] at hv
            obtain ⟨u, us, h1, rfl, u', us', rfl, rfl, rfl⟩ := hv
            cases vs
            simp_all
          subst hvs
          refine (Tryz.stringsContainsOne a c w).mono fun e w' ⟨he, hw⟩ => ?_
          subst hw
          exact ⟨_, he, Below.refl _ _, by simp [PV, indexByte_has]⟩
        · cases hr
      · cases hr
    · split at hs'
      · rename_i hf
        subst hf
        cases hs'
        unfold specJoin at hr
        split at hr
        · rename_i full z xs sep
          split at hr
          · rename_i l hl
            split at hr
            · rename_i hc
              cases hr
              refine ⟨by kernel_rfl, fun w ok0 vs hok hv => ?_⟩
              obtain ⟨a, len, cap, hvs, hp⟩ : ∃ a len cap, vs = #[.slice a len cap, .string sep] ∧ PV w ok0 (.vs full z xs) (.slice a len cap) := by
                simp only [PVs, PV] at hv
                obtain ⟨u, us, h1, ⟨a, len, cap, rfl, h2⟩, u', us', rfl, rfl, rfl⟩ := hv
                refine ⟨a, len, cap, ?_, by simp only [PV]; exact ⟨a, len, cap, rfl, h2⟩⟩
                cases vs
                simp_all
              subst hvs
              simp only [PV] at hp
              obtain ⟨a', len', cap', e0, rfl, p2, p3, p4, p5, p6⟩ := hp
              cases e0
              by_cases hx : xs = []
              · subst hx
                simp only [strsOf] at hl
                cases hl
                have hz : (joinB [] sep) = ⟨#[]⟩ := rfl
                refine (Tryz.strings_Join_none a cap sep w).mono fun e w' ⟨he, hw⟩ => ?_
                subst hw
                exact ⟨_, he, Below.refl _ _, by simp [PV, hz]⟩
              · obtain ⟨b, o, rfl, q1, q2⟩ := p6 hx
                have hz : z = 1 := by
                  rcases hc.1 with h | h
                  · exact h
                  · exact absurd (List.eq_nil_of_length_eq_zero h) hx
                subst hz
                have hxl := strsOf_spec hl
                subst hxl
                have hcells : ∀ (j : Nat) x, l[j]? = some x → w.cell? ⟨b, o + j, none⟩ = some (.string x) ∧ b < w.heap.size := by
                  intro j x hj
                  obtain ⟨r1, r2⟩ := PEls_get q2 (j := j) (x := .str x) (by simp [hj])
                  obtain ⟨u, u1, u2, u3, u4⟩ := PCells_get r2 (j := 0) (c := .str x) rfl
                  simp only [PV] at u4
                  subst u4
                  exact ⟨by simpa using u2, hok _ _ u1⟩
                have hb : b < w.heap.size := by
                  cases l with
                  | nil => simp at hx
                  | cons y l => exact (hcells 0 y rfl).2
                rw [show (l.map AV.str).length = l.length by simp]
                rw [show (l.map AV.str).length = l.length by simp] at p2
                have hlen : (Lib.join (l.map (·.data.toList)) sep.data.toList).length ≤ 140737488355328 := by
                  have := hc.2.2
                  simpa [joinB, ByteArray.size] using this
                refine (Tryz.strings_Join b o cap l sep w (fun j x hj => (hcells j x hj).1) hb (by have := hc.2.1; simpa using this) p2 hlen).mono fun e w' ⟨he, hw⟩ => ?_
                exact ⟨_, he, hw, by simp [PV, joinB]⟩
            · cases hr
          · cases hr
        · cases hr
      · cases hs'
end Go.Abs.Q

namespace Go.Abs.Q
open Go.Proofs
attribute [local simp] look_set_ne look_set_eq fin tupled code_loop toL_iff toL_dec raw_law27_awake raw_ref22_Light raw_goal_Data raw_ref27_Data raw_goal_Text raw_ref27_Text raw_goal_Valid raw_ref27_Valid raw_ref01_Lists
theorem srts_size (f : ByteArray → Int) : ∀ (n : Nat) (l : List Tm), Tm.sizes l ≤ n → Tm.sizes (srtTs f l) = Tm.sizes l := by
  intro n
  induction n with
  | zero =>
    intro l h
    cases l with
    | nil => rfl
    | cons a l => have := a.size_pos; simp only [Tm.sizes] at h; omega
  | succ n ih =>
    intro l
    induction l with
    | nil => intro _; rfl
    | cons a l ihl =>
      intro h
      simp only [Tm.sizes] at h
      obtain ⟨k, nm, s, m, kids⟩ := a
      have hsz : Tm.size (.mk k nm s m kids) = 1 + Tm.sizes kids := rfl
      simp only [srtTs, srtT, Tm.sizes, Tm.size, ih kids (by omega), ihl (by omega)]
theorem dat_size (n : Nar) (g : Int) (hd : ∀ x ∈ n.goals, Tm.sizes x.data ≤ 1048576) : Tm.sizes (datE n g) ≤ 1048578 := by
  unfold datE
  split
  · simp [Tm.sizes]
  · split
    · rename_i x hx
      have h1 := hd x (List.mem_of_getElem? hx)
      rw [Tm.sizes_append, srts_size _ _ _ (Nat.le_refl _)]
      split
      · simp only [Tm.sizes, erT, erTs, agT, Tm.size]; omega
      · simp only [Tm.sizes]; omega
    · simp [Tm.sizes]
theorem pc_GoalTerms (n : Nar) (F : Fine n) (S : Lens n) (hS : stSz n.steps + goSz n.goals ≤ 1099511627776) (hd : ∀ x ∈ n.goals, Tm.sizes x.data ≤ 1048576) (g : Int) : pc Q n_law27_GoalTerms [narV n, .int .i64 g] = some (.bool true) := by
  obtain ⟨b, hL⟩ := pc_light n F hS
  obtain ⟨m1, l1, d1, e1⟩ := pc_gData n F S g
  obtain ⟨m2, l2, d2, e2⟩ := pc_rgData n F S g
  obtain ⟨s, t1, t2⟩ := pc_gText2 n F S g
  have v1 := pc_gValid n F S g
  have v2 := pc_rgValid n F S g
  have z := dat_size n g hd
  have hLs := pc_Lists m1 m2 l1 l2 (by rw [← ers_size, e1]; omega) (by rw [← ers_size, e2]; omega)
  rw [eqTs_er l1 l2 (e1.trans e2.symm)] at hLs
  have nb := na_cells n
  generalize valE n g = e at *
  cases b with
  | false =>
    refine pcQ res_law27_GoalTerms rfl (by simp [x_law27_GoalTerms]) fun fr hl ha => ?_
    have h0 := ha 0
    have h1 := ha 1
    clear ha
    simp [x_law27_GoalTerms] at hl h0 h1
    simp [x_law27_GoalTerms, hl, h0, nb, pc_awake, hL]
  | true =>
    refine pcQ res_law27_GoalTerms rfl (by simp [x_law27_GoalTerms]) fun fr hl ha => ?_
    have h0 := ha 0
    have h1 := ha 1
    clear ha
    simp [x_law27_GoalTerms] at hl h0 h1
    simp [x_law27_GoalTerms, hl, h0, h1, nb, pc_awake, hL, d1, d2, t1, t2, v1, v2, hLs]
end Go.Abs.Q
namespace Go.Proofs.YtpkegmgepnhfnaaGreat.goalTerms
open Go.ChangeShapes Go.WideShapes Go.ChangeAt Go.RowKit Go.Abs Go.Abs.Q
set_option linter.unusedVariables false

theorem CV_head {w : World} {y : AV} {c : Value} (h : CV w [y] [c]) : PV w (okW w) y c := by
  obtain ⟨h1, _⟩ := h
  simp only [PVs] at h1
  obtain ⟨u, us, he, h2, _⟩ := h1
  cases he
  exact h2
theorem CV_agg {w : World} {cs : List AV} {us : Array Value} (h : CV w cs us.toList) : PV w (okW w) (.agg cs) (.agg us) := by
  simp only [PV]
  exact ⟨us, rfl, h.2, h.1⟩
theorem own : ownKnob Tryz.prog.godebug = none := by kernel_rfl
theorem laidOut : laidOutB Tryz.prog = true := by kernel_rfl

set_option maxRecDepth 100000 in
theorem contract (H : Type) (enc : TypeId × Value → H) (W : World) (base : Nat) (args : Array Value) (ds gs : List (DataW H)) (before : List MemPlace)
    (hval : ∀ (j : Nat) t v, Tryz.f3.params[j]? = some t → args[j]? = some v → Value.okWide Tryz.prog W .any base t v)
    (hW : DataW.Whole enc Tryz.prog Tryz.f3.params.toList Rows.goalTermsSpec.vars false W args.toList ds gs before) (hk : Rows.uptoSmall H (ds ++ gs) = true) :
    Calls Tryz.prog 3 args W fun e W' => ∃ v, e = .returned v ∧ Rows.goalTermsSpec.post enc Tryz.prog Tryz.f3 false true false false W args v W' := by
  have hW' := hW
  obtain ⟨p, q, hA0, hV, rfl, hfz, hnd⟩ := hW
  have hA : DataW.TrodAll enc Tryz.prog W 0 (fun _ => true) true Tryz.f3.params.toList args.toList ds p := hA0
  rw [Tryz.params3] at hA hval
  obtain ⟨v0, vs0, d0, ds0, p0, q0, hargs, rfl, rfl, h0, r0⟩ := trodAll_cons hA
  obtain ⟨v1, vs1, d1, ds1, p1, q1, rfl, rfl, rfl, h1, r1⟩ := trodAll_cons r0
  obtain ⟨rfl, rfl, rfl⟩ := trodAll_nil r1
  obtain rfl : args = #[v0, v1] := by cases args; simp_all
  obtain ⟨rfl, rfl⟩ := trodVars_none hV
  have hb : Rows.uptoBulkAll [d0, d1] ≤ 1048576 := by simpa [Rows.uptoSmall] using hk
  obtain ⟨us0, rfl, -⟩ := okWide_struct Tryz.underlying27 (hval 0 27 v0 rfl rfl)
  obtain ⟨n1, rfl⟩ := okWide_int Tryz.underlying3 (hval 1 3 v1 rfl rfl)
  obtain ⟨f0, h0⟩ := h0
  obtain ⟨f1, h1⟩ := h1
  obtain ⟨n, -, b0, cv0⟩ := opens_nar (w := W) f0 enc _ _ h0
  obtain ⟨g, -, b1, cv1⟩ := opens_int (w := W) Tryz.underlying3 f1 enc _ _ h1
  dsimp only at b0 b1
  simp only [Rows.uptoBulkAll] at hb
  have hn : narW n ≤ 1048576 := by omega
  obtain ⟨F, S, hS⟩ := nar_fine hn
  have hd : ∀ x ∈ n.goals, Tm.sizes x.data ≤ 1048576 := fun x hx => by
    have h := sum_mem (f := golW) hx
    unfold narW at hn
    have : Tm.sizes x.data ≤ golW x := by unfold golW; omega
    omega
  refine true_post QS laidOut Tryz.underlying4 rfl (fun t ht => ?_) rfl ⟨rfl, rfl, rfl⟩ hW' (by simp only [PVs]; exact ⟨_, _, rfl, CV_agg cv0, _, _, rfl, CV_head cv1, rfl⟩) (pc_GoalTerms n F S hS hd g)
  rw [Tryz.params3] at ht
  rcases List.mem_cons.1 ht with rfl | ht
  · exact ⟨by kernel_rfl, of_decide_eq_true (by kernel_rfl)⟩
  · rcases List.mem_cons.1 ht with rfl | ht
    · exact ⟨by kernel_rfl, of_decide_eq_true (by kernel_rfl)⟩
    · cases ht

set_option maxRecDepth 100000 in
theorem lifted (os : Os) (started : os.Started) (H : Type) (enc : TypeId × Value → H) (F : Stop.Interp) :
    ReturnsInHanded {} Tryz.checked os 3 .any ((Rows.OpenSpec.upto Rows.goalTermsSpec).pre6 enc Tryz.prog Tryz.f3 Rows.goalTermsUptoRow.domain false) (((Rows.OpenSpec.upto Rows.goalTermsSpec).at F).post enc Tryz.prog Tryz.f3 false true false false) := by
  refine returnsInHanded_of_cond (C := Tryz.checked) (s := Rows.OpenSpec.upto Rows.goalTermsSpec) (k := Rows.uptoSmall) rfl own started (by kernel_rfl) Tryz.func3
    (OpenSpec.witness (enc := enc) (C := Tryz.checked) (s := Rows.OpenSpec.upto Rows.goalTermsSpec) (k := Rows.uptoSmall) rfl false ⟨#[], #[.agg #[.string ⟨#[]⟩, .slice none 0 0, .slice none 0 0, .slice none 0 0, .slice none 0 0, .slice none 0 0], .int .i64 0], []⟩ 8 (by kernel_rfl) (by kernel_rfl) (by kernel_rfl)
      (x := ([.agg [.lit (.string []), .nil, .nil, .nil, .nil, .nil], .lit (.int .i64 0)], [], [])) (by kernel_rfl) rfl (by kernel_rfl)) ?_
  intro W base args ds gs before hval hW _ hk _
  exact contract H enc W base args ds gs before hval hW hk

theorem over : Rows.goalTermsUptoRow.holds Tryz.pinned (Rows.OpenSpec.upto Rows.goalTermsSpec) :=
  OpenClaim.holds_of_cond 3 Tryz.f3 rfl rfl rfl rfl rfl rfl rfl ⟨rfl, rfl, rfl, rfl, rfl⟩ rfl rfl rfl rfl rfl (by kernel_rfl) Tryz.func3 (by kernel_rfl)
    (of_decide_eq_true (by kernel_rfl)) (by unfold Func.isWrapper; first | (rw [if_pos (by decide +kernel)]; kernel_rfl) | (rw [if_neg (by decide +kernel)]; exact ⟨rfl, rfl⟩))
    (fun os started H enc _ F => lifted os started H enc F)

theorem proved : Rows.GoalTermsUptoSaid :=
  over
#print axioms proved
end Go.Proofs.YtpkegmgepnhfnaaGreat.goalTerms
