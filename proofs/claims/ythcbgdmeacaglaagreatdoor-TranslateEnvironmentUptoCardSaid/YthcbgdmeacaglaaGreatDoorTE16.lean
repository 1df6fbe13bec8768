/- A part of the proof. -/
import Derived.Test.YthcbgdmeacaglaaGreatDoorTE15
import Derived.Shelf.Strings.Builder1
import Derived.Test.YthcbgdmeacaglaaGreatDoorProg
import Derived.KernelRfl
import Derived.WalkKit
import Derived.Deep.RegionWith
import Derived.Deep.QuietTactic
import Derived.BigQuiet
set_option linter.all false
namespace Go.Abs.Q
open Go.Proofs
attribute [local simp] look_set_ne look_set_eq fin tupled code_loop toL_iff buildParts fillParts splice sliceParts
def env1 : List Tm := [apT (true, true) (bs [112, 97, 105, 114]) [vaX, vaY], apT (true, true) (bs [101, 110, 99]) [vaX, vaY], apT (true, true) (bs [97, 101, 110, 99]) [vaX, vaY], apT (true, true) (bs [112, 107]) [vaX], apT (true, true) (bs [115, 105, 103, 110]) [vaX, vaY], apT (true, true) (bs [104, 97, 115, 104]) [vaX]]
def env2 : List Cl := [cE [apT (true, true) (bs [112, 97, 105, 114]) [vaX, vaY]] vaX, cE [apT (true, true) (bs [112, 97, 105, 114]) [vaX, vaY]] vaY, cE [apT (true, true) (bs [101, 110, 99]) [vaX, vaY], vaY] vaX, cE [apT (true, true) (bs [97, 101, 110, 99]) [vaX, apT (true, true) (bs [112, 107]) [vaY]], vaY] vaX, cE [apT (true, true) (bs [115, 105, 103, 110]) [vaX, vaY]] vaX]
def env3 : List Tm := [vaW, vaT (bs [120]) 5, atT (bs [103]) 4, apT (true, true) (bs [110, 101, 119]) [atT (bs [111, 119, 110]) 0, vaX], apT (true, true) (bs [112, 107]) [apT (true, true) (bs [115, 107]) [vaW]]]
def envL (bad : List ByteArray) : List Cl := (env1.map fun t => cE t.kids t) ++ env2 ++ (env3.map fun t => cE [] t) ++ bad.flatMap (badC vaW)
theorem Lsa_at {fr : Fr} {h : AH} {xs : List AV} {w : AV} (e : look fr 8 = w) (hg : Lsa false 4 xs w h) : Lsa false 4 xs (look fr 8) h := by rw [e]; exact hg
theorem Lsa_look0 {fr : Fr} {h : AH} (e : look fr 8 = AV.vs true 0 []) : Lsa false 4 (([] : List Cl).map clV) (look fr 8) h := by rw [e]; exact Lsa_nil _ _ _
set_option maxHeartbeats 4000000 in
theorem pc_Environment (ma mb : Bool × Bool) (ag bad : List ByteArray) (hag : ag.length ≤ 1048576) (hbad : bad.length ≤ 1048576) : ∃ r, pc Q n_translate_Environment [castV ma mb ag bad] = some r ∧
    ((validC ag bad ≠ 0 ∧ r = .tup [.vs true 0 [], .int .i64 (validC ag bad)]) ∨ (validC ag bad = 0 ∧ ∃ (m : Bool × Bool) (C : List Cl), r = .tup [sl m 4 (C.map clV), .int .i64 0] ∧ C.map erC = envL bad)) := by
  have hV := pc_castValid ma mb ag bad (by omega) (by omega)
  by_cases hv : validC ag bad = 0
  rotate_left
  · refine pc_ends_ex (C := Q) ((Q_spec _).trans rfl) ((Q_code _).trans res_translate_Environment) (by simp [x_translate_Environment]) fun Ψ hΨ fr hl ha => ?_
    rw [Q_ctx]
    have h0 := ha 0
    clear ha
    simp [x_translate_Environment, castV, strsV] at hl h0
    simp only [castV, strsV] at hV
    generalize validC ag bad = v at *
    simp [x_translate_Environment, hl, h0, hV, hv]
    exact hΨ _ (.inl ⟨hv, rfl⟩)
  · rw [hv] at hV
    obtain ⟨X, hXe⟩ : ∃ X, X = vaX := ⟨_, rfl⟩
    obtain ⟨Y, hYe⟩ : ∃ Y, Y = vaY := ⟨_, rfl⟩
    obtain ⟨W, hWe⟩ : ∃ W, W = vaW := ⟨_, rfl⟩
    obtain ⟨P1, hP1⟩ : ∃ P, P = apT (true, true) (bs [112, 97, 105, 114]) [X, Y] := ⟨_, rfl⟩
    obtain ⟨P2, hP2⟩ : ∃ P, P = apT (true, true) (bs [101, 110, 99]) [X, Y] := ⟨_, rfl⟩
    obtain ⟨P3, hP3⟩ : ∃ P, P = apT (true, true) (bs [97, 101, 110, 99]) [X, Y] := ⟨_, rfl⟩
    obtain ⟨P4, hP4⟩ : ∃ P, P = apT (true, true) (bs [112, 107]) [X] := ⟨_, rfl⟩
    obtain ⟨P5, hP5⟩ : ∃ P, P = apT (true, true) (bs [115, 105, 103, 110]) [X, Y] := ⟨_, rfl⟩
    obtain ⟨P6, hP6⟩ : ∃ P, P = apT (true, true) (bs [104, 97, 115, 104]) [X] := ⟨_, rfl⟩
    obtain ⟨P7, hP7⟩ : ∃ P, P = apT (true, true) (bs [112, 107]) [Y] := ⟨_, rfl⟩
    obtain ⟨P8, hP8⟩ : ∃ P, P = apT (true, true) (bs [97, 101, 110, 99]) [X, P7] := ⟨_, rfl⟩
    obtain ⟨R1, hR1⟩ : ∃ P, P = vaT (bs [120]) 5 := ⟨_, rfl⟩
    obtain ⟨R2, hR2⟩ : ∃ P, P = atT (bs [103]) 4 := ⟨_, rfl⟩
    obtain ⟨R3, hR3⟩ : ∃ P, P = atT (bs [111, 119, 110]) 0 := ⟨_, rfl⟩
    obtain ⟨R4, hR4⟩ : ∃ P, P = apT (true, true) (bs [110, 101, 119]) [R3, X] := ⟨_, rfl⟩
    obtain ⟨R5, hR5⟩ : ∃ P, P = apT (true, true) (bs [115, 107]) [W] := ⟨_, rfl⟩
    obtain ⟨R6, hR6⟩ : ∃ P, P = apT (true, true) (bs [112, 107]) [R5] := ⟨_, rfl⟩
    have hX : pc Q n_translate_variable [.str (bs [120]), .int .i64 0] = some (tmV X) := by rw [hXe]; exact pc_variable _ _
    have hY : pc Q n_translate_variable [.str (bs [121]), .int .i64 0] = some (tmV Y) := by rw [hYe]; exact pc_variable _ _
    have hW : pc Q n_translate_variable [.str (bs [120]), .int .i64 1] = some (tmV W) := by rw [hWe]; exact pc_variable _ _
    have a1 : pc Q n_translate_app [.str (bs [112, 97, 105, 114]), sl (true, true) 4 [tmV X, tmV Y]] = some (tmV P1) := by rw [hP1]; exact pc_app _ _ [X, Y]
    have a2 : pc Q n_translate_app [.str (bs [101, 110, 99]), sl (true, true) 4 [tmV X, tmV Y]] = some (tmV P2) := by rw [hP2]; exact pc_app _ _ [X, Y]
    have a3 : pc Q n_translate_app [.str (bs [97, 101, 110, 99]), sl (true, true) 4 [tmV X, tmV Y]] = some (tmV P3) := by rw [hP3]; exact pc_app _ _ [X, Y]
    have a4 : pc Q n_translate_app [.str (bs [112, 107]), sl (true, true) 4 [tmV X]] = some (tmV P4) := by rw [hP4]; exact pc_app _ _ [X]
    have a5 : pc Q n_translate_app [.str (bs [115, 105, 103, 110]), sl (true, true) 4 [tmV X, tmV Y]] = some (tmV P5) := by rw [hP5]; exact pc_app _ _ [X, Y]
    have a6 : pc Q n_translate_app [.str (bs [104, 97, 115, 104]), sl (true, true) 4 [tmV X]] = some (tmV P6) := by rw [hP6]; exact pc_app _ _ [X]
    have a7 : pc Q n_translate_app [.str (bs [112, 107]), sl (true, true) 4 [tmV Y]] = some (tmV P7) := by rw [hP7]; exact pc_app _ _ [Y]
    have a8 : pc Q n_translate_app [.str (bs [97, 101, 110, 99]), sl (true, true) 4 [tmV X, tmV P7]] = some (tmV P8) := by rw [hP8]; exact pc_app _ _ [X, P7]
    have r1 : pc Q n_translate_variable [.str (bs [120]), .int .i64 5] = some (tmV R1) := by rw [hR1]; exact pc_variable _ _
    have r2 : pc Q n_translate_atom [.str (bs [103]), .int .i64 4] = some (tmV R2) := by rw [hR2]; exact pc_atom _ _
    have r3 : pc Q n_translate_atom [.str (bs [111, 119, 110]), .int .i64 0] = some (tmV R3) := by rw [hR3]; exact pc_atom _ _
    have r4 : pc Q n_translate_app [.str (bs [110, 101, 119]), sl (true, true) 4 [tmV R3, tmV X]] = some (tmV R4) := by rw [hR4]; exact pc_app _ _ [R3, X]
    have r5 : pc Q n_translate_app [.str (bs [115, 107]), sl (true, true) 4 [tmV W]] = some (tmV R5) := by rw [hR5]; exact pc_app _ _ [W]
    have r6 : pc Q n_translate_app [.str (bs [112, 107]), sl (true, true) 4 [tmV R5]] = some (tmV R6) := by rw [hR6]; exact pc_app _ _ [R5]
    obtain ⟨d1, f1, g1⟩ := pc_fromC X (true, true) [P1] (by simp)
    obtain ⟨d2, f2, g2⟩ := pc_fromC Y (true, true) [P1] (by simp)
    obtain ⟨d3, f3, g3⟩ := pc_fromC X (true, true) [P2, Y] (by simp)
    obtain ⟨d4, f4, g4⟩ := pc_fromC X (true, true) [P8, Y] (by simp)
    obtain ⟨d5, f5, g5⟩ := pc_fromC X (true, true) [P5] (by simp)
    have hE1 : ∀ t ∈ [P1, P2, P3, P4, P5, P6], t.kids.length ≤ 1000 := by
      intro t ht
      simp only [List.mem_cons, List.not_mem_nil, or_false] at ht
      rcases ht with rfl | rfl | rfl | rfl | rfl | rfl <;> simp [hP1, hP2, hP3, hP4, hP5, hP6, Tm.kids]
    have hL1 : [P1, P2, P3, P4, P5, P6] = env1 := by rw [hP1, hP2, hP3, hP4, hP5, hP6, hXe, hYe]; rfl
    have hL2 : [d1, d2, d3, d4, d5].map erC = env2 := by
      simp only [List.map_cons, List.map_nil, g1, g2, g3, g4, g5]
      rw [hP1, hP2, hP5, hP8, hP7, hXe, hYe]; rfl
    have hL3 : [W, R1, R2, R4, R6] = env3 := by rw [hR1, hR2, hR4, hR6, hR3, hR5, hWe, hXe]; rfl
    clear g1 g2 g3 g4 g5 hP1 hP2 hP3 hP4 hP5 hP6 hP7 hP8 hR1 hR2 hR3 hR4 hR5 hR6 hXe hYe
    simp only [tmVs] at f1 f2 f3 f4 f5
    refine pc_ends_ex (C := Q) ((Q_spec _).trans rfl) ((Q_code _).trans res_translate_Environment) (by simp [x_translate_Environment]) fun Ψ hΨ fr hl ha => ?_
    rw [Q_ctx]
    have h0 := ha 0
    clear ha
    simp [x_translate_Environment, castV, strsV] at hl h0
    simp only [castV, strsV] at hV
    simp [x_translate_Environment, hl, h0, hV, hX, hY, hW, a1, a2, a3, a4, a5, a6]
    refine Ends.mono (loop_env2 (true, true) [P1, P2, P3, P4, P5, P6] (by simp) hE1 _ _ _ _ [] (by simp) _ _ [] rfl ?_ ?_ ?_ ?_ ?_) ?_ <;> first | (simp [hl, tmVs]; done) | (exact Lsa_look0 (by simp [hl])) | skip
    rintro e fr1 ⟨bx, F⟩ ⟨K, rfl, B, C, hB, hg, hC1⟩
    simp only at hB
    subst hB
    have hlfr1 : fr1.length = 153 := K.1.trans (by simp [hl])
    have k1fr1 : look fr1 1 = .ptr 0 0 := (K.2 1 (by decide)).trans (by simp [hl])
    have k5fr1 : look fr1 5 = .ptr 1 0 := (K.2 5 (by decide)).trans (by simp [hl])
    have k6fr1 : look fr1 6 = .ptr 2 0 := (K.2 6 (by decide)).trans (by simp [hl])
    have k7fr1 : look fr1 7 = .ptr 3 0 := (K.2 7 (by decide)).trans (by simp [hl])
    clear K
    have hCl : C.length = 6 := by
      have := congrArg List.length hC1
      simpa using this
    obtain ⟨w', F', q1, q2⟩ := app_clsB (f := n_translate_Environment) rfl C [d1, d2, d3, d4, d5] (look fr1 8) _ hg (by simp only [List.length_cons, List.length_nil]; omega)
    obtain ⟨c1, c2, c3, c4⟩ := Lsa_cells hg
    simp only [List.map_cons, List.map_nil] at q1
    generalize hw8 : look fr1 8 = w8 at *
    simp [hlfr1, k1fr1, k5fr1, k6fr1, k7fr1, hw8, a1, a2, a5, a7, a8, r1, r2, r3, r4, r5, r6, f1, f2, f3, f4, f5, q1, c1, c2, c3, c4]
    refine Ends.mono (loop_env1 (true, true) [W, R1, R2, R4, R6] (by simp) _ _ _ _ (C ++ [d1, d2, d3, d4, d5]) (by simp [hCl]) _ _ _ rfl ?_ ?_ ?_ ?_ ?_) ?_ <;> first | (simp [hlfr1, tmVs]; done) | (exact Lsa_at (by simp [hlfr1]) (q2 _)) | skip
    rintro e fr2 ⟨bx, F2⟩ ⟨K, rfl, B2, C2, hB, hg2, hC2⟩
    simp only at hB
    subst hB
    have hlfr2 : fr2.length = 153 := K.1.trans (by simp [hlfr1])
    have k1fr2 : look fr2 1 = .ptr 0 0 := (K.2 1 (by decide)).trans (by simp [hlfr1, k1fr1])
    have k7fr2 : look fr2 7 = .ptr 3 0 := (K.2 7 (by decide)).trans (by simp [hlfr1, k7fr1])
    clear K
    have hCl2 : C2.length = 5 := by
      have := congrArg List.length hC2
      simpa using this
    simp [hlfr2, k1fr2, k7fr2]
    refine Ends.mono (loop_env0 mb bad (by omega) _ _ _ W (C ++ [d1, d2, d3, d4, d5] ++ C2) (by simp [hCl, hCl2]) _ _ _ (by simp only [tm_cells]; rfl) ?_ ?_ ?_ ?_ ?_ ?_) ?_ <;> first | (simp [hlfr2, k7fr2]; done) | (exact Lsa_at (by simp [hlfr2]) hg2) | skip
    rintro e fr3 ⟨bx, F3⟩ ⟨K, rfl, B3, C3, hg3, hC3⟩
    have hlfr3 : fr3.length = 153 := K.1.trans (by simp [hlfr2])
    obtain ⟨mm, hf⟩ := Lsa_frz hg3
    have hf := fun B => (hf B).2
    generalize hw9 : look fr3 8 = w9 at *
    simp [hlfr3, hw9, frzRes, frzAll, hf]
    refine hΨ _ (.inr ⟨hv, mm, C ++ [d1, d2, d3, d4, d5] ++ C2 ++ C3, by simp, ?_⟩)
    rw [List.map_append, List.map_append, List.map_append, hC1, hC2, hC3, hL2, hL1, hL3, hWe]
    simp [envL]
theorem pc_refAtom (b : ByteArray) (s : Int) : pc Q n_ref01_Atom [.str b, .int .i64 s] = some (tmV (.mk 2 b s (true, false) [])) := by
  refine pcQ res_ref01_Atom rfl (by simp [x_ref01_Atom]) fun fr hl ha => ?_
  have h0 := ha 0
  have h1 := ha 1
  clear ha
  simp [x_ref01_Atom] at hl h0 h1
  simp [x_ref01_Atom, hl, h0, h1, tmV, tmVs]
  rfl
theorem pc_refAgent (b : ByteArray) : pc Q n_ref15_Agent [.str b] = some (tmV (atT b 1)) := by
  have hA := pc_refAtom b 1
  refine pcQ res_ref15_Agent rfl (by simp [x_ref15_Agent]) fun fr hl ha => ?_
  have h0 := ha 0
  clear ha
  simp [x_ref15_Agent] at hl h0
  simp [x_ref15_Agent, hl, h0, hA]
theorem Lsa_at7 {fr : Fr} {h : AH} {xs : List AV} {w : AV} (e : look fr 7 = w) (hg : Lsa false 4 xs w h) : Lsa false 4 xs (look fr 7) h := by rw [e]; exact hg
def Row1 (F0 : List Fam) (sz : Nat) (xs : List AV) (v : AV) (F : List Fam) : Prop := (xs = [] ∧ v = .vs true 0 [] ∧ F = F0) ∨ (xs ≠ [] ∧ v = .sl F0.length xs.length 0 xs.length ∧ F = F0 ++ [⟨xs, sz, false⟩])
theorem Row1_app {c : Ctx} (hc : c.mutApp = false) {F0 F : List Fam} {sz bytes : Nat} {xs : List AV} {v x : AV} (hg : Row1 F0 sz xs v F) (hb : (xs.length + 1) * bytes ≤ roomA ∧ xs.length + 1 ≤ maxLen) :
    ∃ v' F', (∀ (B : List (List AV)) m, appendA c ⟨B, F⟩ sz bytes v (sl m sz [x]) = some (v', ⟨B, F'⟩)) ∧ Row1 F0 sz (xs ++ [x]) v' F' := by
  rcases hg with ⟨rfl, rfl, rfl⟩ | ⟨hne, rfl, rfl⟩
  · refine ⟨.sl F.length 1 0 1, F ++ [⟨[x], sz, false⟩], fun B m => ?_, .inr ⟨by simp, rfl, rfl⟩⟩
    simp only [appendA, elems_sl, appendY, List.length_nil, Nat.zero_add, List.length_cons, List.nil_append, hc]
    rw [if_neg (by omega), if_pos ⟨.inr trivial, by simpa using hb⟩]
  · refine ⟨.sl F0.length (xs.length + 1) 0 (xs.length + 1), F0 ++ [⟨xs ++ [x], sz, false⟩], fun B m => ?_, .inr ⟨by simp, by simp, rfl⟩⟩
    have hk : (F0 ++ [(⟨xs, sz, false⟩ : Fam)])[F0.length]? = some ⟨xs, sz, false⟩ := by simp
    simp only [appendA, elems_sl, appendY, hk]
    rw [if_pos ⟨trivial, trivial, by omega, hb.1, hb.2⟩]
    simp
theorem Row1_frz {F0 F : List Fam} {sz : Nat} {xs : List AV} {v : AV} (hg : Row1 F0 sz xs v F) : ∃ m, ∀ (B : List (List AV)) (am : Bool), frz1 ⟨B, F⟩ am v = some (sl m sz xs) := by
  rcases hg with ⟨rfl, rfl, rfl⟩ | ⟨hne, rfl, rfl⟩
  · exact ⟨(true, false), fun B am => rfl⟩
  · refine ⟨(false, false), fun B am => ?_⟩
    have hk : (F0 ++ [(⟨xs, sz, false⟩ : Fam)])[F0.length]? = some ⟨xs, sz, false⟩ := by simp
    simp only [frz1, hk]
    rw [if_pos ⟨trivial, by omega, by simp⟩]
    cases xs with
    | nil => exact absurd rfl hne
    | cons x xs => simp [sl]
theorem Row1_cells {F0 F : List Fam} {sz : Nat} {xs : List AV} {v : AV} (hg : Row1 F0 sz xs v F) : v.isTup = false ∧ v.cells = [v] ∧ isMB [v] = false ∧ ofCells false 1 [v] = some v := by
  rcases hg with ⟨rfl, rfl, rfl⟩ | ⟨hne, rfl, rfl⟩ <;> exact ⟨rfl, rfl, rfl, rfl⟩
theorem Row1_lsa {F0 F : List Fam} {sz sz' : Nat} {xs ys : List AV} {v w : AV} {B B' : List (List AV)} {wr : Bool} (hg : Row1 F0 sz xs v F) (h : Lsa wr sz' ys w ⟨B, F0⟩) : Lsa wr sz' ys w ⟨B', F⟩ := by
  rcases h with h | ⟨h1, k, h2, h3⟩
  · exact .inl h
  · refine .inr ⟨h1, k, h2, ?_⟩
    have hk : k < F0.length := (List.getElem?_eq_some_iff.1 h3).1
    rcases hg with ⟨rfl, rfl, rfl⟩ | ⟨hne, rfl, rfl⟩
    · exact h3
    · show (F0 ++ _)[k]? = _
      rw [List.getElem?_append_left hk]; exact h3
theorem at0 {α : Type} (A : List α) (X : α) (Z : List α) : (A ++ X :: Z)[A.length]? = some X := by simp
theorem at1 {α : Type} (A : List α) (X Y : α) (Z : List α) : (A ++ X :: Y :: Z)[A.length + 1]? = some Y := by simp
theorem set1 {α : Type} (A : List α) (X Y V : α) (Z : List α) : (A ++ X :: Y :: Z).set (A.length + 1) V = A ++ X :: V :: Z := by
  rw [List.set_append_right _ _ (by omega)]
  simp
theorem loop_renv2 (T : Tm) (l : List Tm) (hT : T.kids = l) (hlen : l.length ≤ 1000) (A : List (List AV)) (x1 x2 x3 : AV) (F0 : List Fam) (fr : Fr) (h : AH) (hh : h = ⟨A ++ [(tmV T).cells, [.vs true 0 [], x1, x2, x3]], F0⟩) (hl : fr.length = 151) (h10 : look fr 10 = .ptr A.length 0) (h11 : look fr 11 = .ptr (A.length + 1) 0) (h12 : look fr 12 = .int .i64 0) :
    Ends (lp (evalCode (lim Q) (ctxF n_ref47_Environment) x_ref47_Environment_2) (fr, h)) fun e fr' h' => Kp x_ref47_Environment_2.wr fr fr' ∧ e = .exit 2 ∧ ∃ (w : AV), h'.boxes = A ++ [(tmV T).cells, [w, x1, x2, x3]] ∧ Row1 F0 3 (l.map fun t => faV (attF t)) w h'.fams := by
  refine Ends_lpw rfl fr (fun n fr h' => ∃ (i : Nat), i + n = l.length ∧ look fr 12 = .int .i64 (i : Nat) ∧ (∃ (w : AV), h'.boxes = A ++ [(tmV T).cells, [w, x1, x2, x3]] ∧ Row1 F0 3 ((l.take i).map fun t => faV (attF t)) w h'.fams)) ?_ l.length h ⟨0, by omega, h12, ⟨_, by rw [hh], .inl ⟨rfl, rfl, by rw [hh]⟩⟩⟩
  rintro J Φ hJ hΦ n fr1 H1 K ⟨i, hi, k12, hr⟩
  have hl1 : fr1.length = 151 := K.1.trans hl
  have k10 := (K.2 10 (by decide)).trans h10
  have k11 := (K.2 11 (by decide)).trans h11
  clear K
  by_cases hlt : i < l.length
  · have hwp : IntKind.i64.wrap ((i : Int) + 1) = (i : Int) + 1 := wrap_id (by omega) (by omega)
    obtain ⟨w, hB, hg⟩ := hr
    obtain ⟨bx, F⟩ := H1
    simp only at hB hg
    subst hB
    have hx : nth (tmVs l) i = some (tmV l[i]) := nth_tmVs (by simp [hlt])
    have hA := pc_refAtt l[i]
    have hlen2 : (tmVs l).length = l.length := by rw [tmVs_map, List.length_map]
    have hr2 : (((l.take i).map fun t => faV (attF t)).length + 1) * 40 ≤ roomA ∧ ((l.take i).map fun t => faV (attF t)).length + 1 ≤ maxLen := by
      simp only [roomA, maxLen, List.length_map, List.length_take]
      omega
    obtain ⟨w', F', q1, q2⟩ := Row1_app (c := ctxF n_ref47_Environment) rfl (bytes := 40) (x := faV (attF l[i])) hg hr2
    obtain ⟨c1, c2, c3, c4⟩ := Row1_cells hg
    obtain ⟨d1, d2, d3, d4⟩ := Row1_cells q2
    rw [← List.map_singleton (f := fun t => faV (attF t)), ← List.map_append, ← List.take_succ_eq_append_getElem hlt] at q2
    have hfz : ∀ h', frz h' false (faV (attF l[i])) = some (faV (attF l[i])) := fun _ => rfl
    have hcl : (faV (attF l[i])).cells.length = 3 := rfl
    generalize l[i] = t at *
    generalize faV (attF t) = f at *
    simp [x_ref47_Environment_2, hl1, k10, k11, k12, hlt, hwp, hT, hx, hA, hlen2, at0, at1, set1, c1, c2, c3, c4, d1, d2, d3, d4, q1, hfz, hcl]
    exact ⟨n - 1, by omega, hJ _ _ _ ⟨i + 1, by omega, by simp [hl1], _, by simp [hT], q2⟩⟩
  · obtain ⟨w, hB, hg⟩ := hr
    obtain ⟨bx, F⟩ := H1
    simp only at hB hg
    subst hB
    have hlen2 : (tmVs l).length = l.length := by rw [tmVs_map, List.length_map]
    rw [List.take_of_length_le (by omega)] at hg
    simp [x_ref47_Environment_2, hl1, k10, k11, k12, hlt, hT, hlen2, at0, at1]
    exact hΦ _ _ _ ⟨rfl, w, by simp [hT], hg⟩
theorem loop_renv3 (m : Bool × Bool) (l : List (ByteArray × Tm)) (hlen : l.length ≤ 1000) (hp : ∀ p ∈ l, pc Q n_ref47_parse [.str p.1] = some (tmV p.2)) (hk : ∀ p ∈ l, p.2.kids.length ≤ 1000) (b0 b1 b2 : List AV) (C0 : List Cl) (hC : C0.length ≤ 1000) (fr : Fr) (h : AH) (B0 : List (List AV)) (hbx : h.boxes = b0 :: b1 :: b2 :: B0) (hg0 : Lsa false 4 (C0.map clV) (look fr 7) h) (hl : fr.length = 151) (h8 : look fr 8 = sl m 1 (l.map fun p => .str p.1)) (h9 : look fr 9 = .int .i64 0) :
    Ends (lp (evalCode (lim Q) (ctxF n_ref47_Environment) x_ref47_Environment_3) (fr, h)) fun e fr' h' => Kp x_ref47_Environment_3.wr fr fr' ∧ e = .exit 0 ∧ ∃ (B : List (List AV)) (C : List Cl), h'.boxes = b0 :: b1 :: b2 :: B ∧ Lsa false 4 ((C0 ++ C).map clV) (look fr' 7) h' ∧ C.map erC = l.map fun p => cE p.2.kids p.2 := by
  refine Ends_lpw rfl fr (fun n fr h' => ∃ (i : Nat), i + n = l.length ∧ look fr 9 = .int .i64 (i : Nat) ∧ (∃ (B : List (List AV)) (C : List Cl), h'.boxes = b0 :: b1 :: b2 :: B ∧ Lsa false 4 ((C0 ++ C).map clV) (look fr 7) h' ∧ C.map erC = (l.take i).map fun p => cE p.2.kids p.2)) ?_ l.length h ⟨0, by omega, h9, ⟨B0, [], hbx, by simpa using hg0, rfl⟩⟩
  rintro J Φ hJ hΦ n fr1 H1 K ⟨i, hi, k9, hr⟩
  have hl1 : fr1.length = 151 := K.1.trans hl
  have k8 := (K.2 8 (by decide)).trans h8
  clear K
  by_cases hlt : i < l.length
  · have hwp : IntKind.i64.wrap ((i : Int) + 1) = (i : Int) + 1 := wrap_id (by omega) (by omega)
    obtain ⟨B, C, hB, hg, hC1⟩ := hr
    obtain ⟨bx, F⟩ := H1
    simp only at hB
    subst hB
    have hx := nth_map (f := fun p : ByteArray × Tm => AV.str p.1) (List.getElem?_eq_getElem hlt)
    have hP := hp l[i] (List.getElem_mem hlt)
    have hkk := hk l[i] (List.getElem_mem hlt)
    have hCl : C.length = i := by
      have := congrArg List.length hC1
      simpa [Nat.min_eq_left (Nat.le_of_lt hlt)] using this
    have e2 : ∀ c, erC c = cE l[i].2.kids l[i].2 → (C ++ [c]).map erC = (l.take (i + 1)).map fun p => cE p.2.kids p.2 := fun c hc => by
      rw [List.take_succ_eq_append_getElem hlt, List.map_append, hC1, List.map_append, List.map_cons, List.map_nil, List.map_cons, List.map_nil, hc]
    have hA := pc_refAtt l[i].2
    generalize l[i] = p at *
    obtain ⟨s, T⟩ := p
    simp only at hP hkk e2 hA hx
    generalize hw7 : look fr1 7 = w7 at *
    have c1 := Lsa_cells hg
    simp [x_ref47_Environment_3, hl1, k8, k9, hlt, hwp, hx, hP, hA, hw7, c1.1, c1.2.1]
    refine Ends.mono (loop_renv2 T T.kids rfl hkk (b0 :: b1 :: b2 :: B) (.int .i64 (attF T).kind) (.int .i64 (attF T).goal) (sl (attF T).fm 4 (tmVs (attF T).terms)) F _ _ ?_ ?_ ?_ ?_ ?_) ?_ <;> first | (simp [hl1]; done) | skip
    rintro e fr2 ⟨bx, F2⟩ ⟨K, rfl, w, hB, hgr⟩
    simp only at hB hgr
    subst hB
    have hl2 : fr2.length = 151 := K.1.trans (by simp [hl1])
    have z7 : look fr2 7 = w7 := (K.2 7 (by decide)).trans (by simp [hl1, hw7])
    have z8 : look fr2 8 = sl m 1 (l.map fun p => .str p.1) := (K.2 8 (by decide)).trans (by simp [hl1, k8])
    have z9 : look fr2 9 = .int .i64 (i : Nat) := (K.2 9 (by decide)).trans (by simp [hl1, k9])
    have z11 : look fr2 11 = .ptr ((b0 :: b1 :: b2 :: B).length + 1) 0 := (K.2 11 (by decide)).trans (by simp [hl1])
    have hgo : Lsa false 4 ((C0 ++ C).map clV) w7 ⟨b0 :: b1 :: b2 :: B, F2⟩ := Row1_lsa hgr (Lsa_fams hg rfl)
    obtain ⟨mm, hf⟩ := Row1_frz hgr
    obtain ⟨w', F', q1, q2⟩ := app_clsB (f := n_ref47_Environment) rfl (C0 ++ C) [⟨mm, T.kids.map attF, attF T⟩] w7 _ hgo (by simp only [List.length_append, List.length_cons, List.length_nil]; omega)
    have hfz : ∀ Bx, frz ⟨Bx, F2⟩ false (.agg [w, .int .i64 (attF T).kind, .int .i64 (attF T).goal, sl (attF T).fm 4 (tmVs (attF T).terms)]) = some (clV ⟨mm, T.kids.map attF, attF T⟩) := fun Bx => by
      have h0 := hf Bx false
      simp only [frz, frzL, h0]
      show some (AV.agg [sl mm 3 (T.kids.map fun t => faV (attF t)), .int .i64 (attF T).kind, .int .i64 (attF T).goal, sl (attF T).fm 4 (tmVs (attF T).terms)]) = _
      simp [clV, Function.comp_def]
    have e3 := e2 _ (erC_att mm T.kids T)
    have d1 := Row1_cells hgr
    have g1 : ∀ X Y Z, (b0 :: b1 :: b2 :: B ++ X :: Y :: Z)[(b0 :: b1 :: b2 :: B).length + 1]? = some Y := fun X Y Z => at1 _ X Y Z
    generalize (⟨mm, T.kids.map attF, attF T⟩ : Cl) = c at *
    simp only [List.map_cons, List.map_nil] at q1
    rw [List.append_assoc] at q2
    simp only [List.length_cons, List.cons_append] at g1 z11
    simp [hl2, z7, z8, z9, z11, g1, hfz, q1, d1.1, d1.2.1, hwp]
    exact ⟨n - 1, by omega, hJ _ _ _ ⟨i + 1, by omega, by simp [hl2], _, C ++ [c], rfl, Lsa_at7 (by simp [hl2]) (q2 _), e3⟩⟩
  · obtain ⟨B, C, hB, hg, hC1⟩ := hr
    rw [List.take_of_length_le (by omega)] at hC1
    simp [x_ref47_Environment_3, hl1, k8, k9, hlt]
    exact hΦ _ _ _ ⟨rfl, B, C, hB, by simpa [hl1] using hg, hC1⟩
theorem cE_m (m m' : Bool × Bool) (b : ByteArray) (l : List Tm) : cE [] (apT m b l) = cE [] (apT m' b l) := by
  simp [cE, erF, attF, erT]
def hdC (t : Tm) : Cl := ⟨(true, false), [], attF t⟩
theorem erC_hd (t : Tm) : erC (hdC t) = cE [] t := erC_att (true, false) [] t
theorem agg_head (h : AH) (T : Tm) : frz h false (.agg [.vs true 0 [], .int .i64 (attF T).kind, .int .i64 (attF T).goal, sl (attF T).fm 4 (tmVs (attF T).terms)]) = some (clV (hdC T)) := rfl
theorem loop_renv1 (m : Bool × Bool) (l : List (ByteArray × Tm)) (hlen : l.length ≤ 1000) (hp : ∀ p ∈ l, pc Q n_ref47_parse [.str p.1] = some (tmV p.2)) (A : List (List AV)) (C0 : List Cl) (hC : C0.length ≤ 1000) (fr : Fr) (h : AH) (hbx : h.boxes = A) (hg0 : Lsa false 4 (C0.map clV) (look fr 7) h) (hl : fr.length = 151) (h13 : look fr 13 = sl m 1 (l.map fun p => .str p.1)) (h14 : look fr 14 = .int .i64 0) :
    Ends (lp (evalCode (lim Q) (ctxF n_ref47_Environment) x_ref47_Environment_1) (fr, h)) fun e fr' h' => Kp x_ref47_Environment_1.wr fr fr' ∧ e = .exit 4 ∧ ∃ (C : List Cl), h'.boxes = A ∧ Lsa false 4 ((C0 ++ C).map clV) (look fr' 7) h' ∧ C.map erC = l.map fun p => cE [] p.2 := by
  refine Ends_lpw rfl fr (fun n fr h' => ∃ (i : Nat), i + n = l.length ∧ look fr 14 = .int .i64 (i : Nat) ∧ (∃ (C : List Cl), h'.boxes = A ∧ Lsa false 4 ((C0 ++ C).map clV) (look fr 7) h' ∧ C.map erC = (l.take i).map fun p => cE [] p.2)) ?_ l.length h ⟨0, by omega, h14, ⟨[], hbx, by simpa using hg0, rfl⟩⟩
  rintro J Φ hJ hΦ n fr1 H1 K ⟨i, hi, k14, hr⟩
  have hl1 : fr1.length = 151 := K.1.trans hl
  have k13 := (K.2 13 (by decide)).trans h13
  clear K
  by_cases hlt : i < l.length
  · have hwp : IntKind.i64.wrap ((i : Int) + 1) = (i : Int) + 1 := wrap_id (by omega) (by omega)
    obtain ⟨C, hB, hg, hC1⟩ := hr
    obtain ⟨bx, F⟩ := H1
    simp only at hB
    subst hB
    have hx := nth_map (f := fun p : ByteArray × Tm => AV.str p.1) (List.getElem?_eq_getElem hlt)
    have hP := hp l[i] (List.getElem_mem hlt)
    have hCl : C.length = i := by
      have := congrArg List.length hC1
      simpa [Nat.min_eq_left (Nat.le_of_lt hlt)] using this
    have e2 : (C ++ [hdC l[i].2]).map erC = (l.take (i + 1)).map fun p => cE [] p.2 := by
      rw [List.take_succ_eq_append_getElem hlt, List.map_append, hC1, List.map_append, List.map_cons, List.map_nil, List.map_cons, List.map_nil, erC_hd]
    obtain ⟨w', F', q1, q2⟩ := app_clsB (f := n_ref47_Environment) rfl (C0 ++ C) [hdC l[i].2] (look fr1 7) _ hg (by simp only [List.length_append, List.length_cons, List.length_nil]; omega)
    have hA := pc_refAtt l[i].2
    have hz := fun h => agg_head h l[i].2
    have c1 := Lsa_cells hg
    generalize hdC l[i].2 = c at *
    generalize l[i] = p at *
    obtain ⟨s, T⟩ := p
    simp only at hP hA hx hz
    rw [List.append_assoc] at q2
    simp only [List.map_cons, List.map_nil] at q1
    generalize hw7 : look fr1 7 = w7 at *
    simp [x_ref47_Environment_1, hl1, k13, k14, hlt, hwp, hx, hP, hA, hz, hw7, q1, c1.1, c1.2.1]
    exact ⟨n - 1, by omega, hJ _ _ _ ⟨i + 1, by omega, by simp [hl1], C ++ [c], rfl, Lsa_at7 (by simp [hl1]) (q2 _), e2⟩⟩
  · obtain ⟨C, hB, hg, hC1⟩ := hr
    rw [List.take_of_length_le (by omega)] at hC1
    simp [x_ref47_Environment_1, hl1, k13, k14, hlt]
    exact hΦ _ _ _ ⟨rfl, C, hB, by simpa [hl1] using hg, hC1⟩
theorem loop_renv0 (m : Bool × Bool) (l : List ByteArray) (hlen : l.length ≤ 8388608) (x0 : AV) (A : List (List AV)) (W : Tm) (C0 : List Cl) (hC : C0.length ≤ 1000) (fr : Fr) (h : AH) (B0 : List (List AV)) (hbx : h.boxes = [x0, sl m 1 (l.map .str)] :: (A ++ (tmV W).cells :: B0)) (hg0 : Lsa false 4 (C0.map clV) (look fr 7) h) (hl : fr.length = 151) (h1 : look fr 1 = .ptr 0 0) (h15 : look fr 15 = .ptr (A.length + 1) 0) (h16 : look fr 16 = .int .i64 0) :
    Ends (lp (evalCode (lim Q) (ctxF n_ref47_Environment) x_ref47_Environment_0) (fr, h)) fun e fr' h' => Kp x_ref47_Environment_0.wr fr fr' ∧ e = .exit 6 ∧ ∃ (B : List (List AV)) (C : List Cl), Lsa false 4 ((C0 ++ C).map clV) (look fr' 7) h' ∧ C.map erC = l.flatMap (badC W) := by
  refine Ends_lpw rfl fr (fun n fr h' => ∃ (i : Nat), i + n = l.length ∧ look fr 16 = .int .i64 (i : Nat) ∧ (∃ (B : List (List AV)) (C : List Cl), h'.boxes = [x0, sl m 1 (l.map .str)] :: (A ++ (tmV W).cells :: B) ∧ Lsa false 4 ((C0 ++ C).map clV) (look fr 7) h' ∧ C.map erC = (l.take i).flatMap (badC W) ∧ C.length = 3 * i)) ?_ l.length h ⟨0, by omega, h16, ⟨B0, [], hbx, by simpa using hg0, by simp, rfl⟩⟩
  rintro J Φ hJ hΦ n fr1 H1 K ⟨i, hi, k16, hr⟩
  have hl1 : fr1.length = 151 := K.1.trans hl
  have k1 := (K.2 1 (by decide)).trans h1
  have k15 := (K.2 15 (by decide)).trans h15
  clear K
  by_cases hlt : i < l.length
  · have hwp : IntKind.i64.wrap ((i : Int) + 1) = (i : Int) + 1 := wrap_id (by omega) (by omega)
    obtain ⟨B, C, hB, hg, hC1, hC2⟩ := hr
    obtain ⟨bx, F⟩ := H1
    simp only at hB
    subst hB
    have hx := nth_map (f := AV.str) (List.getElem?_eq_getElem hlt)
    obtain ⟨G, hGe⟩ : ∃ G, G = atT l[i] 1 := ⟨_, rfl⟩
    have hG : pc Q n_ref15_Agent [.str l[i]] = some (tmV G) := by rw [hGe]; exact pc_refAgent _
    obtain ⟨m1, h1⟩ := pc_refApp (bs [115, 107]) (true, true) [G] (by simp)
    obtain ⟨m2, h2⟩ := pc_refApp (bs [115, 104, 107]) (true, true) [G, W] (by simp)
    obtain ⟨m3, h3⟩ := pc_refApp (bs [115, 104, 107]) (true, true) [W, G] (by simp)
    have e2 : (C ++ [hdC (apT m1 (bs [115, 107]) [G]), hdC (apT m2 (bs [115, 104, 107]) [G, W]), hdC (apT m3 (bs [115, 104, 107]) [W, G])]).map erC = (l.take (i + 1)).flatMap (badC W) := by
      rw [List.take_succ_eq_append_getElem hlt, List.flatMap_append, List.map_append, hC1, List.flatMap_singleton]
      simp only [List.map_cons, List.map_nil, erC_hd, badC, ← hGe]
      rw [cE_m m1 (true, true), cE_m m2 (true, true), cE_m m3 (true, true)]
    have h1 : pc Q n_ref01_App [.str (bs [115, 107]), sl (true, true) 4 [tmV G]] = some (tmV (apT m1 (bs [115, 107]) [G])) := h1
    have h2 : pc Q n_ref01_App [.str (bs [115, 104, 107]), sl (true, true) 4 [tmV G, tmV W]] = some (tmV (apT m2 (bs [115, 104, 107]) [G, W])) := h2
    have h3 : pc Q n_ref01_App [.str (bs [115, 104, 107]), sl (true, true) 4 [tmV W, tmV G]] = some (tmV (apT m3 (bs [115, 104, 107]) [W, G])) := h3
    clear hGe
    generalize apT m1 (bs [115, 107]) [G] = S1 at *
    generalize apT m2 (bs [115, 104, 107]) [G, W] = S2 at *
    generalize apT m3 (bs [115, 104, 107]) [W, G] = S3 at *
    obtain ⟨w', F', q1, q2⟩ := app_clsB (f := n_ref47_Environment) rfl (C0 ++ C) [hdC S1, hdC S2, hdC S3] (look fr1 7) _ hg (by simp only [List.length_append, List.length_cons, List.length_nil]; omega)
    have a1 := pc_refAtt S1
    have a2 := pc_refAtt S2
    have a3 := pc_refAtt S3
    have z1 := fun h => agg_head h S1
    have z2 := fun h => agg_head h S2
    have z3 := fun h => agg_head h S3
    generalize hdC S1 = d1 at *
    generalize hdC S2 = d2 at *
    generalize hdC S3 = d3 at *
    have c1 := Lsa_cells hg
    rw [List.append_assoc] at q2
    simp only [List.map_cons, List.map_nil] at q1
    have hlm : (l.map AV.str).length = l.length := by simp
    generalize l[i] = b at *
    generalize hw7 : look fr1 7 = w7 at *
    simp [x_ref47_Environment_0, hl1, k1, k15, k16, hlt, hwp, hx, hG, h1, h2, h3, a1, a2, a3, z1, z2, z3, at0, hw7, q1, c1.1, c1.2.1]
    exact ⟨n - 1, by omega, hJ _ _ _ ⟨i + 1, by omega, by simp [hl1], B ++ [(tmV G).cells], C ++ [d1, d2, d3], by simp, Lsa_at7 (by simp [hl1]) (q2 _), e2, by simp; omega⟩⟩
  · obtain ⟨B, C, hB, hg, hC1, hC2⟩ := hr
    obtain ⟨bx, F⟩ := H1
    simp only at hB
    subst hB
    rw [List.take_of_length_le (by omega)] at hC1
    simp [x_ref47_Environment_0, hl1, k1, k15, k16, hlt]
    exact hΦ _ _ _ ⟨rfl, B, C, by simpa [hl1] using hg, hC1⟩
def txt1 : List (ByteArray × Tm) := [(bs [112, 97, 105, 114, 40, 63, 120, 44, 32, 63, 121, 41], apT (false, false) (bs [112, 97, 105, 114]) [vaX, vaY]), (bs [101, 110, 99, 40, 63, 120, 44, 32, 63, 121, 41], apT (false, false) (bs [101, 110, 99]) [vaX, vaY]), (bs [97, 101, 110, 99, 40, 63, 120, 44, 32, 63, 121, 41], apT (false, false) (bs [97, 101, 110, 99]) [vaX, vaY]), (bs [112, 107, 40, 63, 120, 41], apT (false, false) (bs [112, 107]) [vaX]), (bs [115, 105, 103, 110, 40, 63, 120, 44, 32, 63, 121, 41], apT (false, false) (bs [115, 105, 103, 110]) [vaX, vaY]), (bs [104, 97, 115, 104, 40, 63, 120, 41], apT (false, false) (bs [104, 97, 115, 104]) [vaX])]
def txt3 : List (ByteArray × Tm) := [(bs [63, 120, 58, 97, 103, 101, 110, 116], vaW), (bs [63, 120, 58, 116, 97, 103], vaT (bs [120]) 5), (bs [103, 58, 100, 97, 116, 97], atT (bs [103]) 4), (bs [110, 101, 119, 40, 111, 119, 110, 58, 97, 110, 121, 44, 32, 63, 120, 41], apT (false, false) (bs [110, 101, 119]) [atT (bs [111, 119, 110]) 0, vaX]), (bs [112, 107, 40, 115, 107, 40, 63, 120, 58, 97, 103, 101, 110, 116, 41, 41], apT (false, false) (bs [112, 107]) [apT (false, false) (bs [115, 107]) [vaW]])]
theorem txt1_ok : ∀ p ∈ txt1, pc Q n_ref47_parse [.str p.1] = some (tmV p.2) := by
  intro p hp
  simp only [txt1, List.mem_cons, List.not_mem_nil, or_false] at hp
  rcases hp with rfl | rfl | rfl | rfl | rfl | rfl
  · exact pa_pair
  · exact pa_enc
  · exact pa_aenc
  · exact pa_pk
  · exact pa_sign
  · exact pa_hash
theorem txt3_ok : ∀ p ∈ txt3, pc Q n_ref47_parse [.str p.1] = some (tmV p.2) := by
  intro p hp
  simp only [txt3, List.mem_cons, List.not_mem_nil, or_false] at hp
  rcases hp with rfl | rfl | rfl | rfl | rfl
  · exact pa_who
  · exact pa_tag
  · exact pa_g
  · exact pa_own
  · exact pa_psk
theorem txt1_kids : ∀ p ∈ txt1, p.2.kids.length ≤ 1000 := by
  intro p hp
  simp only [txt1, List.mem_cons, List.not_mem_nil, or_false] at hp
  rcases hp with rfl | rfl | rfl | rfl | rfl | rfl <;> simp [Tm.kids]
theorem txt1_eq : (txt1.map fun p => cE p.2.kids p.2) = env1.map fun t => cE t.kids t := rfl
theorem txt3_eq : (txt3.map fun p => cE [] p.2) = env3.map fun t => cE [] t := rfl
def bdC (l : List Fa) (t : Tm) : Cl := ⟨(true, true), l, attF t⟩
theorem agg_bd (h : AH) (l : List Fa) (T : Tm) : frz h false (.agg [sl (true, true) 3 (l.map faV), .int .i64 (attF T).kind, .int .i64 (attF T).goal, sl (attF T).fm 4 (tmVs (attF T).terms)]) = some (clV (bdC l T)) := rfl
set_option maxHeartbeats 4000000 in
theorem pc_refEnvironment (ma mb : Bool × Bool) (ag bad : List ByteArray) (hag : ag.length ≤ 1048576) (hbad : bad.length ≤ 1048576) (hsz : ∀ a ∈ ag, a.size ≤ 1099511627776) : ∃ r, pc Q n_ref47_Environment [castV ma mb ag bad] = some r ∧
    ((validC ag bad ≠ 0 ∧ r = .tup [.vs true 0 [], .int .i64 (validC ag bad)]) ∨ (validC ag bad = 0 ∧ ∃ (m : Bool × Bool) (C : List Cl), r = .tup [sl m 4 (C.map clV), .int .i64 0] ∧ C.map erC = envL bad)) := by
  have hV := pc_refValid ma mb ag bad (by omega) (by omega) hsz
  by_cases hv : validC ag bad = 0
  rotate_left
  · refine pc_ends_ex (C := Q) ((Q_spec _).trans rfl) ((Q_code _).trans res_ref47_Environment) (by simp [x_ref47_Environment]) fun Ψ hΨ fr hl ha => ?_
    rw [Q_ctx]
    have h0 := ha 0
    clear ha
    simp [x_ref47_Environment, castV, strsV] at hl h0
    simp only [castV, strsV] at hV
    generalize validC ag bad = v at *
    simp [x_ref47_Environment, hl, h0, hV, hv]
    exact hΨ _ (.inl ⟨hv, rfl⟩)
  · rw [hv] at hV
    obtain ⟨X, hXe⟩ : ∃ X, X = vaX := ⟨_, rfl⟩
    obtain ⟨Y, hYe⟩ : ∃ Y, Y = vaY := ⟨_, rfl⟩
    obtain ⟨W, hWe⟩ : ∃ W, W = vaW := ⟨_, rfl⟩
    have pX := pa_x
    have pY := pa_y
    have pW := pa_who
    rw [← hXe] at pX
    rw [← hYe] at pY
    rw [← hWe] at pW
    obtain ⟨P1, hP1⟩ : ∃ P, P = apT (false, false) (bs [112, 97, 105, 114]) [vaX, vaY] := ⟨_, rfl⟩
    obtain ⟨P2, hP2⟩ : ∃ P, P = apT (false, false) (bs [101, 110, 99]) [vaX, vaY] := ⟨_, rfl⟩
    obtain ⟨P8, hP8⟩ : ∃ P, P = apT (false, false) (bs [97, 101, 110, 99]) [vaX, apT (false, false) (bs [112, 107]) [vaY]] := ⟨_, rfl⟩
    obtain ⟨P5, hP5⟩ : ∃ P, P = apT (false, false) (bs [115, 105, 103, 110]) [vaX, vaY] := ⟨_, rfl⟩
    have p1 := pa_pair
    have p2 := pa_enc
    have p8 := pa_apk
    have p5 := pa_sign
    rw [← hP1] at p1
    rw [← hP2] at p2
    rw [← hP8] at p8
    rw [← hP5] at p5
    have aX := pc_refAtt X
    have aY := pc_refAtt Y
    have a1 := pc_refAtt P1
    have a2 := pc_refAtt P2
    have a8 := pc_refAtt P8
    have a5 := pc_refAtt P5
    have hL2 : [bdC [attF P1] X, bdC [attF P1] Y, bdC [attF P2, attF Y] X, bdC [attF P8, attF Y] X, bdC [attF P5] X].map erC = env2 := by
      rw [hP1, hP2, hP5, hP8, hXe, hYe]; rfl
    have z1 := fun h => agg_bd h [attF P1] X
    have z2 := fun h => agg_bd h [attF P1] Y
    have z3 := fun h => agg_bd h [attF P2, attF Y] X
    have z4 := fun h => agg_bd h [attF P8, attF Y] X
    have z5 := fun h => agg_bd h [attF P5] X
    simp only [List.map_cons, List.map_nil] at z1 z2 z3 z4 z5
    generalize bdC [attF P1] X = d1 at *
    generalize bdC [attF P1] Y = d2 at *
    generalize bdC [attF P2, attF Y] X = d3 at *
    generalize bdC [attF P8, attF Y] X = d4 at *
    generalize bdC [attF P5] X = d5 at *
    clear hP1 hP2 hP5 hP8 hXe hYe
    refine pc_ends_ex (C := Q) ((Q_spec _).trans rfl) ((Q_code _).trans res_ref47_Environment) (by simp [x_ref47_Environment]) fun Ψ hΨ fr hl ha => ?_
    rw [Q_ctx]
    have h0 := ha 0
    clear ha
    simp [x_ref47_Environment, castV, strsV] at hl h0
    simp only [castV, strsV] at hV
    simp [x_ref47_Environment, hl, h0, hV, pX, pY]
    refine Ends.mono (loop_renv3 (true, true) txt1 (by simp [txt1]) txt1_ok txt1_kids _ _ _ [] (by simp) _ _ [] rfl ?_ ?_ ?_ ?_) ?_ <;> first | (simp [hl]; done) | (simp [hl]; rfl) | (exact Lsa_at7 (by simp [hl]) (Lsa_nil _ _ _)) | skip
    rintro e fr1 ⟨bx, F⟩ ⟨K, rfl, B, C, hB, hg, hC1⟩
    simp only at hB
    subst hB
    have hlfr1 : fr1.length = 151 := K.1.trans (by simp [hl])
    have k1fr1 : look fr1 1 = .ptr 0 0 := (K.2 1 (by decide)).trans (by simp [hl])
    have k5fr1 : look fr1 5 = .ptr 1 0 := (K.2 5 (by decide)).trans (by simp [hl])
    have k6fr1 : look fr1 6 = .ptr 2 0 := (K.2 6 (by decide)).trans (by simp [hl])
    clear K
    have hCl : C.length = 6 := by
      have := congrArg List.length hC1
      simpa [txt1] using this
    obtain ⟨w', F', q1, q2⟩ := app_clsB (f := n_ref47_Environment) rfl C [d1, d2, d3, d4, d5] (look fr1 7) _ hg (by simp only [List.length_cons, List.length_nil]; omega)
    obtain ⟨c1, c2, c3, c4⟩ := Lsa_cells hg
    simp only [List.map_cons, List.map_nil] at q1
    generalize hw7 : look fr1 7 = w7 at *
    simp [hlfr1, k1fr1, k5fr1, k6fr1, hw7, p1, p2, p5, p8, aX, aY, a1, a2, a5, a8, z1, z2, z3, z4, z5, q1, c1, c2, c3, c4]
    refine Ends.mono (loop_renv1 (true, true) txt3 (by simp [txt3]) txt3_ok _ (C ++ [d1, d2, d3, d4, d5]) (by simp [hCl]) _ _ rfl ?_ ?_ ?_ ?_) ?_ <;> first | (simp [hlfr1]; done) | (simp [hlfr1]; rfl) | (exact Lsa_at7 (by simp [hlfr1]) (q2 _)) | skip
    rintro e fr2 ⟨bx, F2⟩ ⟨K, rfl, C2, hB, hg2, hC2⟩
    simp only at hB
    subst hB
    have hlfr2 : fr2.length = 151 := K.1.trans (by simp [hlfr1])
    have k1fr2 : look fr2 1 = .ptr 0 0 := (K.2 1 (by decide)).trans (by simp [hlfr1, k1fr1])
    clear K
    have hCl2 : C2.length = 5 := by
      have := congrArg List.length hC2
      simpa [txt3] using this
    have g2 := Lsa_cells hg2
    generalize hw8 : look fr2 7 = w8 at *
    simp [hlfr2, k1fr2, hw8, pW, g2.1, g2.2.1]
    refine Ends.mono (loop_renv0 mb bad (by omega) (sl ma 1 (ag.map AV.str)) ((tmV X).cells :: (tmV Y).cells :: B) W (C ++ [d1, d2, d3, d4, d5] ++ C2) (by simp [hCl, hCl2]) _ _ [] (by simp) ?_ ?_ ?_ ?_ ?_) ?_ <;> first | (simp [hlfr2, k1fr2]; done) | (exact Lsa_at7 (by simp [hlfr2]; exact hw8) (Lsa_fams hg2 rfl)) | skip
    rintro e fr3 ⟨bx, F3⟩ ⟨K, rfl, B3, C3, hg3, hC3⟩
    have hlfr3 : fr3.length = 151 := K.1.trans (by simp [hlfr2])
    obtain ⟨mm, hf⟩ := Lsa_frz hg3
    have hf := fun B => (hf B).2
    generalize hw9 : look fr3 7 = w9 at *
    simp [hlfr3, hw9, frzRes, frzAll, hf]
    refine hΨ _ (.inr ⟨hv, mm, C ++ [d1, d2, d3, d4, d5] ++ C2 ++ C3, by simp, ?_⟩)
    rw [List.map_append, List.map_append, List.map_append, hC1, hC2, hC3, hL2, txt1_eq, txt3_eq, hWe]
    simp [envL]
theorem pc_numEq (a : Int) : pc Q n_ref44_number [.int .i64 a, .int .i64 a] = some (.int .i64 0) := by
  refine pcQ res_ref44_number rfl (by simp [x_ref44_number]) fun fr hl ha => ?_
  have h0 := ha 0
  have h1 := ha 1
  clear ha
  simp [x_ref44_number] at hl h0 h1
  simp [x_ref44_number, hl, h0, h1]
def okF (f : Fa) : Prop := ∀ t ∈ f.terms, t.size ≤ 1000
def okC (c : Cl) : Prop := (∀ f ∈ c.body, okF f) ∧ okF c.head
theorem er_size1 (t : Tm) : (erT t).size = t.size := er_size _ t (Nat.le_refl _)
theorem okF_er {f : Fa} (h : okF (erF f)) : okF f := by
  intro t ht
  have := h (erT t) (List.mem_map_of_mem ht)
  rwa [er_size1] at this
theorem okC_er {c : Cl} (h : okC (erC c)) : okC c := ⟨fun f hf => okF_er (h.1 _ (List.mem_map_of_mem hf)), okF_er h.2⟩
theorem loop_facts (f g : Fa) (l l' : List Tm) (hf : f.terms = l) (hg : g.terms = l') (hlen : l.length ≤ 1000000000) (hll : l'.length = l.length) (he : ∀ i (h : i < l.length), erT l[i] = erT (l'[i]'(by omega))) (ho : ∀ t ∈ l, t.size ≤ 1000) (fr : Fr) (h : AH) (hh : h.boxes = [(faV f).cells, (faV g).cells]) (hl : fr.length = 57) (h2 : look fr 2 = .ptr 0 0) (h3 : look fr 3 = .ptr 1 0) (h8 : look fr 8 = .int .i64 0) :
    Ends (lp (evalCode (lim Q) (ctxF n_ref44_Facts) x_ref44_Facts_0) (fr, h)) fun e fr' h' => Kp x_ref44_Facts_0.wr fr fr' ∧ e = .exit 0 := by
  refine Ends_lpw rfl fr (fun n fr h' => ∃ (i : Nat), i + n = l.length ∧ look fr 8 = .int .i64 (i : Nat) ∧ h'.boxes = [(faV f).cells, (faV g).cells]) ?_ l.length h ⟨0, by omega, h8, hh⟩
  rintro J Φ hJ hΦ n fr1 H1 K ⟨i, hi, k8, hr⟩
  have hl1 : fr1.length = 57 := K.1.trans hl
  have k2 := (K.2 2 (by decide)).trans h2
  have k3 := (K.2 3 (by decide)).trans h3
  clear K
  by_cases hlt : i < l.length
  · have hwp : IntKind.i64.wrap ((i : Int) + 1) = (i : Int) + 1 := wrap_id (by omega) (by omega)
    obtain ⟨bx, F⟩ := H1
    simp only at hr
    subst hr
    have hx : nth (tmVs l) i = some (tmV l[i]) := nth_tmVs (by simp [hlt])
    have hx' : nth (tmVs l') i = some (tmV (l'[i]'(by omega))) := nth_tmVs (by simp [show i < l'.length by omega])
    have hE := he i hlt
    have h1 := ho _ (List.getElem_mem hlt)
    have h2 : (l'[i]'(by omega)).size ≤ 1000 := by rw [← er_size1, ← hE, er_size1]; exact h1
    have hC := pc_refCompare _ l[i] (l'[i]'(by omega)) (Nat.le_refl _) (by omega) (by omega)
    rw [cmpT_iff.2 hE] at hC
    have hlen2 : (tmVs l).length = l.length := by rw [tmVs_map, List.length_map]
    clear hE h1 h2 he
    generalize l[i] = t at *
    generalize l'[i]'(by omega) = t' at *
    simp [x_ref44_Facts_0, hl1, k2, k3, k8, hlt, hwp, hf, hg, hx, hx', hC, hlen2]
    exact ⟨n - 1, by omega, hJ _ _ _ ⟨i + 1, by omega, by simp [hl1], by simp [hf, hg]⟩⟩
  · obtain ⟨bx, F⟩ := H1
    simp only at hr
    subst hr
    have hlen2 : (tmVs l).length = l.length := by rw [tmVs_map, List.length_map]
    simp [x_ref44_Facts_0, hl1, k2, k3, k8, hlt, hf, hg, hlen2]
    exact hΦ _ _ _ rfl
theorem pc_facts (f g : Fa) (he : erF f = erF g) (ho : okF f) (hlen : f.terms.length ≤ 1000000000) : pc Q n_ref44_Facts [faV f, faV g] = some (.int .i64 0) := by
  have h1 : f.kind = g.kind := by have := congrArg Fa.kind he; exact this
  have h2 : f.goal = g.goal := by have := congrArg Fa.goal he; exact this
  have h3 : f.terms.map erT = g.terms.map erT := by have := congrArg Fa.terms he; exact this
  have h4 : g.terms.length = f.terms.length := by simpa using (congrArg List.length h3).symm
  have hE : ∀ i (h : i < f.terms.length), erT f.terms[i] = erT (g.terms[i]'(by omega)) := fun i h => by
    have := congrArg (fun l => l[i]?) h3
    simpa [List.getElem?_eq_getElem h, List.getElem?_eq_getElem (show i < g.terms.length by omega)] using this
  have n1 := pc_numEq f.kind
  have n2 := pc_numEq f.goal
  have n3 := pc_numEq f.terms.length
  have l1 : (tmVs f.terms).length = f.terms.length := by rw [tmVs_map, List.length_map]
  have l2 : (tmVs g.terms).length = f.terms.length := by rw [tmVs_map, List.length_map, h4]
  have hlp := loop_facts f g f.terms g.terms rfl rfl hlen h4 hE ho
  refine pcQ res_ref44_Facts rfl (by simp [x_ref44_Facts]) fun fr hl ha => ?_
  have h0 := ha 0
  have h5 := ha 1
  clear ha
  simp [x_ref44_Facts] at hl h0 h5
  simp [x_ref44_Facts, hl, h0, h5, ← h1, ← h2, n1, n2, n3, l1, l2]
  refine (hlp _ _ ?_ ?_ ?_ ?_ ?_).mono ?_ <;> first | (simp [hl]; done) | (simp [← h1, ← h2]; done) | skip
  rintro e fr1 h' ⟨K, rfl⟩
  have hl1 : fr1.length = 57 := K.1.trans (by simp [hl])
  simp [hl1]
theorem loop_cmp (c d : Cl) (l l' : List Fa) (hc : c.body = l) (hd : d.body = l') (hlen : l.length ≤ 1000000000) (hll : l'.length = l.length) (he : ∀ i (h : i < l.length), erF l[i] = erF (l'[i]'(by omega))) (ho : ∀ f ∈ l, okF f) (hs : ∀ f ∈ l, f.terms.length ≤ 1000000000) (fr : Fr) (h : AH) (hh : h.boxes = [(clV c).cells, (clV d).cells]) (hl : fr.length = 48) (h2 : look fr 2 = .ptr 0 0) (h3 : look fr 3 = .ptr 1 0) (h7 : look fr 7 = .int .i64 0) :
    Ends (lp (evalCode (lim Q) (ctxF n_ref44_Compare) x_ref44_Compare_0) (fr, h)) fun e fr' h' => Kp x_ref44_Compare_0.wr fr fr' ∧ e = .exit 0 := by
  refine Ends_lpw rfl fr (fun n fr h' => ∃ (i : Nat), i + n = l.length ∧ look fr 7 = .int .i64 (i : Nat) ∧ h'.boxes = [(clV c).cells, (clV d).cells]) ?_ l.length h ⟨0, by omega, h7, hh⟩
  rintro J Φ hJ hΦ n fr1 H1 K ⟨i, hi, k7, hr⟩
  have hl1 : fr1.length = 48 := K.1.trans hl
  have k2 := (K.2 2 (by decide)).trans h2
  have k3 := (K.2 3 (by decide)).trans h3
  clear K
  by_cases hlt : i < l.length
  · have hwp : IntKind.i64.wrap ((i : Int) + 1) = (i : Int) + 1 := wrap_id (by omega) (by omega)
    obtain ⟨bx, F⟩ := H1
    simp only at hr
    subst hr
    have hx := nth_map (f := faV) (List.getElem?_eq_getElem hlt)
    have hx' := nth_map (f := faV) (List.getElem?_eq_getElem (show i < l'.length by omega))
    have hC := pc_facts _ _ (he i hlt) (ho _ (List.getElem_mem hlt)) (hs _ (List.getElem_mem hlt))
    have hlen2 : (l.map faV).length = l.length := by simp
    clear he
    generalize l[i] = t at *
    generalize l'[i]'(by omega) = t' at *
    simp [x_ref44_Compare_0, hl1, k2, k3, k7, hlt, hwp, hc, hd, hx, hx', hC]
    exact ⟨n - 1, by omega, hJ _ _ _ ⟨i + 1, by omega, by simp [hl1], by simp [hc, hd]⟩⟩
  · obtain ⟨bx, F⟩ := H1
    simp only at hr
    subst hr
    simp [x_ref44_Compare_0, hl1, k2, k3, k7, hlt, hc, hd]
    exact hΦ _ _ _ rfl
theorem pc_clause (c d : Cl) (he : erC c = erC d) (ho : okC c) (hlen : c.body.length ≤ 1000000000) (hs : ∀ f ∈ c.body, f.terms.length ≤ 1000000000) (hs2 : c.head.terms.length ≤ 1000000000) : pc Q n_ref44_Compare [clV c, clV d] = some (.int .i64 0) := by
  have h1 : erF c.head = erF d.head := by have := congrArg Cl.head he; exact this
  have h3 : c.body.map erF = d.body.map erF := by have := congrArg Cl.body he; exact this
  have h4 : d.body.length = c.body.length := by simpa using (congrArg List.length h3).symm
  have hE : ∀ i (h : i < c.body.length), erF c.body[i] = erF (d.body[i]'(by omega)) := fun i h => by
    have := congrArg (fun l => l[i]?) h3
    simpa [List.getElem?_eq_getElem h, List.getElem?_eq_getElem (show i < d.body.length by omega)] using this
  have n1 := pc_numEq c.body.length
  have n2 := pc_facts c.head d.head h1 ho.2 hs2
  have hlp := loop_cmp c d c.body d.body rfl rfl hlen h4 hE ho.1 hs
  refine pcQ res_ref44_Compare rfl (by simp [x_ref44_Compare]) fun fr hl ha => ?_
  have h0 := ha 0
  have h5 := ha 1
  clear ha
  simp [x_ref44_Compare] at hl h0 h5
  simp [x_ref44_Compare, hl, h0, h5, n1, n2, h4]
  refine (hlp _ _ ?_ ?_ ?_ ?_ ?_).mono ?_ <;> first | (simp [hl]; done) | skip
  rintro e fr1 h' ⟨K, rfl⟩
  have hl1 : fr1.length = 48 := K.1.trans (by simp [hl])
  simp [hl1]
theorem pc_sameC (c d : Cl) (he : erC c = erC d) (ho : okC c) (hlen : c.body.length ≤ 1000000000) (hs : ∀ f ∈ c.body, f.terms.length ≤ 1000000000) (hs2 : c.head.terms.length ≤ 1000000000) : pc Q n_ref44_Same [clV c, clV d] = some (.bool true) := by
  have hC := pc_clause c d he ho hlen hs hs2
  refine pcQ res_ref44_Same rfl (by simp [x_ref44_Same]) fun fr hl ha => ?_
  have h0 := ha 0
  have h1 := ha 1
  clear ha
  simp [x_ref44_Same] at hl h0 h1
  simp [x_ref44_Same, hl, h0, h1, hC]
structure SmC (c : Cl) : Prop where
  ok : okC c
  body : c.body.length ≤ 1000000000
  terms : ∀ f ∈ c.body, f.terms.length ≤ 1000000000
  head : c.head.terms.length ≤ 1000000000
theorem SmC_er {c : Cl} (h : SmC (erC c)) : SmC c := by
  refine ⟨okC_er h.ok, ?_, fun f hf => ?_, ?_⟩
  · have := h.body
    simpa [erC] using this
  · have := h.terms _ (List.mem_map_of_mem hf)
    simpa [erF] using this
  · have := h.head
    simpa [erC, erF] using this
theorem loop_sameCs (m m' : Bool × Bool) (C D : List Cl) (hlen : C.length ≤ 1000000000) (hll : D.length = C.length) (he : ∀ i (h : i < C.length), erC C[i] = erC (D[i]'(by omega))) (ho : ∀ c ∈ C, SmC c) (fr : Fr) (h : AH) (hl : fr.length = 27) (h0 : look fr 0 = sl m 4 (C.map clV)) (h1 : look fr 1 = sl m' 4 (D.map clV)) (h5 : look fr 5 = .int .i64 0) :
    Ends (lp (evalCode (lim Q) (ctxF n_ref47_SameClauses) x_ref47_SameClauses_0) (fr, h)) fun e fr' h' => Kp x_ref47_SameClauses_0.wr fr fr' ∧ e = .exit 0 := by
  refine Ends_lpw rfl fr (fun n fr h' => ∃ (i : Nat), i + n = C.length ∧ look fr 5 = .int .i64 (i : Nat) ∧ True) ?_ C.length h ⟨0, by omega, h5, trivial⟩
  rintro J Φ hJ hΦ n fr1 H1 K ⟨i, hi, k5, hr⟩
  have hl1 : fr1.length = 27 := K.1.trans hl
  have k0 := (K.2 0 (by decide)).trans h0
  have k1 := (K.2 1 (by decide)).trans h1
  clear K
  by_cases hlt : i < C.length
  · have hwp : IntKind.i64.wrap ((i : Int) + 1) = (i : Int) + 1 := wrap_id (by omega) (by omega)
    clear hr
    have hx := nth_map (f := clV) (List.getElem?_eq_getElem hlt)
    have hx' := nth_map (f := clV) (List.getElem?_eq_getElem (show i < D.length by omega))
    have hS := ho _ (List.getElem_mem hlt)
    have hC := pc_sameC _ _ (he i hlt) hS.ok hS.body hS.terms hS.head
    clear he hS ho
    generalize C[i] = t at *
    generalize D[i]'(by omega) = t' at *
    simp [x_ref47_SameClauses_0, hl1, k0, k1, k5, hlt, hwp, hx, hx', hC]
    exact ⟨n - 1, by omega, hJ _ _ _ ⟨i + 1, by omega, by simp [hl1], trivial⟩⟩
  · simp [x_ref47_SameClauses_0, hl1, k0, k1, k5, hlt]
    exact hΦ _ _ _ rfl
theorem pc_SameClauses (m m' : Bool × Bool) (C D : List Cl) (hlen : C.length ≤ 1000000000) (he : C.map erC = D.map erC) (ho : ∀ c ∈ C, SmC c) : pc Q n_ref47_SameClauses [sl m 4 (C.map clV), sl m' 4 (D.map clV)] = some (.bool true) := by
  have h4 : D.length = C.length := by simpa using (congrArg List.length he).symm
  have hE : ∀ i (h : i < C.length), erC C[i] = erC (D[i]'(by omega)) := fun i h => by
    have := congrArg (fun l => l[i]?) he
    simpa [List.getElem?_eq_getElem h, List.getElem?_eq_getElem (show i < D.length by omega)] using this
  have hlp := loop_sameCs m m' C D hlen h4 hE ho
  refine pcQ res_ref47_SameClauses rfl (by simp [x_ref47_SameClauses]) fun fr hl ha => ?_
  have h0 := ha 0
  have h5 := ha 1
  clear ha
  simp [x_ref47_SameClauses] at hl h0 h5
  simp [x_ref47_SameClauses, hl, h0, h5, h4]
  refine (hlp _ _ ?_ ?_ ?_ ?_).mono ?_ <;> first | (simp [hl, h0, h5]; done) | skip
  rintro e fr1 h' ⟨K, rfl⟩
  have hl1 : fr1.length = 27 := K.1.trans (by simp [hl])
  simp [hl1]
theorem pc_SameNil : pc Q n_ref47_SameClauses [.vs true 0 [], .vs true 0 []] = some (.bool true) := pc_SameClauses (true, false) (true, false) [] [] (by simp) rfl (by simp)
end Go.Abs.Q
set_option linter.unusedVariables false
namespace Go.Proofs
open Go.Shelf Go.RowKit
variable {P : Program} {ρ : Ren}
def Apart (T : TypeId) (b : Nat) (w w' : World) : Prop := ∀ k, k < w.heap.size → k ≠ b → (∀ cs fr, w.heap[k]? ≠ some (.cells cs T fr)) → w'.heap[k]? = w.heap[k]?
theorem setCell_other (w : World) (a : Addr) (v : Value) {k : Nat} (h : a.block ≠ k) : (w.setCell a v).heap[k]? = w.heap[k]? := by
  unfold World.setCell
  split <;> simp_all [Array.getElem?_modify]
theorem bldCC (L : Lays.n240 P ρ) (X : Builder.X72 P ρ) (B b : Nat) (bs : List Value) (w : World) (h : Lib.IsBuilder (ρ.t 72) (ρ.t 5) B b bs w) :
    Calls P (ρ.f 240) #[.pointer (some ⟨b, 0, none⟩)] w fun e w' => e = .returned (.tuple #[]) ∧ (Lib.BuilderAt (ρ.t 72) (ρ.t 5) B b (.pointer (some ⟨b, 0, none⟩)) bs w' ∧ Below B w w' ∧ Apart (ρ.t 5) b w w') := by
  rcases h with h | h
  · refine (Any.Builder_copyCheck_fresh L X b w h.cell0 h.shape h.frozen0).mono ?_
    rintro e w' ⟨rfl, rfl⟩
    exact ⟨rfl, h.used _, (Below.refl B w).setCell (p := ⟨b, 0, none⟩) h.1 _, fun k _ hk _ => setCell_other _ _ _ (Ne.symm hk)⟩
  · refine (Any.Builder_copyCheck_used L X b w h.cell0).mono ?_
    rintro e w' ⟨rfl, rfl⟩
    exact ⟨rfl, h, Below.refl B _, fun _ _ _ _ => rfl⟩
set_option maxHeartbeats 2000000 in
set_option maxRecDepth 100000 in
theorem bldWS (L : Lays.n166 P ρ) (X : Builder.Extra P ρ) (B b : Nat) (bs : List Value) (s : ByteArray) (w : World) (h : Lib.IsBuilder (ρ.t 72) (ρ.t 5) B b bs w) (hlen : bs.length + s.size ≤ 140737488355328) (hBw : B ≤ w.heap.size) :
    Calls P (ρ.f 166) #[.pointer (some ⟨b, 0, none⟩), .string s] w fun e w' => e = .returned (.tuple #[.int .i64 s.size, .nilIface]) ∧ (Lib.BuilderAt (ρ.t 72) (ρ.t 5) B b (.pointer (some ⟨b, 0, none⟩)) (bs ++ Lib.strCells s) w' ∧ Below B w w' ∧ Apart (ρ.t 5) b w w') := by
  obtain ⟨i0, hi, hz0, hz1, hz2⟩ := info_parts X.infoByte
  have mixed := L.mixed
  have t72 := L.t72; have a72 := L.a72; have z72 := L.z72; have v72 := L.v72; have u72 := run_underlying L.t72
  have t70 := L.t70; have a70 := L.a70; have z70 := L.z70; have v70 := L.v70; have u70 := run_underlying L.t70
  have t37 := L.t37; have a37 := L.a37; have z37 := L.z37; have v37 := L.v37; have u37 := run_underlying L.t37
  have t3 := L.t3; have a3 := L.a3; have z3 := L.z3; have v3 := L.v3; have u3 := run_underlying L.t3
  have t9 := L.t9; have a9 := L.a9; have z9 := L.z9; have v9 := L.v9; have u9 := run_underlying L.t9
  have t4 := L.t4; have a4 := L.a4; have z4 := L.z4; have v4 := L.v4; have u4 := run_underlying L.t4
  have t164 := L.t164; have a164 := L.a164; have z164 := L.z164; have v164 := L.v164; have u164 := run_underlying L.t164
  have t5 := X.t5; have a5 := X.a5; have z5 := X.z5; have v5 := X.v5; have u5 := run_underlying X.t5
  have e240 : ∀ args w, (callFunc (ρ.f 240) args).run P w = .ok (.enter (ρ.f 240) args) w := enters_of L.f240 (by kernel_rfl) rfl
  go_enter L.f166, Body.n166_ntmps ρ
  go_wp2_with (go_at_fn (ρ.f 240); refine (bldCC { L with } X.toX72 B b bs _ h).mono ?_)
  rintro e w1 ⟨rfl, h1, hb1, hap⟩
  obtain ⟨hB, v, hbk, hown, hne⟩ := h1
  have c0 : w1.cell? ⟨b, 0, none⟩ = some (.pointer (some ⟨b, 0, none⟩)) := by rw [Lib.cell_of_heap hbk]; rfl
  have c1 : w1.cell? ⟨b, 1, none⟩ = some v := by rw [Lib.cell_of_heap hbk]; rfl
  go_wp2_with (at_builtin; refine Lib.wpList_append_own_string _ rfl _ _ (ρ.t 37) (ρ.t 9) rfl B (ρ.t 5) i0 L.t37 L.t9 hi hz0 hz1 hz2 _ _ _ rfl hown s rfl ?c3 ?c4 ?c5 ?_)
  case c3 => unfold maxLen; omega
  case c4 => omega
  case c5 => have := hb1.size; omega
  intro v' w2 hown' hgrow _
  have hlt : b < w1.heap.size := by
    rcases Nat.lt_or_ge b w1.heap.size with h' | h'
    · exact h'
    · simp [Array.getElem?_eq_none h'] at hbk
  have hb2 : w2.heap[b]? = some (.cells #[.pointer (some ⟨b, 0, none⟩), v] (ρ.t 72) (0, 0)) := by
    rw [hgrow.block b hlt (fun e => hne e.symm)]
    exact hbk
  have d0 : w2.cell? ⟨b, 0, none⟩ = some (.pointer (some ⟨b, 0, none⟩)) := by rw [Lib.cell_of_heap hb2]; rfl
  have d1 : w2.cell? ⟨b, 1, none⟩ = some v := by rw [Lib.cell_of_heap hb2]; rfl
  have f1 : w2.frozen? ⟨b, 1, none⟩ = false := Lib.frozen_of_heap hb2 1
  obtain ⟨ao, n', cap, rfl⟩ : ∃ ao n' cap, v' = .slice ao n' cap := by
    rcases hown'.2 with ⟨hv, _⟩ | ⟨g, cap, cur, hv, _⟩
    · exact ⟨_, _, _, hv⟩
    · exact ⟨_, _, _, hv⟩
  go_wp2
  go_ret2
  refine ⟨rfl, ?_, ?_, ?_⟩
  · exact Lib.BuilderAt.put (T := (ρ.t 72)) (e := (ρ.t 5)) hB hb2 (bs' := bs ++ Lib.strCells s) (by simpa [Lib.strCells_length] using hown') X.neB5
  · exact (hb1.grown hgrow (by have := hb1.size; omega) (fun k hk => (hown.lt k hk).1)).setCell (p := ⟨b, 1, none⟩) hB _
  · intro k hk hkb hT
    have e1 := hap k hk hkb hT
    have hk1 : k < w1.heap.size := by have := hb1.size; omega
    have hne' : ∀ g, v.ownBlock = some g → k ≠ g := by
      rintro g hg rfl
      rcases hown.2 with ⟨hv, _⟩ | ⟨g', cap', cur, hv, _, hgc, _⟩
      · rw [hv] at hg; cases hg
      · rw [hv] at hg
        cases hg
        exact hT _ _ (e1.symm.trans hgc)
    have e2 : w2.heap[k]? = w1.heap[k]? := hgrow.block k hk1 (fun e => hne' _ e.symm rfl)
    have e3 : (w2.setCell ⟨b, 1, none⟩ (.slice ao n' cap)).heap[k]? = w2.heap[k]? := setCell_other _ _ _ (Ne.symm hkb)
    exact e3.trans (e2.trans e1)
set_option maxHeartbeats 2000000 in
set_option maxRecDepth 100000 in
theorem bldWB (L : Lays.n167 P ρ) (X : Builder.Extra P ρ) (B b : Nat) (bs : List Value) (c : Int) (w : World) (h : Lib.IsBuilder (ρ.t 72) (ρ.t 5) B b bs w) (hlen : bs.length + 1 ≤ 140737488355328) (hBw : B ≤ w.heap.size) :
    Calls P (ρ.f 167) #[.pointer (some ⟨b, 0, none⟩), .int .u8 c] w fun e w' => e = .returned .nilIface ∧ (Lib.BuilderAt (ρ.t 72) (ρ.t 5) B b (.pointer (some ⟨b, 0, none⟩)) (bs ++ [.int .u8 c]) w' ∧ Below B w w' ∧ Apart (ρ.t 5) b w w') := by
  obtain ⟨i0, hi, hz0, hz1, hz2⟩ := info_parts X.infoByte
  have mixed := L.mixed
  have t72 := L.t72; have a72 := L.a72; have z72 := L.z72; have v72 := L.v72; have u72 := run_underlying L.t72
  have t70 := L.t70; have a70 := L.a70; have z70 := L.z70; have v70 := L.v70; have u70 := run_underlying L.t70
  have t5 := L.t5; have a5 := L.a5; have z5 := L.z5; have v5 := L.v5; have u5 := run_underlying L.t5
  have t37 := L.t37; have a37 := L.a37; have z37 := L.z37; have v37 := L.v37; have u37 := run_underlying L.t37
  have t9 := L.t9; have a9 := L.a9; have z9 := L.z9; have v9 := L.v9; have u9 := run_underlying L.t9
  have t4 := L.t4; have a4 := L.a4; have z4 := L.z4; have v4 := L.v4; have u4 := run_underlying L.t4
  have t164 := L.t164; have a164 := L.a164; have z164 := L.z164; have v164 := L.v164; have u164 := run_underlying L.t164
  have e240 : ∀ args w, (callFunc (ρ.f 240) args).run P w = .ok (.enter (ρ.f 240) args) w := enters_of L.f240 (by kernel_rfl) rfl
  go_enter L.f167, Body.n167_ntmps ρ
  go_wp2_with (go_at_fn (ρ.f 240); refine (bldCC { L with } X.toX72 B b bs _ h).mono ?_)
  rintro e w1 ⟨rfl, h1, hb1, hap⟩
  obtain ⟨hB, v, hbk, hown, hne⟩ := h1
  have c0 : w1.cell? ⟨b, 0, none⟩ = some (.pointer (some ⟨b, 0, none⟩)) := by rw [Lib.cell_of_heap hbk]; rfl
  have c1 : w1.cell? ⟨b, 1, none⟩ = some v := by rw [Lib.cell_of_heap hbk]; rfl
  go_wp2_with (at_builtin; refine wpList_append_own _ rfl _ _ (ρ.t 37) rfl B (ρ.t 5) i0 (.int .u8 0) 1 1 L.t37 hi hz0 hz1 hz2 rfl (by decide) _ _ _ rfl (hown.alloc _) ⟨w1.heap.size, 0, none⟩ 1 1 [.int .u8 c] rfl rfl ?c1 ?c2 ?c3 ?c4 ?c5 ?_)
  case c1 =>
    intro j u hj
    match j, hj with
    | 0, hj => simp at hj; subst hj; simp [Addr.add]
  case c2 => intro u hu; simp at hu; subst hu; rfl
  case c3 => unfold maxLen; omega
  case c4 => omega
  case c5 => have := hb1.size; simp; omega
  intro v' w2 hown' hgrow _
  have hlt : b < w1.heap.size := by
    rcases Nat.lt_or_ge b w1.heap.size with h' | h'
    · exact h'
    · simp [Array.getElem?_eq_none h'] at hbk
  have hb2 : w2.heap[b]? = some (.cells #[.pointer (some ⟨b, 0, none⟩), v] (ρ.t 72) (0, 0)) := by
    rw [hgrow.block b (by simp; omega) (fun e => hne e.symm), Lib.alloc_old w1 _ b hlt]
    exact hbk
  have d0 : w2.cell? ⟨b, 0, none⟩ = some (.pointer (some ⟨b, 0, none⟩)) := by rw [Lib.cell_of_heap hb2]; rfl
  have d1 : w2.cell? ⟨b, 1, none⟩ = some v := by rw [Lib.cell_of_heap hb2]; rfl
  have f1 : w2.frozen? ⟨b, 1, none⟩ = false := Lib.frozen_of_heap hb2 1
  obtain ⟨g, cap, rfl⟩ : ∃ g cap, v' = .slice (some ⟨g, 0, none⟩) (bs.length + 1) cap := by
    rcases hown'.2 with ⟨_, h0⟩ | ⟨g, cap, cur, hv, _⟩
    · omega
    · exact ⟨g, cap, hv⟩
  go_wp2
  go_ret
  refine ⟨rfl, ?_, ?_, ?_⟩
  · exact Lib.BuilderAt.put (T := (ρ.t 72)) (e := (ρ.t 5)) hB hb2 (bs' := bs ++ [.int .u8 c]) (by simpa using hown') X.neB5
  · exact ((hb1.alloc (by have := hb1.size; omega) _).grown hgrow (by have := hb1.size; simp; omega) (fun k hk => (hown.lt k hk).1)).setCell (p := ⟨b, 1, none⟩) hB _
  · intro k hk hkb hT
    have e1 := hap k hk hkb hT
    have hk1 : k < w1.heap.size := by have := hb1.size; omega
    have hne' : ∀ g, v.ownBlock = some g → k ≠ g := by
      rintro g hg rfl
      rcases hown.2 with ⟨hv, _⟩ | ⟨g', cap', cur, hv, _, hgc, _⟩
      · rw [hv] at hg; cases hg
      · rw [hv] at hg
        cases hg
        exact hT _ _ (e1.symm.trans hgc)
    have e2 : w2.heap[k]? = w1.heap[k]? := (hgrow.block k (by simp; omega) (fun e => hne' _ e.symm rfl)).trans (Lib.alloc_old w1 _ k hk1)
    have e3 : (w2.setCell ⟨b, 1, none⟩ (.slice (some ⟨g, 0, none⟩) (bs.length + 1) cap)).heap[k]? = w2.heap[k]? := setCell_other _ _ _ (Ne.symm hkb)
    exact e3.trans (e2.trans e1)
end Go.Proofs
namespace Go.Proofs
open Go.Shelf Go.RowKit
def Tryz.bld_ren : Go.Shelf.Ren := ⟨fun | 240 => 315 | 276 => 349 | 166 => 279 | 167 => 280 | 169 => 242 | n => n, fun | 0 => 0 | 3 => 3 | 4 => 4 | 5 => 5 | 9 => 9 | 20 => 20 | 37 => 183 | 70 => 284 | 72 => 286 | 75 => 312 | 80 => 288 | 164 => 359 | 127 => 316 | n => n, fun | n => n⟩
theorem Tryz.bldLays166 : Go.Proofs.Lays.n166 Tryz.prog Tryz.bld_ren := {
  mixed := by kernel_rfl
  f166 := Tryz.func279.trans (congrArg some (by kernel_rfl))
  f240 := Tryz.func315.trans (congrArg some (by kernel_rfl))
  f276 := Tryz.func349.trans (congrArg some (by kernel_rfl))
  t0 := Tryz.underlying0
  a0 := Tryz.isAgg0
  z0 := Tryz.sizeOf0
  v0 := Tryz.zeroValue0
  t3 := Tryz.underlying3
  a3 := Tryz.isAgg3
  z3 := Tryz.sizeOf3
  v3 := Tryz.zeroValue3
  t4 := Tryz.underlying4
  a4 := Tryz.isAgg4
  z4 := Tryz.sizeOf4
  v4 := Tryz.zeroValue4
  t9 := Tryz.underlying9
  a9 := Tryz.isAgg9
  z9 := Tryz.sizeOf9
  v9 := Tryz.zeroValue9
  t20 := Tryz.underlying20
  a20 := Tryz.isAgg20
  z20 := Tryz.sizeOf20
  v20 := Tryz.zeroValue20
  t37 := Tryz.underlying183
  a37 := Tryz.isAgg183
  z37 := Tryz.sizeOf183
  v37 := Tryz.zeroValue183
  t70 := Tryz.underlying284
  a70 := Tryz.isAgg284
  z70 := Tryz.sizeOf284
  v70 := Tryz.zeroValue284
  t72 := Tryz.underlying286
  a72 := Tryz.isAgg286
  z72 := Tryz.sizeOf286
  v72 := Tryz.zeroValue286
  t75 := Tryz.underlying312
  a75 := Tryz.isAgg312
  z75 := Tryz.sizeOf312
  v75 := Tryz.zeroValue312
  t164 := Tryz.underlying359
  a164 := Tryz.isAgg359
  z164 := Tryz.sizeOf359
  v164 := Tryz.zeroValue359 }
theorem Tryz.bldLays167 : Go.Proofs.Lays.n167 Tryz.prog Tryz.bld_ren := {
  mixed := by kernel_rfl
  f167 := Tryz.func280.trans (congrArg some (by kernel_rfl))
  f240 := Tryz.func315.trans (congrArg some (by kernel_rfl))
  f276 := Tryz.func349.trans (congrArg some (by kernel_rfl))
  t0 := Tryz.underlying0
  a0 := Tryz.isAgg0
  z0 := Tryz.sizeOf0
  v0 := Tryz.zeroValue0
  t4 := Tryz.underlying4
  a4 := Tryz.isAgg4
  z4 := Tryz.sizeOf4
  v4 := Tryz.zeroValue4
  t5 := Tryz.underlying5
  a5 := Tryz.isAgg5
  z5 := Tryz.sizeOf5
  v5 := Tryz.zeroValue5
  t9 := Tryz.underlying9
  a9 := Tryz.isAgg9
  z9 := Tryz.sizeOf9
  v9 := Tryz.zeroValue9
  t20 := Tryz.underlying20
  a20 := Tryz.isAgg20
  z20 := Tryz.sizeOf20
  v20 := Tryz.zeroValue20
  t37 := Tryz.underlying183
  a37 := Tryz.isAgg183
  z37 := Tryz.sizeOf183
  v37 := Tryz.zeroValue183
  t70 := Tryz.underlying284
  a70 := Tryz.isAgg284
  z70 := Tryz.sizeOf284
  v70 := Tryz.zeroValue284
  t72 := Tryz.underlying286
  a72 := Tryz.isAgg286
  z72 := Tryz.sizeOf286
  v72 := Tryz.zeroValue286
  t75 := Tryz.underlying312
  a75 := Tryz.isAgg312
  z75 := Tryz.sizeOf312
  v75 := Tryz.zeroValue312
  t164 := Tryz.underlying359
  a164 := Tryz.isAgg359
  z164 := Tryz.sizeOf359
  v164 := Tryz.zeroValue359 }
theorem Tryz.bldLays169 : Go.Proofs.Lays.n169 Tryz.prog Tryz.bld_ren := {
  mixed := by kernel_rfl
  f169 := Tryz.func242.trans (congrArg some (by kernel_rfl))
  t0 := Tryz.underlying0
  a0 := Tryz.isAgg0
  z0 := Tryz.sizeOf0
  v0 := Tryz.zeroValue0
  t3 := Tryz.underlying3
  a3 := Tryz.isAgg3
  z3 := Tryz.sizeOf3
  v3 := Tryz.zeroValue3
  t9 := Tryz.underlying9
  a9 := Tryz.isAgg9
  z9 := Tryz.sizeOf9
  v9 := Tryz.zeroValue9
  t37 := Tryz.underlying183
  a37 := Tryz.isAgg183
  z37 := Tryz.sizeOf183
  v37 := Tryz.zeroValue183
  t70 := Tryz.underlying284
  a70 := Tryz.isAgg284
  z70 := Tryz.sizeOf284
  v70 := Tryz.zeroValue284
  t72 := Tryz.underlying286
  a72 := Tryz.isAgg286
  z72 := Tryz.sizeOf286
  v72 := Tryz.zeroValue286
  t127 := Tryz.underlying316
  a127 := Tryz.isAgg316
  z127 := Tryz.sizeOf316
  v127 := Tryz.zeroValue316 }
theorem Tryz.bldExtra : Builder.Extra Tryz.prog Tryz.bld_ren := {
  sizeBuilder := by kernel_rfl
  liesBuilder := by kernel_rfl
  t5 := Tryz.underlying5
  a5 := Tryz.isAgg5
  z5 := Tryz.sizeOf5
  v5 := Tryz.zeroValue5
  infoByte := by kernel_rfl
  cellsByte := by kernel_rfl
  sizeByte := by kernel_rfl
  neB5 := by decide }
theorem Tryz.bldWriteString (B b : Nat) (bs : List Value) (s : ByteArray) (w : World) (h : Lib.IsBuilder 286 5 B b bs w) (hlen : bs.length + s.size ≤ 140737488355328) (hBw : B ≤ w.heap.size) :
    Calls Tryz.prog 279 #[.pointer (some ⟨b, 0, none⟩), .string s] w fun e w' => e = .returned (.tuple #[.int .i64 s.size, .nilIface]) ∧ (Lib.BuilderAt 286 5 B b (.pointer (some ⟨b, 0, none⟩)) (bs ++ Lib.strCells s) w' ∧ Below B w w' ∧ Apart 5 b w w') := bldWS Tryz.bldLays166 Tryz.bldExtra B b bs s w h hlen hBw
theorem Tryz.bldWriteByte (B b : Nat) (bs : List Value) (c : Int) (w : World) (h : Lib.IsBuilder 286 5 B b bs w) (hlen : bs.length + 1 ≤ 140737488355328) (hBw : B ≤ w.heap.size) :
    Calls Tryz.prog 280 #[.pointer (some ⟨b, 0, none⟩), .int .u8 c] w fun e w' => e = .returned .nilIface ∧ (Lib.BuilderAt 286 5 B b (.pointer (some ⟨b, 0, none⟩)) (bs ++ [.int .u8 c]) w' ∧ Below B w w' ∧ Apart 5 b w w') := bldWB Tryz.bldLays167 Tryz.bldExtra B b bs c w h hlen hBw
theorem Tryz.bldString (B b : Nat) (l : List UInt8) (w : World) (h : Lib.IsBuilder 286 5 B b (Lib.byteCells l) w) (hBw : B ≤ w.heap.size) :
    Calls Tryz.prog 242 #[.pointer (some ⟨b, 0, none⟩)] w fun e w' => e = .returned (.string ⟨l.toArray⟩) ∧ Below B w w' := Any.Builder_String_any Tryz.bldLays169 Tryz.bldExtra B b l w h hBw
end Go.Proofs
namespace Go.Proofs
open Go.RowKit
theorem bldAlloc {T e : TypeId} {B b : Nat} {bs : List Value} {w : World} (h : Lib.IsBuilder T e B b bs w) (o : Obj) : Lib.IsBuilder T e B b bs (w.alloc o) := by
  rcases h with h | h
  · have hl := h.lt
    obtain ⟨h1, v, h2, h3, h4⟩ := h
    exact .inl ⟨h1, v, by rw [Lib.alloc_old w o b hl]; exact h2, h3.alloc _, h4⟩
  · have hl := h.lt
    obtain ⟨h1, v, h2, h3, h4⟩ := h
    exact .inr ⟨h1, v, by rw [Lib.alloc_old w o b hl]; exact h2, h3.alloc _, h4⟩
theorem box_cell {T e : TypeId} {b : Nat} {w w1 : World} {cs : Array Value} (hap : Apart e b (w.alloc (.cells cs T)) w1) (hb : b < w.heap.size) (hT : T ≠ e) (i : Nat) : w1.cell? ⟨w.heap.size, i, none⟩ = cs[i]? := by
  have h2 : (w.alloc (.cells cs T)).heap[w.heap.size]? = some (.cells cs T (0, 0)) := by
    show (w.heap.push (.cells cs T (0, 0)))[w.heap.size]? = _
    exact Array.getElem?_push_size
  have h := hap w.heap.size (by simp) (by omega) (by intro cs' fr h; rw [h2] at h; cases h; exact hT rfl)
  exact Lib.cell_of_heap (h.trans h2) i
set_option maxHeartbeats 2000000 in
set_option maxRecDepth 100000 in
theorem Tryz.write_var_any (B b : Nat) (bs : List Value) (tn : ByteArray) (sl : Value) (w : World) (h : Lib.IsBuilder 286 5 B b bs w) (hlen : bs.length + tn.size + 10 ≤ 140737488355328) (hBw : B ≤ w.heap.size) :
    Calls Tryz.prog 241 #[.pointer (some ⟨b, 0, none⟩), .agg #[.int .i64 1, .string tn, .int .i64 0, sl]] w fun e w' => e = .returned (.tuple #[]) ∧ (Lib.BuilderAt 286 5 B b (.pointer (some ⟨b, 0, none⟩)) (bs ++ Lib.strCells (⟨#[63]⟩ ++ tn)) w' ∧ Below B w w' ∧ Apart 5 b w w') := by
  go_enter Tryz.func241, Tryz.ntmps241
  have ha : (⟨#[63]⟩ ++ tn : ByteArray).size ≤ tn.size + 1 := by simp [ByteArray.size_append]; show 1 + tn.size ≤ tn.size + 1; omega
  go_wp2_with (go_at_call 279; refine (Tryz.bldWriteString B b bs _ _ (bldAlloc h _) (by omega) (by simp; omega)).mono ?_; rintro e w1 ⟨rfl, h1, hb1, hap⟩; have hc2 := box_cell hap (by rcases h with h | h <;> exact h.lt) (by decide) 2)
  refine bodyPost_ret (results_none rfl _ _ _) rfl ?_
  exact ⟨rfl, h1, (((Below.refl B w).alloc hBw _).trans hb1), fun k hk hkb hT => (hap k (by simp; omega) hkb (by rw [Lib.alloc_old w _ k hk]; exact hT)).trans (Lib.alloc_old w _ k hk)⟩
end Go.Proofs
