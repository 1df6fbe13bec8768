/- A part of the proof. -/
import Derived.Test.YthcbgdmeacaglaaGreatDoorTE16
import Derived.StillTailTactics
import Derived.LoopTactic
import Derived.Deep.Draws
import Derived.Laws.CopyRow
import Derived.Laws.Externs
import Derived.Deep.AppendSrc
import Derived.Lib.AppendZerosOnto
set_option linter.all false
namespace Go.Abs
def wordL : List (List UInt8) := [[97, 110, 121], [97, 103, 101, 110, 116], [110, 111, 110, 99, 101], [107, 101, 121], [100, 97, 116, 97], [116, 97, 103]]
def wordU (s : Int) : List UInt8 := wordL.getD s.toNat []
mutual
def wtx : Tm → List UInt8
  | .mk k n s _ l => if k = 1 then 63 :: n.data.toList ++ (if s = 0 then [] else 58 :: wordU s) else if k = 2 then n.data.toList ++ 58 :: wordU s else n.data.toList ++ 40 :: (wtxs true l ++ [41])
def wtxs : Bool → List Tm → List UInt8
  | _, [] => []
  | b, t :: l => (if b then [] else [44, 32]) ++ wtx t ++ wtxs false l
end
mutual
def wokT : Tm → Bool
  | .mk k _ s _ l => if k = 1 ∨ k = 2 then decide (0 ≤ s) && decide (s ≤ 5) else wokTs l
def wokTs : List Tm → Bool
  | [] => true
  | t :: l => wokT t && wokTs l
end
end Go.Abs
namespace Go.Proofs
open Go.RowKit Go.Abs
def Words (B : Nat) (w : World) : Prop := ∃ wb wo cap, wb < B ∧ 1 < B ∧ w.cell? ⟨1, 0, none⟩ = some (.slice (some ⟨wb, wo, none⟩) 6 cap) ∧ ∀ j, j < 6 → w.cell? ⟨wb, wo + j, none⟩ = some (.string ⟨(wordL.getD j []).toArray⟩)
theorem Words.below {B : Nat} {w w' : World} (h : Words B w) (hb : Below B w w') : Words B w' := by
  obtain ⟨wb, wo, cap, h1, h2, h3, h4⟩ := h
  exact ⟨wb, wo, cap, h1, h2, (hb.cell h2).trans h3, fun j hj => (hb.cell h1).trans (h4 j hj)⟩
theorem Apart.trans {T : TypeId} {b : Nat} {w w1 w2 : World} (h : Apart T b w w1) (k : Apart T b w1 w2) : Apart T b w w2 := by
  intro j hj hjb hT
  have h1 := h j hj hjb hT
  have hj1 : j < w1.heap.size := by
    rcases Nat.lt_or_ge j w1.heap.size with h' | h'
    · exact h'
    · rw [Array.getElem?_eq_none h', Array.getElem?_eq_getElem hj] at h1; cases h1
  rw [← h1]
  exact k j hj1 hjb (by rw [h1]; exact hT)
theorem Apart.alloc {T : TypeId} {b : Nat} (w : World) (o : Obj) : Apart T b w (w.alloc o) := fun k hk _ _ => Lib.alloc_old w o k hk
theorem Apart.refl (T : TypeId) (b : Nat) (w : World) : Apart T b w w := fun _ _ _ _ => rfl
theorem cells_app (l l' : List UInt8) : Lib.byteCells (l ++ l') = Lib.byteCells l ++ Lib.byteCells l' := by simp [Lib.byteCells]
set_option maxHeartbeats 8000000 in
set_option maxRecDepth 100000 in
theorem Tryz.write_var (B b : Nat) (bs : List Value) (tn : ByteArray) (s : Int) (sl : Value) (w : World) (h : Lib.IsBuilder 286 5 B b bs w) (hs : s = 1 ∨ s = 2 ∨ s = 3 ∨ s = 4 ∨ s = 5) (hlen : bs.length + tn.size + 10 ≤ 140737488355328) (hBw : B ≤ w.heap.size) (hW : Words B w) :
    Calls Tryz.prog 241 #[.pointer (some ⟨b, 0, none⟩), .agg #[.int .i64 1, .string tn, .int .i64 s, sl]] w fun e w' => e = .returned (.tuple #[]) ∧ (Lib.BuilderAt 286 5 B b (.pointer (some ⟨b, 0, none⟩)) (bs ++ Lib.byteCells (63 :: tn.data.toList ++ 58 :: wordU s)) w' ∧ Below B w w' ∧ Apart 5 b w w') := by
  obtain ⟨wb, wo, cap, hwb, hgb, hg, hwd⟩ := hW
  have ha : (⟨#[63]⟩ ++ tn : ByteArray).size ≤ tn.size + 1 := by simp [ByteArray.size_append]; show 1 + tn.size ≤ tn.size + 1; omega
  have hbl : b < w.heap.size := by rcases h with h | h <;> exact h.lt
  have e1 : Lib.strCells (⟨#[63]⟩ ++ tn) = Lib.byteCells (63 :: tn.data.toList) := by
    rw [Lib.strCells_eq]; congr 1
  rcases hs with rfl | rfl | rfl | rfl | rfl
  · have hd0 := hwd 1 (by omega)
    obtain ⟨u, hu⟩ : ∃ u : ByteArray, u = ⟨(wordL.getD 1 []).toArray⟩ := ⟨_, rfl⟩
    have hul : u.size ≤ 5 := by rw [hu]; decide
    have huw : u.data.toList = wordU 1 := by rw [hu]; rfl
    rw [← hu] at hd0
    clear hu hwd
    have hau : (⟨#[58]⟩ ++ u : ByteArray).size ≤ u.size + 1 := by simp [ByteArray.size_append]; show 1 + u.size ≤ u.size + 1; omega
    have e2 : Lib.strCells (⟨#[58]⟩ ++ u) = Lib.byteCells (58 :: wordU 1) := by
      rw [Lib.strCells_eq, ← huw]; congr 1
    go_enter Tryz.func241, Tryz.ntmps241
    go_wp2_with (go_at_call 279; first
      | (refine (Tryz.bldWriteString B b _ _ _ (Or.inr h1) (by simp only [List.length_append, Lib.strCells_length]; omega) (by have := hb1.size; simp at this ⊢; omega)).mono ?_; rintro e w2 ⟨rfl, h2, hb2, hap2⟩)
      | (refine (Tryz.bldWriteString B b bs _ _ (bldAlloc h _) (by omega) (by simp; omega)).mono ?_; rintro e w1 ⟨rfl, h1, hb1, hap⟩; have hc2 := box_cell hap (by rcases h with h | h <;> exact h.lt) (by decide) 2; have hg1 := (hb1.cell hgb).trans ((((Below.refl B w).alloc hBw _).cell hgb).trans hg); have hd1 := (hb1.cell (p := ⟨wb, wo + 1, none⟩) hwb).trans ((((Below.refl B w).alloc hBw _).cell (p := ⟨wb, wo + 1, none⟩) hwb).trans hd0)))
    refine bodyPost_ret (results_none rfl _ _ _) rfl ?_
    refine ⟨rfl, ?_, ((((Below.refl B w).alloc hBw _).trans hb1).trans hb2), ((Apart.alloc w _).trans hap).trans hap2⟩
    rw [e1, e2, List.append_assoc, ← cells_app] at h2
    exact h2
  · have hd0 := hwd 2 (by omega)
    obtain ⟨u, hu⟩ : ∃ u : ByteArray, u = ⟨(wordL.getD 2 []).toArray⟩ := ⟨_, rfl⟩
    have hul : u.size ≤ 5 := by rw [hu]; decide
    have huw : u.data.toList = wordU 2 := by rw [hu]; rfl
    rw [← hu] at hd0
    clear hu hwd
    have hau : (⟨#[58]⟩ ++ u : ByteArray).size ≤ u.size + 1 := by simp [ByteArray.size_append]; show 1 + u.size ≤ u.size + 1; omega
    have e2 : Lib.strCells (⟨#[58]⟩ ++ u) = Lib.byteCells (58 :: wordU 2) := by
      rw [Lib.strCells_eq, ← huw]; congr 1
    go_enter Tryz.func241, Tryz.ntmps241
    go_wp2_with (go_at_call 279; first
      | (refine (Tryz.bldWriteString B b _ _ _ (Or.inr h1) (by simp only [List.length_append, Lib.strCells_length]; omega) (by have := hb1.size; simp at this ⊢; omega)).mono ?_; rintro e w2 ⟨rfl, h2, hb2, hap2⟩)
      | (refine (Tryz.bldWriteString B b bs _ _ (bldAlloc h _) (by omega) (by simp; omega)).mono ?_; rintro e w1 ⟨rfl, h1, hb1, hap⟩; have hc2 := box_cell hap (by rcases h with h | h <;> exact h.lt) (by decide) 2; have hg1 := (hb1.cell hgb).trans ((((Below.refl B w).alloc hBw _).cell hgb).trans hg); have hd1 := (hb1.cell (p := ⟨wb, wo + 2, none⟩) hwb).trans ((((Below.refl B w).alloc hBw _).cell (p := ⟨wb, wo + 2, none⟩) hwb).trans hd0)))
    refine bodyPost_ret (results_none rfl _ _ _) rfl ?_
    refine ⟨rfl, ?_, ((((Below.refl B w).alloc hBw _).trans hb1).trans hb2), ((Apart.alloc w _).trans hap).trans hap2⟩
    rw [e1, e2, List.append_assoc, ← cells_app] at h2
    exact h2
  · have hd0 := hwd 3 (by omega)
    obtain ⟨u, hu⟩ : ∃ u : ByteArray, u = ⟨(wordL.getD 3 []).toArray⟩ := ⟨_, rfl⟩
    have hul : u.size ≤ 5 := by rw [hu]; decide
    have huw : u.data.toList = wordU 3 := by rw [hu]; rfl
    rw [← hu] at hd0
    clear hu hwd
    have hau : (⟨#[58]⟩ ++ u : ByteArray).size ≤ u.size + 1 := by simp [ByteArray.size_append]; show 1 + u.size ≤ u.size + 1; omega
    have e2 : Lib.strCells (⟨#[58]⟩ ++ u) = Lib.byteCells (58 :: wordU 3) := by
      rw [Lib.strCells_eq, ← huw]; congr 1
    go_enter Tryz.func241, Tryz.ntmps241
    go_wp2_with (go_at_call 279; first
      | (refine (Tryz.bldWriteString B b _ _ _ (Or.inr h1) (by simp only [List.length_append, Lib.strCells_length]; omega) (by have := hb1.size; simp at this ⊢; omega)).mono ?_; rintro e w2 ⟨rfl, h2, hb2, hap2⟩)
      | (refine (Tryz.bldWriteString B b bs _ _ (bldAlloc h _) (by omega) (by simp; omega)).mono ?_; rintro e w1 ⟨rfl, h1, hb1, hap⟩; have hc2 := box_cell hap (by rcases h with h | h <;> exact h.lt) (by decide) 2; have hg1 := (hb1.cell hgb).trans ((((Below.refl B w).alloc hBw _).cell hgb).trans hg); have hd1 := (hb1.cell (p := ⟨wb, wo + 3, none⟩) hwb).trans ((((Below.refl B w).alloc hBw _).cell (p := ⟨wb, wo + 3, none⟩) hwb).trans hd0)))
    refine bodyPost_ret (results_none rfl _ _ _) rfl ?_
    refine ⟨rfl, ?_, ((((Below.refl B w).alloc hBw _).trans hb1).trans hb2), ((Apart.alloc w _).trans hap).trans hap2⟩
    rw [e1, e2, List.append_assoc, ← cells_app] at h2
    exact h2
  · have hd0 := hwd 4 (by omega)
    obtain ⟨u, hu⟩ : ∃ u : ByteArray, u = ⟨(wordL.getD 4 []).toArray⟩ := ⟨_, rfl⟩
    have hul : u.size ≤ 5 := by rw [hu]; decide
    have huw : u.data.toList = wordU 4 := by rw [hu]; rfl
    rw [← hu] at hd0
    clear hu hwd
    have hau : (⟨#[58]⟩ ++ u : ByteArray).size ≤ u.size + 1 := by simp [ByteArray.size_append]; show 1 + u.size ≤ u.size + 1; omega
    have e2 : Lib.strCells (⟨#[58]⟩ ++ u) = Lib.byteCells (58 :: wordU 4) := by
      rw [Lib.strCells_eq, ← huw]; congr 1
    go_enter Tryz.func241, Tryz.ntmps241
    go_wp2_with (go_at_call 279; first
      | (refine (Tryz.bldWriteString B b _ _ _ (Or.inr h1) (by simp only [List.length_append, Lib.strCells_length]; omega) (by have := hb1.size; simp at this ⊢; omega)).mono ?_; rintro e w2 ⟨rfl, h2, hb2, hap2⟩)
      | (refine (Tryz.bldWriteString B b bs _ _ (bldAlloc h _) (by omega) (by simp; omega)).mono ?_; rintro e w1 ⟨rfl, h1, hb1, hap⟩; have hc2 := box_cell hap (by rcases h with h | h <;> exact h.lt) (by decide) 2; have hg1 := (hb1.cell hgb).trans ((((Below.refl B w).alloc hBw _).cell hgb).trans hg); have hd1 := (hb1.cell (p := ⟨wb, wo + 4, none⟩) hwb).trans ((((Below.refl B w).alloc hBw _).cell (p := ⟨wb, wo + 4, none⟩) hwb).trans hd0)))
    refine bodyPost_ret (results_none rfl _ _ _) rfl ?_
    refine ⟨rfl, ?_, ((((Below.refl B w).alloc hBw _).trans hb1).trans hb2), ((Apart.alloc w _).trans hap).trans hap2⟩
    rw [e1, e2, List.append_assoc, ← cells_app] at h2
    exact h2
  · have hd0 := hwd 5 (by omega)
    obtain ⟨u, hu⟩ : ∃ u : ByteArray, u = ⟨(wordL.getD 5 []).toArray⟩ := ⟨_, rfl⟩
    have hul : u.size ≤ 5 := by rw [hu]; decide
    have huw : u.data.toList = wordU 5 := by rw [hu]; rfl
    rw [← hu] at hd0
    clear hu hwd
    have hau : (⟨#[58]⟩ ++ u : ByteArray).size ≤ u.size + 1 := by simp [ByteArray.size_append]; show 1 + u.size ≤ u.size + 1; omega
    have e2 : Lib.strCells (⟨#[58]⟩ ++ u) = Lib.byteCells (58 :: wordU 5) := by
      rw [Lib.strCells_eq, ← huw]; congr 1
    go_enter Tryz.func241, Tryz.ntmps241
    go_wp2_with (go_at_call 279; first
      | (refine (Tryz.bldWriteString B b _ _ _ (Or.inr h1) (by simp only [List.length_append, Lib.strCells_length]; omega) (by have := hb1.size; simp at this ⊢; omega)).mono ?_; rintro e w2 ⟨rfl, h2, hb2, hap2⟩)
      | (refine (Tryz.bldWriteString B b bs _ _ (bldAlloc h _) (by omega) (by simp; omega)).mono ?_; rintro e w1 ⟨rfl, h1, hb1, hap⟩; have hc2 := box_cell hap (by rcases h with h | h <;> exact h.lt) (by decide) 2; have hg1 := (hb1.cell hgb).trans ((((Below.refl B w).alloc hBw _).cell hgb).trans hg); have hd1 := (hb1.cell (p := ⟨wb, wo + 5, none⟩) hwb).trans ((((Below.refl B w).alloc hBw _).cell (p := ⟨wb, wo + 5, none⟩) hwb).trans hd0)))
    refine bodyPost_ret (results_none rfl _ _ _) rfl ?_
    refine ⟨rfl, ?_, ((((Below.refl B w).alloc hBw _).trans hb1).trans hb2), ((Apart.alloc w _).trans hap).trans hap2⟩
    rw [e1, e2, List.append_assoc, ← cells_app] at h2
    exact h2
end Go.Proofs
namespace Go.Proofs
open Go.RowKit Go.Abs
set_option maxHeartbeats 8000000 in
set_option maxRecDepth 100000 in
theorem Tryz.write_atom0 (B b : Nat) (bs : List Value) (tn : ByteArray) (sl : Value) (w : World) (h : Lib.IsBuilder 286 5 B b bs w) (hlen : bs.length + tn.size + 10 ≤ 140737488355328) (hBw : B ≤ w.heap.size) (hW : Words B w) :
    Calls Tryz.prog 241 #[.pointer (some ⟨b, 0, none⟩), .agg #[.int .i64 2, .string tn, .int .i64 0, sl]] w fun e w' => e = .returned (.tuple #[]) ∧ (Lib.BuilderAt 286 5 B b (.pointer (some ⟨b, 0, none⟩)) (bs ++ Lib.byteCells (tn.data.toList ++ 58 :: wordU 0)) w' ∧ Below B w w' ∧ Apart 5 b w w') := by
  obtain ⟨wb, wo, cap, hwb, hgb, hg, hwd⟩ := hW
  have hbl : b < w.heap.size := by rcases h with h | h <;> exact h.lt
  have hd0 := hwd 0 (by omega)
  obtain ⟨u, hu⟩ : ∃ u : ByteArray, u = ⟨(wordL.getD 0 []).toArray⟩ := ⟨_, rfl⟩
  have hul : u.size ≤ 5 := by rw [hu]; decide
  have huw : u.data.toList = wordU 0 := by rw [hu]; rfl
  rw [← hu] at hd0
  clear hu hwd
  have hau : (tn ++ ⟨#[58]⟩ ++ u : ByteArray).size ≤ tn.size + u.size + 1 := by simp [ByteArray.size_append]; show tn.size + 1 + u.size ≤ tn.size + u.size + 1; omega
  have hs1 : (tn ++ ⟨#[58]⟩ : ByteArray).size = tn.size + 1 := by rw [ByteArray.size_append]; rfl
  have e2 : Lib.strCells (tn ++ ⟨#[58]⟩ ++ u) = Lib.byteCells (tn.data.toList ++ 58 :: wordU 0) := by
    rw [Lib.strCells_eq, ← huw]; congr 1
    simp
  obtain ⟨W, hWe⟩ : ∃ W, W = w.alloc (.cells #[.int .i64 2, .string tn, .int .i64 0, sl] 52) := ⟨_, rfl⟩
  have hbW : Below B w W.drew := by
    rw [hWe]
    have k := (Below.refl B w).alloc hBw (.cells #[.int .i64 2, .string tn, .int .i64 0, sl] 52)
    exact ⟨k.os, k.tape, k.output, k.size, k.block⟩
  have hiW : Lib.IsBuilder 286 5 B b bs W.drew := by rw [hWe]; exact bldAlloc h _
  have hapW : Apart 5 b w W.drew := by rw [hWe]; exact Apart.alloc w _
  have hg1 := (hbW.cell hgb).trans hg
  have hd1 := (hbW.cell (p := ⟨wb, wo, none⟩) hwb).trans hd0
  have hc : ∀ i, W.drew.cell? ⟨w.heap.size, i, none⟩ = #[.int .i64 2, .string tn, .int .i64 0, sl][i]? := fun i => by
    rw [hWe]
    exact Lib.cell_of_heap (w := (w.alloc _).drew) (show (w.heap.push _)[w.heap.size]? = some (.cells _ 52 (0, 0)) from Array.getElem?_push_size) i
  have hc1 := hc 1
  have hc2 := hc 2
  clear hc
  go_enter Tryz.func241, Tryz.ntmps241
  go_wp2
  rw [← hWe]
  refine wp_region_still_tail 10 (by kernel_rfl) (by kernel_rfl) ?_
  simp only [List.take_succ_cons, List.take_zero, List.drop_succ_cons, List.drop_zero]
  change wpStill _ _ W.drew (fun a' => wpList _ _ _ _ a' W.drew) _ _
  generalize W.drew = W1 at *
  clear hWe
  repeat still_step
  refine wpStill_step (fun K hK => ?_)
  go_simp
  rw [if_neg (by omega)]
  refine ⟨rfl, hK _ ?_⟩
  clear hK K
  repeat still_step
  refine wpStill_step (fun K hK => ?_)
  go_simp
  rw [if_neg (by omega)]
  refine ⟨rfl, hK _ ?_⟩
  clear hK K
  refine wpStill_nil ?_
  go_wp2_with (go_at_call 279; (refine (Tryz.bldWriteString B b bs _ _ hiW (by omega) (Nat.le_trans hBw hbW.size)).mono ?_; rintro e w2 ⟨rfl, h2, hb2, hap2⟩))
  refine bodyPost_ret (results_none rfl _ _ _) rfl ?_
  refine ⟨rfl, ?_, hbW.trans hb2, hapW.trans hap2⟩
  rw [e2] at h2
  exact h2
set_option maxHeartbeats 8000000 in
set_option maxRecDepth 100000 in
theorem Tryz.write_atom1 (B b : Nat) (bs : List Value) (tn : ByteArray) (sl : Value) (w : World) (h : Lib.IsBuilder 286 5 B b bs w) (hlen : bs.length + tn.size + 10 ≤ 140737488355328) (hBw : B ≤ w.heap.size) (hW : Words B w) :
    Calls Tryz.prog 241 #[.pointer (some ⟨b, 0, none⟩), .agg #[.int .i64 2, .string tn, .int .i64 1, sl]] w fun e w' => e = .returned (.tuple #[]) ∧ (Lib.BuilderAt 286 5 B b (.pointer (some ⟨b, 0, none⟩)) (bs ++ Lib.byteCells (tn.data.toList ++ 58 :: wordU 1)) w' ∧ Below B w w' ∧ Apart 5 b w w') := by
  obtain ⟨wb, wo, cap, hwb, hgb, hg, hwd⟩ := hW
  have hbl : b < w.heap.size := by rcases h with h | h <;> exact h.lt
  have hd0 := hwd 1 (by omega)
  obtain ⟨u, hu⟩ : ∃ u : ByteArray, u = ⟨(wordL.getD 1 []).toArray⟩ := ⟨_, rfl⟩
  have hul : u.size ≤ 5 := by rw [hu]; decide
  have huw : u.data.toList = wordU 1 := by rw [hu]; rfl
  rw [← hu] at hd0
  clear hu hwd
  have hau : (tn ++ ⟨#[58]⟩ ++ u : ByteArray).size ≤ tn.size + u.size + 1 := by simp [ByteArray.size_append]; show tn.size + 1 + u.size ≤ tn.size + u.size + 1; omega
  have hs1 : (tn ++ ⟨#[58]⟩ : ByteArray).size = tn.size + 1 := by rw [ByteArray.size_append]; rfl
  have e2 : Lib.strCells (tn ++ ⟨#[58]⟩ ++ u) = Lib.byteCells (tn.data.toList ++ 58 :: wordU 1) := by
    rw [Lib.strCells_eq, ← huw]; congr 1
    simp
  obtain ⟨W, hWe⟩ : ∃ W, W = w.alloc (.cells #[.int .i64 2, .string tn, .int .i64 1, sl] 52) := ⟨_, rfl⟩
  have hbW : Below B w W.drew := by
    rw [hWe]
    have k := (Below.refl B w).alloc hBw (.cells #[.int .i64 2, .string tn, .int .i64 1, sl] 52)
    exact ⟨k.os, k.tape, k.output, k.size, k.block⟩
  have hiW : Lib.IsBuilder 286 5 B b bs W.drew := by rw [hWe]; exact bldAlloc h _
  have hapW : Apart 5 b w W.drew := by rw [hWe]; exact Apart.alloc w _
  have hg1 := (hbW.cell hgb).trans hg
  have hd1 := (hbW.cell (p := ⟨wb, wo + 1, none⟩) hwb).trans hd0
  have hc : ∀ i, W.drew.cell? ⟨w.heap.size, i, none⟩ = #[.int .i64 2, .string tn, .int .i64 1, sl][i]? := fun i => by
    rw [hWe]
    exact Lib.cell_of_heap (w := (w.alloc _).drew) (show (w.heap.push _)[w.heap.size]? = some (.cells _ 52 (0, 0)) from Array.getElem?_push_size) i
  have hc1 := hc 1
  have hc2 := hc 2
  clear hc
  go_enter Tryz.func241, Tryz.ntmps241
  go_wp2
  rw [← hWe]
  refine wp_region_still_tail 10 (by kernel_rfl) (by kernel_rfl) ?_
  simp only [List.take_succ_cons, List.take_zero, List.drop_succ_cons, List.drop_zero]
  change wpStill _ _ W.drew (fun a' => wpList _ _ _ _ a' W.drew) _ _
  generalize W.drew = W1 at *
  clear hWe
  repeat still_step
  refine wpStill_step (fun K hK => ?_)
  go_simp
  rw [if_neg (by omega)]
  refine ⟨rfl, hK _ ?_⟩
  clear hK K
  repeat still_step
  refine wpStill_step (fun K hK => ?_)
  go_simp
  rw [if_neg (by omega)]
  refine ⟨rfl, hK _ ?_⟩
  clear hK K
  refine wpStill_nil ?_
  go_wp2_with (go_at_call 279; (refine (Tryz.bldWriteString B b bs _ _ hiW (by omega) (Nat.le_trans hBw hbW.size)).mono ?_; rintro e w2 ⟨rfl, h2, hb2, hap2⟩))
  refine bodyPost_ret (results_none rfl _ _ _) rfl ?_
  refine ⟨rfl, ?_, hbW.trans hb2, hapW.trans hap2⟩
  rw [e2] at h2
  exact h2
set_option maxHeartbeats 8000000 in
set_option maxRecDepth 100000 in
theorem Tryz.write_atom2 (B b : Nat) (bs : List Value) (tn : ByteArray) (sl : Value) (w : World) (h : Lib.IsBuilder 286 5 B b bs w) (hlen : bs.length + tn.size + 10 ≤ 140737488355328) (hBw : B ≤ w.heap.size) (hW : Words B w) :
    Calls Tryz.prog 241 #[.pointer (some ⟨b, 0, none⟩), .agg #[.int .i64 2, .string tn, .int .i64 2, sl]] w fun e w' => e = .returned (.tuple #[]) ∧ (Lib.BuilderAt 286 5 B b (.pointer (some ⟨b, 0, none⟩)) (bs ++ Lib.byteCells (tn.data.toList ++ 58 :: wordU 2)) w' ∧ Below B w w' ∧ Apart 5 b w w') := by
  obtain ⟨wb, wo, cap, hwb, hgb, hg, hwd⟩ := hW
  have hbl : b < w.heap.size := by rcases h with h | h <;> exact h.lt
  have hd0 := hwd 2 (by omega)
  obtain ⟨u, hu⟩ : ∃ u : ByteArray, u = ⟨(wordL.getD 2 []).toArray⟩ := ⟨_, rfl⟩
  have hul : u.size ≤ 5 := by rw [hu]; decide
  have huw : u.data.toList = wordU 2 := by rw [hu]; rfl
  rw [← hu] at hd0
  clear hu hwd
  have hau : (tn ++ ⟨#[58]⟩ ++ u : ByteArray).size ≤ tn.size + u.size + 1 := by simp [ByteArray.size_append]; show tn.size + 1 + u.size ≤ tn.size + u.size + 1; omega
  have hs1 : (tn ++ ⟨#[58]⟩ : ByteArray).size = tn.size + 1 := by rw [ByteArray.size_append]; rfl
  have e2 : Lib.strCells (tn ++ ⟨#[58]⟩ ++ u) = Lib.byteCells (tn.data.toList ++ 58 :: wordU 2) := by
    rw [Lib.strCells_eq, ← huw]; congr 1
    simp
  obtain ⟨W, hWe⟩ : ∃ W, W = w.alloc (.cells #[.int .i64 2, .string tn, .int .i64 2, sl] 52) := ⟨_, rfl⟩
  have hbW : Below B w W.drew := by
    rw [hWe]
    have k := (Below.refl B w).alloc hBw (.cells #[.int .i64 2, .string tn, .int .i64 2, sl] 52)
    exact ⟨k.os, k.tape, k.output, k.size, k.block⟩
  have hiW : Lib.IsBuilder 286 5 B b bs W.drew := by rw [hWe]; exact bldAlloc h _
  have hapW : Apart 5 b w W.drew := by rw [hWe]; exact Apart.alloc w _
  have hg1 := (hbW.cell hgb).trans hg
  have hd1 := (hbW.cell (p := ⟨wb, wo + 2, none⟩) hwb).trans hd0
  have hc : ∀ i, W.drew.cell? ⟨w.heap.size, i, none⟩ = #[.int .i64 2, .string tn, .int .i64 2, sl][i]? := fun i => by
    rw [hWe]
    exact Lib.cell_of_heap (w := (w.alloc _).drew) (show (w.heap.push _)[w.heap.size]? = some (.cells _ 52 (0, 0)) from Array.getElem?_push_size) i
  have hc1 := hc 1
  have hc2 := hc 2
  clear hc
  go_enter Tryz.func241, Tryz.ntmps241
  go_wp2
  rw [← hWe]
  refine wp_region_still_tail 10 (by kernel_rfl) (by kernel_rfl) ?_
  simp only [List.take_succ_cons, List.take_zero, List.drop_succ_cons, List.drop_zero]
  change wpStill _ _ W.drew (fun a' => wpList _ _ _ _ a' W.drew) _ _
  generalize W.drew = W1 at *
  clear hWe
  repeat still_step
  refine wpStill_step (fun K hK => ?_)
  go_simp
  rw [if_neg (by omega)]
  refine ⟨rfl, hK _ ?_⟩
  clear hK K
  repeat still_step
  refine wpStill_step (fun K hK => ?_)
  go_simp
  rw [if_neg (by omega)]
  refine ⟨rfl, hK _ ?_⟩
  clear hK K
  refine wpStill_nil ?_
  go_wp2_with (go_at_call 279; (refine (Tryz.bldWriteString B b bs _ _ hiW (by omega) (Nat.le_trans hBw hbW.size)).mono ?_; rintro e w2 ⟨rfl, h2, hb2, hap2⟩))
  refine bodyPost_ret (results_none rfl _ _ _) rfl ?_
  refine ⟨rfl, ?_, hbW.trans hb2, hapW.trans hap2⟩
  rw [e2] at h2
  exact h2
set_option maxHeartbeats 8000000 in
set_option maxRecDepth 100000 in
theorem Tryz.write_atom3 (B b : Nat) (bs : List Value) (tn : ByteArray) (sl : Value) (w : World) (h : Lib.IsBuilder 286 5 B b bs w) (hlen : bs.length + tn.size + 10 ≤ 140737488355328) (hBw : B ≤ w.heap.size) (hW : Words B w) :
    Calls Tryz.prog 241 #[.pointer (some ⟨b, 0, none⟩), .agg #[.int .i64 2, .string tn, .int .i64 3, sl]] w fun e w' => e = .returned (.tuple #[]) ∧ (Lib.BuilderAt 286 5 B b (.pointer (some ⟨b, 0, none⟩)) (bs ++ Lib.byteCells (tn.data.toList ++ 58 :: wordU 3)) w' ∧ Below B w w' ∧ Apart 5 b w w') := by
  obtain ⟨wb, wo, cap, hwb, hgb, hg, hwd⟩ := hW
  have hbl : b < w.heap.size := by rcases h with h | h <;> exact h.lt
  have hd0 := hwd 3 (by omega)
  obtain ⟨u, hu⟩ : ∃ u : ByteArray, u = ⟨(wordL.getD 3 []).toArray⟩ := ⟨_, rfl⟩
  have hul : u.size ≤ 5 := by rw [hu]; decide
  have huw : u.data.toList = wordU 3 := by rw [hu]; rfl
  rw [← hu] at hd0
  clear hu hwd
  have hau : (tn ++ ⟨#[58]⟩ ++ u : ByteArray).size ≤ tn.size + u.size + 1 := by simp [ByteArray.size_append]; show tn.size + 1 + u.size ≤ tn.size + u.size + 1; omega
  have hs1 : (tn ++ ⟨#[58]⟩ : ByteArray).size = tn.size + 1 := by rw [ByteArray.size_append]; rfl
  have e2 : Lib.strCells (tn ++ ⟨#[58]⟩ ++ u) = Lib.byteCells (tn.data.toList ++ 58 :: wordU 3) := by
    rw [Lib.strCells_eq, ← huw]; congr 1
    simp
  obtain ⟨W, hWe⟩ : ∃ W, W = w.alloc (.cells #[.int .i64 2, .string tn, .int .i64 3, sl] 52) := ⟨_, rfl⟩
  have hbW : Below B w W.drew := by
    rw [hWe]
    have k := (Below.refl B w).alloc hBw (.cells #[.int .i64 2, .string tn, .int .i64 3, sl] 52)
    exact ⟨k.os, k.tape, k.output, k.size, k.block⟩
  have hiW : Lib.IsBuilder 286 5 B b bs W.drew := by rw [hWe]; exact bldAlloc h _
  have hapW : Apart 5 b w W.drew := by rw [hWe]; exact Apart.alloc w _
  have hg1 := (hbW.cell hgb).trans hg
  have hd1 := (hbW.cell (p := ⟨wb, wo + 3, none⟩) hwb).trans hd0
  have hc : ∀ i, W.drew.cell? ⟨w.heap.size, i, none⟩ = #[.int .i64 2, .string tn, .int .i64 3, sl][i]? := fun i => by
    rw [hWe]
    exact Lib.cell_of_heap (w := (w.alloc _).drew) (show (w.heap.push _)[w.heap.size]? = some (.cells _ 52 (0, 0)) from Array.getElem?_push_size) i
  have hc1 := hc 1
  have hc2 := hc 2
  clear hc
  go_enter Tryz.func241, Tryz.ntmps241
  go_wp2
  rw [← hWe]
  refine wp_region_still_tail 10 (by kernel_rfl) (by kernel_rfl) ?_
  simp only [List.take_succ_cons, List.take_zero, List.drop_succ_cons, List.drop_zero]
  change wpStill _ _ W.drew (fun a' => wpList _ _ _ _ a' W.drew) _ _
  generalize W.drew = W1 at *
  clear hWe
  repeat still_step
  refine wpStill_step (fun K hK => ?_)
  go_simp
  rw [if_neg (by omega)]
  refine ⟨rfl, hK _ ?_⟩
  clear hK K
  repeat still_step
  refine wpStill_step (fun K hK => ?_)
  go_simp
  rw [if_neg (by omega)]
  refine ⟨rfl, hK _ ?_⟩
  clear hK K
  refine wpStill_nil ?_
  go_wp2_with (go_at_call 279; (refine (Tryz.bldWriteString B b bs _ _ hiW (by omega) (Nat.le_trans hBw hbW.size)).mono ?_; rintro e w2 ⟨rfl, h2, hb2, hap2⟩))
  refine bodyPost_ret (results_none rfl _ _ _) rfl ?_
  refine ⟨rfl, ?_, hbW.trans hb2, hapW.trans hap2⟩
  rw [e2] at h2
  exact h2
set_option maxHeartbeats 8000000 in
set_option maxRecDepth 100000 in
theorem Tryz.write_atom4 (B b : Nat) (bs : List Value) (tn : ByteArray) (sl : Value) (w : World) (h : Lib.IsBuilder 286 5 B b bs w) (hlen : bs.length + tn.size + 10 ≤ 140737488355328) (hBw : B ≤ w.heap.size) (hW : Words B w) :
    Calls Tryz.prog 241 #[.pointer (some ⟨b, 0, none⟩), .agg #[.int .i64 2, .string tn, .int .i64 4, sl]] w fun e w' => e = .returned (.tuple #[]) ∧ (Lib.BuilderAt 286 5 B b (.pointer (some ⟨b, 0, none⟩)) (bs ++ Lib.byteCells (tn.data.toList ++ 58 :: wordU 4)) w' ∧ Below B w w' ∧ Apart 5 b w w') := by
  obtain ⟨wb, wo, cap, hwb, hgb, hg, hwd⟩ := hW
  have hbl : b < w.heap.size := by rcases h with h | h <;> exact h.lt
  have hd0 := hwd 4 (by omega)
  obtain ⟨u, hu⟩ : ∃ u : ByteArray, u = ⟨(wordL.getD 4 []).toArray⟩ := ⟨_, rfl⟩
  have hul : u.size ≤ 5 := by rw [hu]; decide
  have huw : u.data.toList = wordU 4 := by rw [hu]; rfl
  rw [← hu] at hd0
  clear hu hwd
  have hau : (tn ++ ⟨#[58]⟩ ++ u : ByteArray).size ≤ tn.size + u.size + 1 := by simp [ByteArray.size_append]; show tn.size + 1 + u.size ≤ tn.size + u.size + 1; omega
  have hs1 : (tn ++ ⟨#[58]⟩ : ByteArray).size = tn.size + 1 := by rw [ByteArray.size_append]; rfl
  have e2 : Lib.strCells (tn ++ ⟨#[58]⟩ ++ u) = Lib.byteCells (tn.data.toList ++ 58 :: wordU 4) := by
    rw [Lib.strCells_eq, ← huw]; congr 1
    simp
  obtain ⟨W, hWe⟩ : ∃ W, W = w.alloc (.cells #[.int .i64 2, .string tn, .int .i64 4, sl] 52) := ⟨_, rfl⟩
  have hbW : Below B w W.drew := by
    rw [hWe]
    have k := (Below.refl B w).alloc hBw (.cells #[.int .i64 2, .string tn, .int .i64 4, sl] 52)
    exact ⟨k.os, k.tape, k.output, k.size, k.block⟩
  have hiW : Lib.IsBuilder 286 5 B b bs W.drew := by rw [hWe]; exact bldAlloc h _
  have hapW : Apart 5 b w W.drew := by rw [hWe]; exact Apart.alloc w _
  have hg1 := (hbW.cell hgb).trans hg
  have hd1 := (hbW.cell (p := ⟨wb, wo + 4, none⟩) hwb).trans hd0
  have hc : ∀ i, W.drew.cell? ⟨w.heap.size, i, none⟩ = #[.int .i64 2, .string tn, .int .i64 4, sl][i]? := fun i => by
    rw [hWe]
    exact Lib.cell_of_heap (w := (w.alloc _).drew) (show (w.heap.push _)[w.heap.size]? = some (.cells _ 52 (0, 0)) from Array.getElem?_push_size) i
  have hc1 := hc 1
  have hc2 := hc 2
  clear hc
  go_enter Tryz.func241, Tryz.ntmps241
  go_wp2
  rw [← hWe]
  refine wp_region_still_tail 10 (by kernel_rfl) (by kernel_rfl) ?_
  simp only [List.take_succ_cons, List.take_zero, List.drop_succ_cons, List.drop_zero]
  change wpStill _ _ W.drew (fun a' => wpList _ _ _ _ a' W.drew) _ _
  generalize W.drew = W1 at *
  clear hWe
  repeat still_step
  refine wpStill_step (fun K hK => ?_)
  go_simp
  rw [if_neg (by omega)]
  refine ⟨rfl, hK _ ?_⟩
  clear hK K
  repeat still_step
  refine wpStill_step (fun K hK => ?_)
  go_simp
  rw [if_neg (by omega)]
  refine ⟨rfl, hK _ ?_⟩
  clear hK K
  refine wpStill_nil ?_
  go_wp2_with (go_at_call 279; (refine (Tryz.bldWriteString B b bs _ _ hiW (by omega) (Nat.le_trans hBw hbW.size)).mono ?_; rintro e w2 ⟨rfl, h2, hb2, hap2⟩))
  refine bodyPost_ret (results_none rfl _ _ _) rfl ?_
  refine ⟨rfl, ?_, hbW.trans hb2, hapW.trans hap2⟩
  rw [e2] at h2
  exact h2
set_option maxHeartbeats 8000000 in
set_option maxRecDepth 100000 in
theorem Tryz.write_atom5 (B b : Nat) (bs : List Value) (tn : ByteArray) (sl : Value) (w : World) (h : Lib.IsBuilder 286 5 B b bs w) (hlen : bs.length + tn.size + 10 ≤ 140737488355328) (hBw : B ≤ w.heap.size) (hW : Words B w) :
    Calls Tryz.prog 241 #[.pointer (some ⟨b, 0, none⟩), .agg #[.int .i64 2, .string tn, .int .i64 5, sl]] w fun e w' => e = .returned (.tuple #[]) ∧ (Lib.BuilderAt 286 5 B b (.pointer (some ⟨b, 0, none⟩)) (bs ++ Lib.byteCells (tn.data.toList ++ 58 :: wordU 5)) w' ∧ Below B w w' ∧ Apart 5 b w w') := by
  obtain ⟨wb, wo, cap, hwb, hgb, hg, hwd⟩ := hW
  have hbl : b < w.heap.size := by rcases h with h | h <;> exact h.lt
  have hd0 := hwd 5 (by omega)
  obtain ⟨u, hu⟩ : ∃ u : ByteArray, u = ⟨(wordL.getD 5 []).toArray⟩ := ⟨_, rfl⟩
  have hul : u.size ≤ 5 := by rw [hu]; decide
  have huw : u.data.toList = wordU 5 := by rw [hu]; rfl
  rw [← hu] at hd0
  clear hu hwd
  have hau : (tn ++ ⟨#[58]⟩ ++ u : ByteArray).size ≤ tn.size + u.size + 1 := by simp [ByteArray.size_append]; show tn.size + 1 + u.size ≤ tn.size + u.size + 1; omega
  have hs1 : (tn ++ ⟨#[58]⟩ : ByteArray).size = tn.size + 1 := by rw [ByteArray.size_append]; rfl
  have e2 : Lib.strCells (tn ++ ⟨#[58]⟩ ++ u) = Lib.byteCells (tn.data.toList ++ 58 :: wordU 5) := by
    rw [Lib.strCells_eq, ← huw]; congr 1
    simp
  obtain ⟨W, hWe⟩ : ∃ W, W = w.alloc (.cells #[.int .i64 2, .string tn, .int .i64 5, sl] 52) := ⟨_, rfl⟩
  have hbW : Below B w W.drew := by
    rw [hWe]
    have k := (Below.refl B w).alloc hBw (.cells #[.int .i64 2, .string tn, .int .i64 5, sl] 52)
    exact ⟨k.os, k.tape, k.output, k.size, k.block⟩
  have hiW : Lib.IsBuilder 286 5 B b bs W.drew := by rw [hWe]; exact bldAlloc h _
  have hapW : Apart 5 b w W.drew := by rw [hWe]; exact Apart.alloc w _
  have hg1 := (hbW.cell hgb).trans hg
  have hd1 := (hbW.cell (p := ⟨wb, wo + 5, none⟩) hwb).trans hd0
  have hc : ∀ i, W.drew.cell? ⟨w.heap.size, i, none⟩ = #[.int .i64 2, .string tn, .int .i64 5, sl][i]? := fun i => by
    rw [hWe]
    exact Lib.cell_of_heap (w := (w.alloc _).drew) (show (w.heap.push _)[w.heap.size]? = some (.cells _ 52 (0, 0)) from Array.getElem?_push_size) i
  have hc1 := hc 1
  have hc2 := hc 2
  clear hc
  go_enter Tryz.func241, Tryz.ntmps241
  go_wp2
  rw [← hWe]
  refine wp_region_still_tail 10 (by kernel_rfl) (by kernel_rfl) ?_
  simp only [List.take_succ_cons, List.take_zero, List.drop_succ_cons, List.drop_zero]
  change wpStill _ _ W.drew (fun a' => wpList _ _ _ _ a' W.drew) _ _
  generalize W.drew = W1 at *
  clear hWe
  repeat still_step
  refine wpStill_step (fun K hK => ?_)
  go_simp
  rw [if_neg (by omega)]
  refine ⟨rfl, hK _ ?_⟩
  clear hK K
  repeat still_step
  refine wpStill_step (fun K hK => ?_)
  go_simp
  rw [if_neg (by omega)]
  refine ⟨rfl, hK _ ?_⟩
  clear hK K
  refine wpStill_nil ?_
  go_wp2_with (go_at_call 279; (refine (Tryz.bldWriteString B b bs _ _ hiW (by omega) (Nat.le_trans hBw hbW.size)).mono ?_; rintro e w2 ⟨rfl, h2, hb2, hap2⟩))
  refine bodyPost_ret (results_none rfl _ _ _) rfl ?_
  refine ⟨rfl, ?_, hbW.trans hb2, hapW.trans hap2⟩
  rw [e2] at h2
  exact h2
end Go.Proofs
namespace Go.Proofs
open Go.RowKit Go.Abs
theorem term_value {w : World} {ok : Nat → Nat → Prop} {k s : Int} {n : ByteArray} {m : Bool × Bool} {l : List Tm} {v : Value} (h : PV w ok (tmV (.mk k n s m l)) v) :
    ∃ a len cap, v = .agg #[.int .i64 k, .string n, .int .i64 s, .slice a len cap] ∧ len = l.length ∧ (l ≠ [] → ∃ b o, a = some ⟨b, o, none⟩ ∧ PEls w ok 4 b o (tmVs l)) := by
  simp only [tmV, PV, PVs] at h
  obtain ⟨⟨us⟩, rfl, h1, v0, r0, e0, rfl, v1, r1, e1, rfl, v2, r2, e2, rfl, v3, r3, e3, hv3, e4⟩ := h
  subst e4 e3 e2 e1
  simp only at e0
  subst e0
  simp only [sl, PV] at hv3
  obtain ⟨a, len, cap, rfl, rfl, _, _, _, _, h6⟩ := hv3
  refine ⟨a, _, cap, rfl, by rw [tmVs_map, List.length_map], fun hne => ?_⟩
  have hne' : tmVs l ≠ [] := by
    rw [tmVs_map]
    intro e
    exact hne (List.map_eq_nil_iff.1 e)
  obtain ⟨b, o, rfl, hz, hp⟩ := h6 hne'
  have hie : (tmVs l).isEmpty = false := by
    cases hq : tmVs l with
    | nil => exact absurd hq hne'
    | cons _ _ => rfl
  rw [hie] at hp
  exact ⟨b, o, rfl, hp⟩
theorem wtxs_app : ∀ (b : Bool) (l l' : List Tm), wtxs b (l ++ l') = wtxs b l ++ wtxs (b && l.isEmpty) l'
  | b, [], l' => by simp [wtxs]
  | b, t :: l, l' => by
    simp only [List.cons_append, wtxs, wtxs_app false l l', List.append_assoc, Bool.false_and, List.isEmpty_cons, Bool.and_false]
theorem wtxs_next (ts : List Tm) {i : Nat} (hi : i < ts.length) : wtxs true (ts.take (i + 1)) = wtxs true (ts.take i) ++ ((if i = 0 then [] else [44, 32]) ++ wtx ts[i]) := by
  rw [List.take_succ_eq_append_getElem hi, wtxs_app]
  congr 1
  simp only [wtxs, List.append_nil, Bool.true_and]
  congr 1
  cases i with
  | zero => simp
  | succ i =>
    have : (ts.take (i + 1)).isEmpty = false := by
      cases h : ts.take (i + 1) with
      | nil =>
        have := congrArg List.length h
        rw [List.length_take, List.length_nil] at this
        omega
      | cons _ _ => rfl
    simp [this]
theorem wtxs_le (ts : List Tm) (i : Nat) : (wtxs true (ts.take i)).length ≤ (wtxs true ts).length := by
  have h := congrArg (fun x => (wtxs true x).length) (List.take_append_drop i ts)
  simp only [wtxs_app, List.length_append] at h
  omega
set_option maxHeartbeats 8000000 in
set_option maxRecDepth 100000 in
theorem Tryz.write_app (B b : Nat) (l : List UInt8) (k s : Int) (tn : ByteArray) (ts : List Tm) (sa : Option Addr) (cap : Nat) (w : World) (h : Lib.IsBuilder 286 5 B b (Lib.byteCells l) w) (hk1 : k ≠ 1) (hk2 : k ≠ 2) (hlen : l.length + (tn.data.toList ++ 40 :: (wtxs true ts ++ [41])).length + 100 ≤ 140737488355328) (hBw : B ≤ w.heap.size) (hW : Words B w) (hN : ts.length ≤ 140737488355328)
    (hE : ∀ j t, ts[j]? = some t → ∃ kb ko us, sa = some ⟨kb, ko, none⟩ ∧ kb < B ∧ us.size = 4 ∧ (∀ c, c < 4 → w.cell? ⟨kb, ko + j * 4 + c, none⟩ = us[c]?) ∧ PV w (fun x _ => x < B) (tmV t) (.agg us))
    (IH : ∀ t ∈ ts, ∀ l w vt, Lib.IsBuilder 286 5 B b (Lib.byteCells l) w → PV w (fun x _ => x < B) (tmV t) vt → l.length + (wtx t).length + 100 ≤ 140737488355328 → B ≤ w.heap.size → Words B w →
      Calls Tryz.prog 241 #[.pointer (some ⟨b, 0, none⟩), vt] w fun e w' => e = .returned (.tuple #[]) ∧ (Lib.BuilderAt 286 5 B b (.pointer (some ⟨b, 0, none⟩)) (Lib.byteCells (l ++ wtx t)) w' ∧ Below B w w' ∧ Apart 5 b w w')) :
    Calls Tryz.prog 241 #[.pointer (some ⟨b, 0, none⟩), .agg #[.int .i64 k, .string tn, .int .i64 s, .slice sa ts.length cap]] w fun e w' => e = .returned (.tuple #[]) ∧ (Lib.BuilderAt 286 5 B b (.pointer (some ⟨b, 0, none⟩)) (Lib.byteCells (l ++ (tn.data.toList ++ 40 :: (wtxs true ts ++ [41])))) w' ∧ Below B w w' ∧ Apart 5 b w w') := by
  have hbl : b < w.heap.size := by rcases h with h | h <;> exact h.lt
  have hk1' : (k == 1) = false := by simpa using hk1
  have hk2' : (k == 2) = false := by simpa using hk2
  simp only [List.length_append, List.length_cons, List.length_nil] at hlen
  have hll : (Lib.byteCells l).length = l.length := by simp [Lib.byteCells]
  have hts : tn.data.toList.length = tn.size := by simp
  have ha : (tn ++ ⟨#[40]⟩ : ByteArray).size = tn.size + 1 := by rw [ByteArray.size_append]; rfl
  have e1 : Lib.strCells (tn ++ ⟨#[40]⟩) = Lib.byteCells (tn.data.toList ++ [40]) := by
    rw [Lib.strCells_eq]; congr 1
  go_enter Tryz.func241, Tryz.ntmps241
  go_wp2_with (go_at_call 279; (refine (Tryz.bldWriteString B b _ _ _ (bldAlloc h _) (by omega) (by simp; omega)).mono ?_; rintro e w1 ⟨rfl, h1, hb1, hap⟩; have hc3 := box_cell hap (by rcases h with h | h <;> exact h.lt) (by decide) 3))
  rw [e1, ← cells_app] at h1
  have hbw1 : Below B w w1 := ((Below.refl B w).alloc hBw _).trans hb1
  have hap1 : Apart 5 b w w1 := (Apart.alloc w _).trans hap
  clear h hc3 hap hb1 e1 ha
  go_loopw [47] (fun vi wr => ∃ (i : Nat), vi = .int .i64 i ∧ i ≤ ts.length ∧ Lib.BuilderAt 286 5 B b (.pointer (some ⟨b, 0, none⟩)) (Lib.byteCells (l ++ (tn.data.toList ++ [40]) ++ wtxs true (ts.take i))) wr ∧ Below B w wr ∧ Apart 5 b w wr)
    (fun vi _ => ts.length - (intOf vi).toNat)
  case atStart => exact ⟨0, rfl, by omega, by simpa [wtxs] using h1, hbw1, hap1⟩
  case round =>
    obtain ⟨i, rfl, hi, hbd, hbel, hapt⟩ := hrel
    clear h1 hbw1 hap1
    by_cases hlt : i < ts.length
    · obtain ⟨kb, ko, us, rfl, hkb, hus, hcs, hpv⟩ := hE i ts[i] (List.getElem?_eq_getElem hlt)
      obtain ⟨us⟩ := us
      obtain ⟨u0, u1, u2, u3, rfl⟩ : ∃ u0 u1 u2 u3, us = [u0, u1, u2, u3] := by
        match us, hus with
        | [a, b, c, d], _ => exact ⟨a, b, c, d, rfl⟩
      have c0 : wr.cell? ⟨kb, ko + i * 4, none⟩ = some u0 := (hbel.cell hkb).trans (hcs 0 (by omega))
      have c1 : wr.cell? ⟨kb, ko + i * 4 + 1, none⟩ = some u1 := (hbel.cell (p := ⟨kb, ko + i * 4 + 1, none⟩) hkb).trans (hcs 1 (by omega))
      have c2 : wr.cell? ⟨kb, ko + i * 4 + 2, none⟩ = some u2 := (hbel.cell (p := ⟨kb, ko + i * 4 + 2, none⟩) hkb).trans (hcs 2 (by omega))
      have c3 : wr.cell? ⟨kb, ko + i * 4 + 3, none⟩ = some u3 := (hbel.cell (p := ⟨kb, ko + i * 4 + 3, none⟩) hkb).trans (hcs 3 (by omega))
      have hpv' := hpv
      have hti := IH ts[i] (List.getElem_mem hlt)
      have htx : wtxs true (ts.take (i + 1)) = wtxs true (ts.take i) ++ ((if i = 0 then [] else [44, 32]) ++ wtx ts[i]) := wtxs_next ts hlt
      have hle : (wtxs true (ts.take (i + 1))).length ≤ (wtxs true ts).length := wtxs_le ts (i + 1)
      rw [htx] at hle
      simp only [List.length_append] at hle
      generalize ts[i] = t at *
      obtain ⟨tk, tnm, tso, tm, tl⟩ := t
      obtain ⟨sva, svn, svc, he, -, -⟩ := term_value hpv'
      have he' : [u0, u1, u2, u3] = [.int .i64 tk, .string tnm, .int .i64 tso, .slice sva svn svc] := by
        have := congrArg (fun v => match v with | .agg us => us.toList | _ => []) he
        exact this
      simp only [List.cons.injEq, and_true] at he'
      obtain ⟨rfl, rfl, rfl, rfl⟩ := he'
      clear hpv' he
      have hBr : B ≤ wr.heap.size := Nat.le_trans hBw hbel.size
      have hbr : b < wr.heap.size := Nat.lt_of_lt_of_le hbl hbel.size
      have hi2 := bldAlloc (.inr hbd) (.cells #[.int .i64 tk, .string tnm, .int .i64 tso, .slice sva svn svc] 52)
      have hb2 := hbel.alloc hBr (.cells #[.int .i64 tk, .string tnm, .int .i64 tso, .slice sva svn svc] 52)
      have ha2 := hapt.trans (Apart.alloc wr (.cells #[.int .i64 tk, .string tnm, .int .i64 tso, .slice sva svn svc] 52))
      have hBa : B ≤ (wr.alloc (.cells #[.int .i64 tk, .string tnm, .int .i64 tso, .slice sva svn svc] 52)).heap.size := Nat.le_trans hBw hb2.size
      have hLl : (l ++ (tn.data.toList ++ [40]) ++ wtxs true (ts.take i)).length = l.length + tn.size + 1 + (wtxs true (ts.take i)).length := by simp [hts]; omega
      have hpvB : ∀ w', Below B w w' → PV w' (fun x _ => x < B) (tmV (.mk tk tnm tso tm tl)) (.agg #[.int .i64 tk, .string tnm, .int .i64 tso, .slice sva svn svc]) := fun w' hb => PV_mono (fun x o hx => ⟨hx, hb.cell hx, fun es clk he => by rw [hb.block x hx]; exact he⟩) _ _ hpv
      clear hcs hpv hE
      by_cases h0 : i = 0
      · subst h0
        simp only [Nat.zero_mul, Nat.add_zero] at c0 c1 c2 c3
        go_wp2_with (go_at_call 241; refine (hti _ _ _ hi2 (hpvB _ hb2) (by rw [hLl]; omega) hBa (hW.below hb2)).mono ?_; rintro e w3 ⟨rfl, h3, hb3, hap3⟩)
        go_roundw
        case rel => exact ⟨1, by go_num, by omega, by rw [htx, ← List.append_assoc]; simpa using h3, hb2.trans hb3, ha2.trans hap3⟩
        case measure => simp [intOf]; omega
      · rw [if_neg h0] at hle
        have hle : (wtxs true (ts.take i)).length + (2 + (wtx (.mk tk tnm tso tm tl)).length) ≤ (wtxs true ts).length := hle
        have hpos : (i : Int) > 0 := by omega
        go_wp2_with (first
          | (go_at_call 279; refine (Tryz.bldWriteString B b _ _ _ hi2 (by rw [Lib.byteCells_length, hLl]; show _ + 2 ≤ _; omega) hBa).mono ?_; rintro e w2 ⟨rfl, h2, hbB, hapB⟩; have d0 := box_cell hapB hbr (by decide) 0; have d1 := box_cell hapB hbr (by decide) 1; have d2 := box_cell hapB hbr (by decide) 2; have d3 := box_cell hapB hbr (by decide) 3; rw [Lib.strCells_eq, ← cells_app] at h2)
          | (go_at_call 241; refine (hti _ _ _ (.inr h2) (hpvB _ (hb2.trans hbB)) (by rw [List.length_append, hLl]; show _ + 2 + _ + _ ≤ _; omega) (Nat.le_trans hBa hbB.size) (hW.below (hb2.trans hbB))).mono ?_; rintro e w3 ⟨rfl, h3, hb3, hap3⟩))
        go_roundw
        case rel => exact ⟨i + 1, by go_num, by omega, by rw [htx, ← List.append_assoc, if_neg h0, ← List.append_assoc]; simpa using h3, (hb2.trans hbB).trans hb3, (ha2.trans hapB).trans hap3⟩
        case measure => simp [intOf]; omega
    · have hin : i = ts.length := by omega
      subst hin
      rw [List.take_of_length_le (Nat.le_refl _)] at hbd
      have hLl : (l ++ (tn.data.toList ++ [40]) ++ wtxs true ts).length = l.length + tn.size + 1 + (wtxs true ts).length := by simp [hts]; omega
      go_wp2_with (go_at_call 280; refine (Tryz.bldWriteByte B b _ _ _ (.inr hbd) (by rw [Lib.byteCells_length, hLl]; omega) (Nat.le_trans hBw hbel.size)).mono ?_; rintro e w2 ⟨rfl, h2, hbB, hapB⟩)
      go_end0
      refine ⟨rfl, ?_, hbel.trans hbB, hapt.trans hapB⟩
      have e3 : Lib.byteCells (l ++ (tn.data.toList ++ [40]) ++ wtxs true ts) ++ [Value.int .u8 41] = Lib.byteCells (l ++ (tn.data.toList ++ 40 :: (wtxs true ts ++ [41]))) := by
        rw [show ([Value.int .u8 41] : List Value) = Lib.byteCells [41] from rfl, ← cells_app]
        congr 1
        simp
      rw [e3] at h2
      exact h2
theorem wtxs_mem {t : Tm} : ∀ {ts : List Tm}, t ∈ ts → wokTs ts = true → wokT t = true
  | u :: ts, h, hw => by
    simp only [wokTs, Bool.and_eq_true] at hw
    rcases List.mem_cons.1 h with rfl | h
    · exact hw.1
    · exact wtxs_mem h hw.2
theorem sizes_mem {t : Tm} : ∀ {ts : List Tm}, t ∈ ts → t.size ≤ Tm.sizes ts
  | u :: ts, h => by
    simp only [Tm.sizes]
    rcases List.mem_cons.1 h with rfl | h
    · omega
    · have := sizes_mem h; omega
theorem sizes_len : ∀ ts : List Tm, ts.length ≤ Tm.sizes ts
  | [] => Nat.zero_le _
  | t :: ts => by
    have := sizes_len ts
    have h0 : 0 < t.size := t.size_pos
    simp only [Tm.sizes, List.length_cons]
    omega
theorem kid_cells {w : World} {ok : Nat → Nat → Prop} {b o : Nat} {ts : List Tm} (hp : PEls w ok 4 b o (tmVs ts)) {j : Nat} {t : Tm} (hj : ts[j]? = some t) :
    ∃ us : Array Value, us.size = 4 ∧ ok b (o + j * 4) ∧ (∀ c, c < 4 → w.cell? ⟨b, o + j * 4 + c, none⟩ = us[c]?) ∧ PV w ok (tmV t) (.agg us) := by
  have hj' : (tmVs ts)[j]? = some (tmV t) := by rw [tmVs_map, List.getElem?_map, hj]; rfl
  obtain ⟨p1, p2⟩ := PEls_get hp hj'
  obtain ⟨k, n, s, m, l⟩ := t
  simp only [tmV, AV.cells] at p2
  obtain ⟨u0, a0, b0, c0, d0⟩ := PCells_get p2 (j := 0) rfl
  obtain ⟨u1, a1, b1, c1, d1⟩ := PCells_get p2 (j := 1) rfl
  obtain ⟨u2, a2, b2, c2, d2⟩ := PCells_get p2 (j := 2) rfl
  obtain ⟨u3, a3, b3, c3, d3⟩ := PCells_get p2 (j := 3) rfl
  refine ⟨#[u0, u1, u2, u3], rfl, a0, fun c hc => ?_, ?_⟩
  · match c, hc with
    | 0, _ => exact b0
    | 1, _ => exact b1
    | 2, _ => exact b2
    | 3, _ => exact b3
  · simp only [tmV, PV, PVs]
    refine ⟨_, rfl, fun u hu => ?_, u0, _, rfl, by simpa [PV] using d0, u1, _, rfl, by simpa [PV] using d1, u2, _, rfl, by simpa [PV] using d2, u3, _, rfl, d3, rfl⟩
    simp only [List.mem_cons, List.not_mem_nil, or_false] at hu
    rcases hu with rfl | rfl | rfl | rfl <;> assumption
theorem wtx_var (n : ByteArray) (s : Int) (m : Bool × Bool) (l : List Tm) : wtx (.mk 1 n s m l) = 63 :: n.data.toList ++ (if s = 0 then [] else 58 :: wordU s) := by simp [wtx]
theorem wtx_atom (n : ByteArray) (s : Int) (m : Bool × Bool) (l : List Tm) : wtx (.mk 2 n s m l) = n.data.toList ++ 58 :: wordU s := by simp [wtx]
theorem wtx_app {k : Int} (h1 : k ≠ 1) (h2 : k ≠ 2) (n : ByteArray) (s : Int) (m : Bool × Bool) (l : List Tm) : wtx (.mk k n s m l) = n.data.toList ++ 40 :: (wtxs true l ++ [41]) := by simp [wtx, h1, h2]
theorem Tryz.write_ok (B b : Nat) : ∀ (N : Nat) (t : Tm), t.size ≤ N → t.size ≤ 1048576 → wokT t = true → ∀ (l : List UInt8) (w : World) (vt : Value), Lib.IsBuilder 286 5 B b (Lib.byteCells l) w → PV w (fun x _ => x < B) (tmV t) vt → l.length + (wtx t).length + 100 ≤ 140737488355328 → B ≤ w.heap.size → Words B w →
    Calls Tryz.prog 241 #[.pointer (some ⟨b, 0, none⟩), vt] w fun e w' => e = .returned (.tuple #[]) ∧ (Lib.BuilderAt 286 5 B b (.pointer (some ⟨b, 0, none⟩)) (Lib.byteCells (l ++ wtx t)) w' ∧ Below B w w' ∧ Apart 5 b w w') := by
  intro N
  induction N with
  | zero =>
    intro t ht
    have := t.size_pos
    omega
  | succ N ih =>
    intro t ht hsz hok l w vt hb hpv hlen hBw hW
    obtain ⟨k, n, s, m, ts⟩ := t
    obtain ⟨a, len, cap, rfl, rfl, hel⟩ := term_value hpv
    simp only [Tm.size] at ht hsz
    have hts : n.data.toList.length = n.size := by simp
    have hbl : (Lib.byteCells l).length = l.length := Lib.byteCells_length l
    by_cases h1 : k = 1
    · subst h1
      have hs : 0 ≤ s ∧ s ≤ 5 := by simpa [wokT] using hok
      rw [wtx_var] at hlen ⊢
      simp only [List.length_append, List.length_cons] at hlen
      by_cases h0 : s = 0
      · subst h0
        refine (Tryz.write_var_any B b _ n _ w hb (by omega) hBw).mono ?_
        rintro e w' ⟨he, h2, h3, h4⟩
        refine ⟨he, ?_, h3, h4⟩
        rw [if_pos rfl, List.append_nil, cells_app]
        rw [show Lib.strCells (⟨#[63]⟩ ++ n) = Lib.byteCells (63 :: n.data.toList) from by rw [Lib.strCells_eq]; congr 1] at h2
        exact h2
      · refine (Tryz.write_var B b _ n s _ w hb (by omega) (by omega) hBw hW).mono ?_
        rintro e w' ⟨he, h2, h3, h4⟩
        refine ⟨he, ?_, h3, h4⟩
        rw [if_neg h0, cells_app]
        exact h2
    · by_cases h2 : k = 2
      · subst h2
        have hs : 0 ≤ s ∧ s ≤ 5 := by simpa [wokT] using hok
        rw [wtx_atom] at hlen ⊢
        simp only [List.length_append, List.length_cons] at hlen
        have hc : s = 0 ∨ s = 1 ∨ s = 2 ∨ s = 3 ∨ s = 4 ∨ s = 5 := by omega
        rw [cells_app]
        rcases hc with rfl | rfl | rfl | rfl | rfl | rfl
        · exact Tryz.write_atom0 B b _ n _ w hb (by omega) hBw hW
        · exact Tryz.write_atom1 B b _ n _ w hb (by omega) hBw hW
        · exact Tryz.write_atom2 B b _ n _ w hb (by omega) hBw hW
        · exact Tryz.write_atom3 B b _ n _ w hb (by omega) hBw hW
        · exact Tryz.write_atom4 B b _ n _ w hb (by omega) hBw hW
        · exact Tryz.write_atom5 B b _ n _ w hb (by omega) hBw hW
      · rw [wtx_app h1 h2] at hlen ⊢
        have hoks : wokTs ts = true := by simpa [wokT, h1, h2] using hok
        refine Tryz.write_app B b l k s n ts a cap w hb h1 h2 hlen hBw hW (by have := sizes_len ts; omega) (fun j t hj => ?_) fun t ht' l' w' vt' g1 g2 g3 g4 g5 => ?_
        · have hne : ts ≠ [] := fun e => by rw [e] at hj; simp at hj
          obtain ⟨kb, ko, rfl, hp⟩ := hel hne
          obtain ⟨us, q1, q2, q3, q4⟩ := kid_cells hp hj
          exact ⟨kb, ko, us, rfl, q2, q1, q3, q4⟩
        · have := sizes_mem ht'
          exact ih t (by omega) (by omega) (wtxs_mem ht' hoks) l' w' vt' g1 g2 g3 g4 g5
end Go.Proofs
namespace Go.Abs
open Go.RowKit (Below)
section
variable {P : Program} {E : Env}
theorem ok_not_row {k : Nat} {f : Fam} (hf : E.h.fams[k]? = some f) (hw : f.wr = true) (hS : SR E) {b o : Nat} (ho : E.ok b o) : b ≠ (E.im k).b := by
  intro e
  rcases ho with ⟨h1, _⟩ | ⟨_, _, _, h4⟩
  · have := (hS.fams k f hf).base
    omega
  · have := (h4 k f hf e.symm).1
    rw [hw] at this
    cases this
theorem run_copy_K (w : World) (dT sT ty elem : TypeId) (K g o dLen dCap : Nat) (a : Addr) (sLen sCap n : Nat) (cur : Array Value) (t : TypeId) (cs : List Value)
    (hu : P.underlying dT = some (.slice elem)) (hs : (P.info? elem).map (·.size) = some K)
    (hg : w.heap[g]? = some (.cells cur t (0, 0))) (hn : Nat.min sLen dLen = n) (hl : cs.length = n * K)
    (hsrc : ∀ j v, cs[j]? = some v → w.cell? (a.add j) = some v) (hfit : o + cs.length ≤ cur.size) (h1 : ∀ v ∈ cs, v.oneCell' = true) :
    (Builtin.copy_ #[dT, sT] ty #[.slice (some ⟨g, o, none⟩) dLen dCap, .slice (some a) sLen sCap]).run P w =
      .ok (goInt n) (w.setRow g (cur.toList.take o ++ cs ++ cur.toList.drop (o + cs.length)).toArray) := by
  have hl' := run_loadCells_list (P := P) w a cs hsrc
  have hst := run_storeCells_at P g o t cs 0 cur w hg (by simpa using hfit) h1
  cases hq : P.info? elem with
  | none => simp [hq] at hs
  | some i =>
    have hi : i.size = K := by simpa [hq] using hs
    simp [Builtin.copy_, run_underlying hu, Builtin.lenOf, Builtin.firstCells, sizeOf, typeInfo, hq, hi, hn, ← hl, hl', hst]
theorem run_append_in2 (t tx ty e ex : TypeId) (i : TypeInfo) (ht : P.underlying t = some (.slice e)) (htx : P.underlying tx = some (.slice ex)) (hi : P.info? e = some i)
    (g q sLen sCap : Nat) (cur : Array Value) (t' : TypeId) (w : World) (hg : w.heap[g]? = some (.cells cur t' (0, 0)))
    (a : Addr) (m c : Nat) (news : List Value) (hl : news.length = m * i.size) (hnews : ∀ j u, news[j]? = some u → w.cell? (a.add j) = some u) (h1 : ∀ u ∈ news, u.oneCell' = true)
    (hroom : sLen + m ≤ sCap) (hfit : q + sLen * i.size + news.length ≤ cur.size) :
    (Builtin.append_ #[t, tx] ty #[.slice (some ⟨g, q, none⟩) sLen sCap, .slice (some a) m c]).run P w =
      .ok (.slice (some ⟨g, q, none⟩) (sLen + m) sCap) (w.setRow g (cur.toList.take (q + sLen * i.size) ++ news ++ cur.toList.drop (q + sLen * i.size + news.length)).toArray) := by
  have hf := run_firstCells_some (P := P) w i.size m a m c news hl hnews
  have hst := run_storeCells_at P g (q + sLen * i.size) t' news 0 cur w hg (by simpa using hfit) h1
  simp only [Nat.add_zero] at hst
  simp [Builtin.append_, run_underlying ht, run_underlying htx, sizeOf, typeInfo, hi, Builtin.lenOf, hroom, hf, add_addr, hst]
theorem run_overlaps_row (w : World) (tS tS' tR e : TypeId) (ht : P.underlying tS = some (.slice e)) (size : Nat) (hz : ∀ w, (Go.sizeOf e).run P w = .ok size w)
    (a b : Addr) (la ca lb cb : Nat) (hne : a.block ≠ b.block) (cur cur' : Array Value) (t t' : TypeId) (fr : Nat × Nat) (ha : w.heap[a.block]? = some (.cells cur t fr)) (h0 : 0 < cur.size)
    (hb : w.heap[b.block]? = some (.cells cur' t' (0, 0))) (h0' : 0 < cur'.size) :
    (Extern.SlicesOverlaps.overlaps #[tS, tS'] #[tR] #[.slice (some a) la ca, .slice (some b) lb cb]).run P w = .ok (.bool false) w := by
  have hnb : (a.block != b.block) = true := by simpa using hne
  have hnb' : (a.block == b.block) = false := by simpa using hne
  have hsa : w.shape? a.block = some (t, cur.size) := by simp [World.shape?, ha]
  have hsb : w.shape? b.block = some (t', cur'.size) := by simp [World.shape?, hb]
  have hfb : w.frozen? b = false := by simp [World.frozen?, hb]
  have hfb' : w.frozen? { block := b.block, off := cur'.size } = false := by simp [World.frozen?, hb]
  change Sem.run P (α := Value) (do
    let some t := (#[tS, tS'] : Array TypeId)[0]? | stuck "slices.overlaps: no parameter types"
    let .slice elem ← underlying t | stuck "slices.overlaps: slice type expected"
    let size ← sizeOf elem
    match (some a : Option Addr), (some b : Option Addr) with
    | some a, some b =>
      if la = 0 ∨ lb = 0 ∨ size = 0 then pure (Value.bool false)
      else if a.block != b.block && (← frozen a) && (← frozen b) then unsupported .addressObserved
      else do
        if a.block != b.block then do
          noView a; noView b
          if ← mayBeOne a b then return Value.bool ((← choose (.extern "sameAddr.stringBytes" 2)) == 1)
        pure (Value.bool (a.block == b.block && a.off < b.off + lb * size && b.off < a.off + la * size))
    | _, _ => pure (Value.bool false)) w = _
  by_cases hc : la = 0 ∨ lb = 0 ∨ size = 0
  · simp [run_underlying ht, hz, hc]
  · obtain ⟨ka, hka⟩ : ∃ k, cur.size = k + 1 := ⟨cur.size - 1, by omega⟩
    obtain ⟨kb, hkb⟩ : ∃ k, cur'.size = k + 1 := ⟨cur'.size - 1, by omega⟩
    rw [hka] at hsa
    rw [hkb] at hsb hfb'
    cases hfa : w.frozen? a <;> cases hfe : w.frozen? { block := a.block, off := ka + 1 } <;>
      simp [run_underlying ht, hz, hc, hnb, hnb', frozen, noView, viewAt, mayBeOne, stringish, shape, Sem.run, hsa, hsb, hfb, hfb', hfa, hfe]
structure InsLaw (P : Program) (f : FuncId) (K bytes : Nat) : Prop where
  pos : 0 < K
  enter : Program.enterable P f = true
  inR : ∀ (w : World) (blk o n c i vb vo vc : Nat) (cur : Array Value) (t : TypeId) (cs vs : List Value), i ≤ n → n + 1 ≤ c → c ≤ maxLen → cs.length = n * K → vs.length = K → w.heap[blk]? = some (.cells cur t (0, 0)) → (∀ j, j < n * K → cur[o + j]? = cs[j]?) →
    o + c * K ≤ cur.size → (∀ j v, vs[j]? = some v → w.cell? ⟨vb, vo + j, none⟩ = some v) → vb ≠ blk → (∀ v ∈ cs, v.oneCell' = true) → (∀ v ∈ vs, v.oneCell' = true) →
    Calls P f #[.slice (some ⟨blk, o, none⟩) n c, .int .i64 i, .slice (some ⟨vb, vo, none⟩) 1 vc] w fun e w' => e = .returned (.slice (some ⟨blk, o, none⟩) (n + 1) c) ∧ ∃ (q : Nat) (us : Array Value), w' = (w.drewN q).setRow blk us ∧ us.size = cur.size ∧
      ∀ j, j < (n + 1) * K → us[o + j]? = (cs.take (i * K) ++ vs ++ cs.drop (i * K))[j]?
  newR : ∀ (w : World) (base : Option Addr) (n c i vb vo vc : Nat) (cs vs : List Value), i ≤ n → n ≤ c → c < n + 1 → n + 1 ≤ maxLen → (n + 1) * bytes ≤ roomA → cs.length = n * K → vs.length = K → (base = none → n = 0) →
    (∀ a, base = some a → (0 < n → a.spot = none) ∧ ∀ j v, cs[j]? = some v → w.cell? (a.add j) = some v) → (∀ j v, vs[j]? = some v → w.cell? ⟨vb, vo + j, none⟩ = some v) → (∀ v ∈ cs, v.oneCell' = true) → (∀ v ∈ vs, v.oneCell' = true) →
    Calls P f #[.slice base n c, .int .i64 i, .slice (some ⟨vb, vo, none⟩) 1 vc] w fun e w' => ∃ (q G : Nat) (us : Array Value) (t : TypeId), e = .returned (.slice (some ⟨w.heap.size, 0, none⟩) (n + 1) G) ∧ w' = (w.drewN q).alloc (.cells us t) ∧ n + 1 ≤ G ∧ G ≤ maxLen ∧ G * K ≤ us.size ∧
      ∀ j, j < (n + 1) * K → us[j]? = (cs.take (i * K) ++ vs ++ cs.drop (i * K))[j]?
theorem drewN_Bl (w : World) (q : Nat) : Bl w.heap.size w (w.drewN q) := ⟨⟨rfl, rfl, rfl, Nat.le_refl _, fun _ _ => rfl⟩, fun _ => Nat.le_add_right _ _⟩
theorem RowL_ins {cs vs : List Value} {xs : List AV} {x : AV} {K n i : Nat} (hr : RowL E cs xs K) (hl : cs.length = n * K) (hxl : xs.length = n) (hv : RowL E vs [x] K) (hvl : vs.length = K) (hi : i ≤ n) :
    RowL E (cs.take (i * K) ++ vs ++ cs.drop (i * K)) (xs.take i ++ x :: xs.drop i) K := by
  have h1 : RowL E (cs.take (i * K)) (xs.take i) K := by
    intro j y hy
    rw [List.getElem?_take] at hy
    split at hy
    · rename_i hj
      obtain ⟨g1, g2⟩ := hr j y hy
      refine ⟨g1, fun c z hz => ?_⟩
      obtain ⟨v, v1, v2⟩ := g2 c z hz
      have hc : c < K := by have := (List.getElem?_eq_some_iff.1 hz).1; omega
      have := mul_room hj hc
      exact ⟨v, by rw [List.getElem?_take, if_pos (by omega)]; exact v1, v2⟩
    · cases hy
  have h2 : RowL E (cs.drop (i * K)) (xs.drop i) K := by
    intro j y hy
    rw [List.getElem?_drop] at hy
    obtain ⟨g1, g2⟩ := hr (i + j) y hy
    refine ⟨g1, fun c z hz => ?_⟩
    obtain ⟨v, v1, v2⟩ := g2 c z hz
    refine ⟨v, ?_, v2⟩
    rw [List.getElem?_drop, ← Nat.add_assoc, ← Nat.add_mul]
    exact v1
  have hiK : i * K ≤ n * K := Nat.mul_le_mul_right _ hi
  have h3 := RowL_append (RowL_append h1 (by rw [List.length_take, List.length_take, hl, hxl, Nat.min_eq_left hiK, Nat.min_eq_left hi]) hv) (by
    rw [List.length_append, List.length_append, List.length_take, List.length_take, hl, hxl, hvl, Nat.min_eq_left hiK, Nat.min_eq_left hi, Nat.add_mul]; simp) h2
  rw [List.append_assoc (xs.take i)] at h3
  exact h3
theorem whole_cells (hS : SR E) {k n : Nat} {f : Fam} {v : Value} (hv : VR E (.sl k n 0 n) v) (hf : E.h.fams[k]? = some f) (hn : f.xs.length = n) (h0 : 0 < n) : ∃ (cur : Array Value) (t : TypeId) (cs : List Value), v = .slice (some ⟨(E.im k).b, (E.im k).o, none⟩) n (E.im k).cap ∧ (E.im k).lo = 0 ∧ n ≤ (E.im k).cap ∧ (E.im k).cap ≤ maxLen ∧
    E.w.heap[(E.im k).b]? = some (.cells cur t (0, 0)) ∧ (E.im k).o + (E.im k).cap * f.sz ≤ cur.size ∧ cs.length = n * f.sz ∧ (∀ j, j < n * f.sz → cur[(E.im k).o + j]? = cs[j]?) ∧ (∀ u ∈ cs, u.oneCell' = true) ∧ RowL E cs f.xs f.sz := by
  simp only [VR] at hv
  obtain ⟨a, cap, f', rfl, hf', ⟨_, _⟩, hv⟩ := hv
  rw [hf] at hf'
  cases hf'
  obtain ⟨l1, _, l3, _, l5⟩ := hv hn
  have hF := hS.fams k f hf
  have hlo : (E.im k).lo = 0 := by omega
  have hroom := hF.room
  have hcap : cap = (E.im k).cap := by omega
  have ha : a = some ⟨(E.im k).b, (E.im k).o, none⟩ := by
    have := l5 (by omega)
    rw [hlo] at this
    simpa using this
  subst ha
  obtain ⟨cur, t, hcur, hfit, hel⟩ := hF.cells
  rw [hlo] at hel
  have hnK : n * f.sz ≤ (E.im k).cap * f.sz := Nat.mul_le_mul_right _ (by omega)
  refine ⟨cur, t, (List.range (n * f.sz)).map fun j => cur.getD ((E.im k).o + j) undef, by rw [hcap], hlo, by omega, hF.cap, hcur, hfit, by simp, fun j hj => ?_, fun u hu => ?_, fun j x hx => ?_⟩
  · rw [List.getElem?_map, List.getElem?_range hj, Option.map_some, Array.getD_eq_getD_getElem?, Array.getElem?_eq_getElem (by omega)]
    rfl
  · rw [List.mem_map] at hu
    obtain ⟨j, hj, rfl⟩ := hu
    rw [List.mem_range] at hj
    obtain ⟨q1, q2, q3⟩ := div_cut hF.sz hj
    obtain ⟨g1, g2⟩ := hel (j / f.sz) _ (Nat.zero_le _) (List.getElem?_eq_getElem (by omega))
    obtain ⟨u, u1, u2, _⟩ := g2 (j % f.sz) _ (List.getElem?_eq_getElem (by omega))
    rw [Nat.sub_zero, show (E.im k).o + j / f.sz * f.sz + j % f.sz = (E.im k).o + j from by omega] at u1
    rw [Array.getD_eq_getD_getElem?, u1]
    exact u2
  · obtain ⟨g1, g2⟩ := hel j x (Nat.zero_le _) hx
    refine ⟨g1, fun c y hy => ?_⟩
    obtain ⟨u, u1, u2, u3⟩ := g2 c y hy
    rw [Nat.sub_zero] at u1
    have hj : j < n := by have := (List.getElem?_eq_some_iff.1 hx).1; omega
    have hc : c < f.sz := by have := (List.getElem?_eq_some_iff.1 hy).1; omega
    have hlt := mul_room hj hc
    refine ⟨u, ?_, u2, u3⟩
    rw [List.getElem?_map, List.getElem?_range hlt, Option.map_some, Array.getD_eq_getD_getElem?, show (E.im k).o + (j * f.sz + c) = (E.im k).o + j * f.sz + c from by omega, u1]
    rfl
theorem one_cells (hS : SR E) {q : Bool} {z K : Nat} {x : AV} {v : Value} (hz : z = K) (hv : VR E (.vs q z [x]) v) : ∃ (vb vo vc : Nat) (vs : List Value), v = .slice (some ⟨vb, vo, none⟩) 1 vc ∧ vs.length = K ∧ (∀ j u, vs[j]? = some u → E.w.cell? ⟨vb, vo + j, none⟩ = some u ∧ E.ok vb (vo + j)) ∧ (∀ u ∈ vs, u.oneCell' = true) ∧ RowL E vs [x] K ∧ 0 < K := by
  subst hz
  simp only [VR, PV] at hv
  obtain ⟨a, len, cap, rfl, rfl, _, _, _, _, h6⟩ := hv
  obtain ⟨b, o, rfl, hz, he⟩ := h6 (by simp)
  obtain ⟨p1, p2⟩ := PEls_get he (j := 0) (x := x) rfl
  rw [Nat.zero_mul, Nat.add_zero] at p2
  have hex : ∀ c, c < z → ∃ u y, x.cells[c]? = some y ∧ E.ok b (o + c) ∧ E.w.cell? ⟨b, o + c, none⟩ = some u ∧ u.oneCell' = true ∧ PV E.w E.ok y u := fun c hc => by
    have hlt : c < x.cells.length := by omega
    obtain ⟨u, u1, u2, u3, u4⟩ := PCells_get p2 (List.getElem?_eq_getElem hlt)
    exact ⟨u, _, List.getElem?_eq_getElem hlt, u1, u2, u3, u4⟩
  refine ⟨b, o, cap, (List.range z).map fun c => (E.w.cell? ⟨b, o + c, none⟩).getD undef, rfl, by simp, fun j u hu => ?_, fun u hu => ?_, fun j y hy => ?_, hz⟩
  · rw [List.getElem?_map] at hu
    by_cases hj : j < z
    · rw [List.getElem?_range hj, Option.map_some, Option.some.injEq] at hu
      obtain ⟨u', _, _, u1, u2, _⟩ := hex j hj
      rw [u2] at hu ⊢
      cases hu
      exact ⟨rfl, u1⟩
    · rw [List.getElem?_eq_none (by simpa using hj)] at hu
      cases hu
  · rw [List.mem_map] at hu
    obtain ⟨j, hj, rfl⟩ := hu
    rw [List.mem_range] at hj
    obtain ⟨u', _, _, u1, u2, u3, _⟩ := hex j hj
    rw [u2]
    exact u3
  · have hj : j = 0 := by
      have := (List.getElem?_eq_some_iff.1 hy).1
      simp at this
      exact this
    subst hj
    simp only [List.getElem?_cons_zero, Option.some.injEq] at hy
    subst hy
    refine ⟨p1, fun c y hy => ?_⟩
    have hc : c < z := by have := (List.getElem?_eq_some_iff.1 hy).1; omega
    obtain ⟨u, u1, u2, u3, u4⟩ := PCells_get p2 hy
    refine ⟨u, ?_, u3, u4⟩
    rw [Nat.zero_mul, Nat.zero_add, List.getElem?_map, List.getElem?_range hc, Option.map_some, u2]
    rfl
theorem ins_sound {f : FuncId} {K bytes : Nat} (L : InsLaw P f K bytes) (O : Orc) (args : List AV) (h : AH) (r : AV) (h' : AH) (he : (insR K bytes).run O args h = some (r, h')) : Program.enterable P f = true ∧
    ∀ (E : Env) (vs : Array Value), SR E → GlobP E.w E.ok → E.h = h → VRs E args vs.toList →
      Calls P f vs E.w fun e w' => ∃ u E', e = .returned u ∧ w' = E'.w ∧ Ext E E' ∧ SR E' ∧ E'.h = h' ∧ VR E' r u := by
  refine ⟨L.enter, fun E avs hS _ hh hv => ?_⟩
  subst hh
  change insRun K bytes args E.h = some (r, h') at he
  unfold insRun at he
  split at he
  · rename_i s i q z x
    split at he
    · rename_i hc0
      obtain ⟨hzK, hag⟩ := hc0
      obtain ⟨avs⟩ := avs
      simp only [VRs] at hv
      obtain ⟨v0, _, rfl, hv0, v1, _, rfl, hv1, v2, _, rfl, hv2, rfl⟩ := hv
      simp only [VR] at hv1
      subst hv1
      obtain ⟨vb, vo, vc, vs, rfl, hvl, hvc, hv1c, hvr, hK⟩ := one_cells hS hzK hv2
      have hvc1 : ∀ j u, vs[j]? = some u → E.w.cell? ⟨vb, vo + j, none⟩ = some u := fun j u hu => (hvc j u hu).1
      have hv0' : ∃ u, vs[0]? = some u := ⟨_, List.getElem?_eq_getElem (by omega)⟩
      split at he
      · rename_i k n off len
        split at he
        · rename_i f' hf
          split at he
          · rename_i hc
            obtain ⟨c1, c2, c3, c4, c5, c6, c7, c8, c9, c10⟩ := hc
            cases he
            subst c2
            have c3' := c3.symm
            subst c3'
            obtain ⟨cur, t, cs, rfl, hlo, hncap, hcapm, hcur, hfit, hcl, hcc, hc1, hrow⟩ := whole_cells hS hv0 hf c1 c4
            rw [c6] at hfit hcl hcc hrow
            have hi0 : (i.toNat : Int) = i := Int.toNat_of_nonneg c7
            have hin : i.toNat ≤ n := by omega
            have hne : vb ≠ (E.im k).b := by
              obtain ⟨u, hu⟩ := hv0'
              exact ok_not_row hf c5 hS (hvc 0 u hu).2
            have hrow' : ∀ {E' : Env}, Ext E E' → RowL E' (cs.take (i.toNat * K) ++ vs ++ cs.drop (i.toNat * K)) (f'.xs.take i.toNat ++ x :: f'.xs.drop i.toNat) K := fun hx => RowL_ext hx (RowL_ins hrow hcl c1 hvr hvl hin)
            have hlen : (f'.xs.take i.toNat ++ x :: f'.xs.drop i.toNat).length = n + 1 := by simp; omega
            rw [← hi0]
            by_cases hroom : n + 1 ≤ (E.im k).cap
            · refine (L.inR E.w (E.im k).b (E.im k).o n (E.im k).cap i.toNat vb vo vc cur t cs vs hin hroom hcapm hcl hvl hcur hcc hfit hvc1 hne hc1 hv1c).mono fun e w' ⟨h1, q, us, h2, h3, h4⟩ => ?_
              have x1 := grow_ext hS (drewN_Bl E.w q)
              have s1 := grow_SR hS (drewN_Bl E.w q)
              have hcur1 : ({ E with w := E.w.drewN q } : Env).w.heap[(({ E with w := E.w.drewN q } : Env).im k).b]? = some (.cells cur t (0, 0)) := hcur
              have hle : f'.xs.length ≤ (f'.xs.take i.toNat ++ x :: f'.xs.drop i.toNat).length := by rw [hlen]; omega
              have x2 := setFam_ext s1 (f' := { f' with xs := f'.xs.take i.toNat ++ x :: f'.xs.drop i.toNat }) (us := us) hf hcur1 rfl rfl hle (fun hw => by rw [c5] at hw; cases hw)
              have s2 := setFam_SR s1 (f' := { f' with xs := f'.xs.take i.toNat ++ x :: f'.xs.drop i.toNat }) (us := us) hf hcur1 rfl rfl hle (fun hw => by rw [c5] at hw; cases hw)
                (by show (f'.xs.take i.toNat ++ x :: f'.xs.drop i.toNat).length ≤ (E.im k).lo + (E.im k).cap; omega) h3 (by
                  intro j y _ hy
                  show FElem _ _ ((E.im k).o + (j - (E.im k).lo) * f'.sz) f'.sz y
                  rw [hlo, Nat.sub_zero, c6]
                  obtain ⟨g1, g2⟩ := hrow' x1 j y hy
                  refine ⟨g1, fun c y' hy' => ?_⟩
                  obtain ⟨v, v1, v2⟩ := g2 c y' hy'
                  have hjn : j < n + 1 := by have := (List.getElem?_eq_some_iff.1 hy).1; rw [← hlen]; exact this
                  have hcK : c < K := by have := (List.getElem?_eq_some_iff.1 hy').1; omega
                  exact ⟨v, by rw [Nat.add_assoc, h4 _ (mul_room hjn hcK)]; exact v1, v2⟩)
              refine ⟨_, ({ E with w := E.w.drewN q } : Env).setFam k us { f' with xs := f'.xs.take i.toNat ++ x :: f'.xs.drop i.toNat }, h1, h2, x1.trans x2, s2, rfl, ?_⟩
              have hk' := (List.getElem?_eq_some_iff.1 hf).1
              simp only [VR, Env.setFam]
              exact ⟨_, _, { f' with xs := f'.xs.take i.toNat ++ x :: f'.xs.drop i.toNat }, rfl, by simp [hk'], ⟨by rw [hlen]; exact Nat.le_refl _, fun _ => ⟨_, _, rfl⟩⟩, fun _ => ⟨by omega, by omega, by omega, (fun h => nomatch h), fun _ => by simp [hlo]⟩⟩
            · refine (L.newR E.w (some ⟨(E.im k).b, (E.im k).o, none⟩) n (E.im k).cap i.toNat vb vo vc cs vs hin hncap (by omega) c10 c9 hcl hvl (fun h => nomatch h) (fun a ha => ?_) hvc1 hc1 hv1c).mono fun e w' ⟨q, G, us, te, h1, h2, h3, h4, h5, h6⟩ => ?_
              · cases ha
                refine ⟨fun _ => rfl, fun j v hj => ?_⟩
                have hjn : j < n * K := by have := (List.getElem?_eq_some_iff.1 hj).1; omega
                rw [add_addr, cell_of_row _ _ _ _ _ _ hcur, hcc j hjn]
                exact hj
              have x1 := grow_ext hS (drewN_Bl E.w q)
              have s1 := grow_SR hS (drewN_Bl E.w q)
              have hlt : f'.xs.length < (f'.xs.take i.toNat ++ x :: f'.xs.drop i.toNat).length := by rw [hlen]; omega
              have x2 := moveFam_ext s1 (f' := { f' with xs := f'.xs.take i.toNat ++ x :: f'.xs.drop i.toNat }) hf us te 0 G rfl hlt
              have s2 := moveFam_SR s1 (f' := { f' with xs := f'.xs.take i.toNat ++ x :: f'.xs.drop i.toNat }) (us := us) (t := te) (lo := 0) (cap := G) hf rfl hlt (Nat.zero_le _) (by show (f'.xs.take i.toNat ++ x :: f'.xs.drop i.toNat).length ≤ 0 + G; omega) h4 (by rw [c6]; exact h5) (by
                  intro j y _ hy
                  rw [Nat.sub_zero, c6]
                  obtain ⟨g1, g2⟩ := hrow' x1 j y hy
                  refine ⟨g1, fun c y' hy' => ?_⟩
                  obtain ⟨v, v1, v2⟩ := g2 c y' hy'
                  have hjn : j < n + 1 := by have := (List.getElem?_eq_some_iff.1 hy).1; rw [← hlen]; exact this
                  have hcK : c < K := by have := (List.getElem?_eq_some_iff.1 hy').1; omega
                  exact ⟨v, by rw [h6 _ (mul_room hjn hcK)]; exact v1, v2⟩)
              refine ⟨_, ({ E with w := E.w.drewN q } : Env).moveFam k us te 0 G { f' with xs := f'.xs.take i.toNat ++ x :: f'.xs.drop i.toNat }, h1, h2, x1.trans x2, s2, rfl, ?_⟩
              have hk' := (List.getElem?_eq_some_iff.1 hf).1
              simp only [VR, Env.moveFam, upd_same]
              exact ⟨_, _, { f' with xs := f'.xs.take i.toNat ++ x :: f'.xs.drop i.toNat }, rfl, by simp [hk'], ⟨by rw [hlen]; exact Nat.le_refl _, fun _ => ⟨_, _, rfl⟩⟩, fun _ => ⟨Nat.le_refl _, by omega, by omega, (fun h => nomatch h), fun _ => by simp⟩⟩
          · cases he
        · cases he
      · rename_i z'
        split at he
        · rename_i hc
          obtain ⟨rfl, hb⟩ := hc
          cases he
          simp only [VR, PV] at hv0
          obtain ⟨base, len, cap, rfl, rfl, _, _, h4', _, _⟩ := hv0
          have hcap : cap = 0 := h4' trivial
          subst hcap
          refine (L.newR E.w base 0 0 0 vb vo vc [] vs (Nat.le_refl _) (Nat.le_refl _) (by omega) (by unfold maxLen; omega) (by omega) (by simp) hvl (fun _ => rfl) (fun a ha => ?_) hvc1 (fun _ h => nomatch h) hv1c).mono fun e w' ⟨q, G, us, te, h1, h2, h3, h4, h5, h6⟩ => ?_
          · exact ⟨fun h => absurd h (Nat.lt_irrefl 0), fun j v hj => by simp at hj⟩
          have x1 := grow_ext hS (drewN_Bl E.w q)
          have s1 := grow_SR hS (drewN_Bl E.w q)
          refine ⟨_, ({ E with w := E.w.drewN q } : Env).newFam us te G ⟨[x], K, true⟩, h1, h2, x1.trans (newFam_ext s1 _ _ _ _), newFam_SR s1 hK (by simpa using h3) h4 h5 (fun j y hy => ?_), rfl, ?_⟩
          · obtain ⟨g1, g2⟩ := RowL_ext x1 hvr j y hy
            refine ⟨g1, fun c y' hy' => ?_⟩
            obtain ⟨v, v1, v2⟩ := g2 c y' hy'
            have hjn : j < 0 + 1 := by have := (List.getElem?_eq_some_iff.1 hy).1; simpa using this
            have hcK : c < K := by have := (List.getElem?_eq_some_iff.1 hy').1; omega
            exact ⟨v, by rw [h6 _ (mul_room hjn hcK)]; simpa using v1, v2⟩
          · simp only [VR, Env.newFam, upd_same]
            exact ⟨_, _, ⟨[x], K, true⟩, rfl, by simp, ⟨by simp, fun _ => ⟨_, _, rfl⟩⟩, fun _ => ⟨Nat.zero_le _, by simp, by simp, (fun h => nomatch h), fun _ => by simp⟩⟩
        · cases he
      · cases he
    · cases he
  · cases he
end
end Go.Abs
