/- A part of the proof. -/
import Derived.Test.YthcbgdmeacaglaaGreatDoorTE17
import Derived.Test.YthcbgdmeacaglaaGreatDoorProg
import Derived.ProofKit
import Derived.WalkKit
import Derived.Lib.Walk
import Derived.Lib.SliceRun
import Derived.Shelf.RegionOpenPlain
import Derived.Shelf.Spec.SlicesInsert
import Derived.KernelRfl
import Derived.Lib.AppendZerosOnto
import Derived.Laws.NewBlocks
import Derived.Lib.Strings
import Derived.Lib.Slices
import Derived.Lib.Bytealg
import Derived.Deep.Draws
set_option linter.all false
set_option linter.unusedVariables false
set_option linter.unusedSimpArgs false
namespace Go.Proofs
open Go.RowKit Go.Lib Go.Abs
theorem Tryz.setUnd : Tryz.prog.underlying 278 = some (.slice 52) := by kernel_rfl
theorem Tryz.termsUnd : Tryz.prog.underlying 44 = some (.slice 52) := by kernel_rfl
theorem Tryz.intUnd : Tryz.prog.underlying 3 = some (.int .i64) := by kernel_rfl
set_option maxHeartbeats 4000000 in
set_option maxRecDepth 100000 in
theorem Tryz.ins_end_room (blk o n c vb vo vc : Nat) (cur : Array Value) (t : TypeId) (vs : List Value) (w : World) (hroom : n + 1 ≤ c) (hm : c ≤ maxLen) (hvl : vs.length = 4) (hcur : w.heap[blk]? = some (.cells cur t (0, 0))) (hfit : o + c * 4 ≤ cur.size)
    (hvs : ∀ j v, vs[j]? = some v → w.cell? ⟨vb, vo + j, none⟩ = some v) (h1v : ∀ v ∈ vs, v.oneCell' = true) (us : Array Value) (hus : us = (cur.toList.take (o + n * 4) ++ vs ++ cur.toList.drop (o + n * 4 + vs.length)).toArray) :
    Calls Tryz.prog 313 #[.slice (some ⟨blk, o, none⟩) n c, .int .i64 n, .slice (some ⟨vb, vo, none⟩) 1 vc] w fun e w' => e = .returned (.slice (some ⟨blk, o, none⟩) (n + 1) c) ∧ w' = w.setRow blk us := by
  obtain ⟨i0, hi0, hsz⟩ : ∃ i0, Tryz.prog.info? 52 = some i0 ∧ i0.size = 4 := ⟨_, rfl, by kernel_rfl⟩
  have hrun : ∀ ty, (Builtin.append_ #[278, 44] ty #[.slice (some ⟨blk, o, none⟩) n c, .slice (some ⟨vb, vo, none⟩) 1 vc]).run Tryz.prog w = _ := fun ty =>
    run_append_in2 278 44 ty 52 52 i0 Tryz.setUnd Tryz.termsUnd hi0 blk o n c cur t w hcur ⟨vb, vo, none⟩ 1 vc vs (by rw [hsz, hvl]) (fun j v hj => by rw [Addr.add_lit]; exact hvs j v hj) h1v hroom (by rw [hsz, hvl]; omega)
  rw [hsz, ← hus] at hrun
  have hmm : maxLen ≤ 9223372036854775807 := by unfold maxLen; omega
  clear hus
  go_enter Tryz.func313, Tryz.ntmps313
  go_wp2_with (at_builtin; refine Lib.wpList_append_run _ rfl _ _ _ _ rfl _ _ rfl rfl _ _ (hrun _) ?_)
  go_ret
  exact ⟨rfl, rfl⟩
set_option maxHeartbeats 4000000 in
set_option maxRecDepth 100000 in
theorem Tryz.ins_end_grow (base : Option Addr) (n c vb vo vc : Nat) (cs vs : List Value) (w : World) (i0 : TypeInfo) (z : Value) (hi0 : Tryz.prog.info? 52 = some i0) (hz0 : i0.zero = some z) (hsz : i0.size = 4) (hnc : n ≤ c) (hroom : c < n + 1) (hm : n + 1 ≤ maxLen) (hbig : (n + 1) * i0.bytes ≤ 140737488355328)
    (hcl : cs.length = n * 4) (hvl : vs.length = 4) (hnil : base = none → n = 0) (hcs : ∀ a, base = some a → ∀ j v, cs[j]? = some v → w.cell? (a.add j) = some v) (hvs : ∀ j v, vs[j]? = some v → w.cell? ⟨vb, vo + j, none⟩ = some v) (h1v : ∀ v ∈ vs, v.oneCell' = true) :
    Calls Tryz.prog 313 #[.slice base n c, .int .i64 n, .slice (some ⟨vb, vo, none⟩) 1 vc] w fun e w' => e = .returned (.slice (some ⟨w.heap.size, 0, none⟩) (n + 1) (grownCap w (n + 1) c 52)) ∧
      w' = w.drew.alloc (.cells ((cs ++ vs).toArray ++ Builtin.zeroCells z.cells (grownCap w (n + 1) c 52 - (n + 1))) 52) := by
  have hmm : maxLen ≤ 9223372036854775807 := by unfold maxLen; omega
  have hsrc : Src Tryz.prog i0.size 44 (.slice (some ⟨vb, vo, none⟩) 1 vc) 1 vs w := Src.ofSlice w Tryz.termsUnd ⟨vb, vo, none⟩ 1 vc vs (by rw [hsz, hvl]) (fun j u hj => by rw [Addr.add_lit]; exact hvs j u hj) h1v
  have hold : (Builtin.firstCells i0.size n (.slice base n c)).run Tryz.prog w.drew = .ok cs.toArray w.drew := by
    rw [hsz]
    cases base with
    | none =>
      have h0 := hnil rfl
      subst h0
      have hc0 : cs = [] := List.length_eq_zero_iff.1 (by simpa using hcl)
      rw [hc0]
      exact run_firstCells_none w.drew 4 0 0 c
    | some a => exact run_firstCells_some w.drew 4 n a n c cs hcl (fun j v hj => hcs a rfl j v hj)
  have hrun : ∀ ty, (Builtin.append_ #[278, 44] ty #[.slice base n c, .slice (some ⟨vb, vo, none⟩) 1 vc]).run Tryz.prog w = _ := fun ty =>
    run_append_grow_src w 278 44 ty 52 i0 z Tryz.setUnd hi0 hz0 base n c cs hold _ 1 vs hsrc hroom (by omega) (growslice_fits hroom hbig)
  generalize hG : grownCap w (n + 1) c 52 = G at *
  generalize hR : (cs ++ vs).toArray ++ Builtin.zeroCells z.cells (G - (n + 1)) = R at *
  clear hR hold hsrc hG
  go_enter Tryz.func313, Tryz.ntmps313
  cases base with
  | none =>
    have h0 := hnil rfl
    subst h0
    go_wp2_with (at_builtin; refine Lib.wpList_append_run _ rfl _ _ _ _ rfl _ _ rfl rfl _ _ (hrun _) ?_)
    go_ret
    exact ⟨rfl, rfl⟩
  | some a =>
    obtain ⟨ab, ao, asp⟩ := a
    go_wp2_with (at_builtin; refine Lib.wpList_append_run _ rfl _ _ _ _ rfl _ _ rfl rfl _ _ (hrun _) ?_)
    all_goals (go_ret; exact ⟨rfl, rfl⟩)
set_option maxHeartbeats 4000000 in
set_option maxRecDepth 100000 in
theorem Tryz.ins_shift (blk o n c i vb vo vc : Nat) (cur us1 us2 : Array Value) (t : TypeId) (cs vs : List Value) (w : World) (hi : i < n) (hroom : n + 1 ≤ c) (hm : c ≤ maxLen) (hcl : cs.length = n * 4) (hvl : vs.length = 4) (hne : vb ≠ blk)
    (hcur : w.heap[blk]? = some (.cells cur t (0, 0))) (hfit : o + c * 4 ≤ cur.size) (hcc : ∀ j, j < n * 4 → cur[o + j]? = cs[j]?) (hvs : ∀ j v, vs[j]? = some v → w.cell? ⟨vb, vo + j, none⟩ = some v) (h1c : ∀ v ∈ cs, v.oneCell' = true) (h1v : ∀ v ∈ vs, v.oneCell' = true)
    (hu1 : us1 = (cur.toList.take (o + (i + 1) * 4) ++ cs.drop (i * 4) ++ cur.toList.drop (o + (i + 1) * 4 + (cs.drop (i * 4)).length)).toArray) (hu2 : us2 = (us1.toList.take (o + i * 4) ++ vs ++ us1.toList.drop (o + i * 4 + vs.length)).toArray) :
    Calls Tryz.prog 313 #[.slice (some ⟨blk, o, none⟩) n c, .int .i64 i, .slice (some ⟨vb, vo, none⟩) 1 vc] w fun e w' => e = .returned (.slice (some ⟨blk, o, none⟩) (n + 1) c) ∧ w' = (w.drew.setRow blk us1).setRow blk us2 := by
  have hmm : maxLen ≤ 9223372036854775807 := by unfold maxLen; omega
  have hz2 : ¬ ((i : Int) = (n : Int)) := by omega
  have hsz : (Tryz.prog.info? 52).map (·.size) = some 4 := by kernel_rfl
  have zz : ∀ w, (Go.sizeOf 52).run Tryz.prog w = .ok 4 w := fun w => by
    cases hq : Tryz.prog.info? 52 with
    | none => simp [hq] at hsz
    | some i => simp [hq] at hsz; simp [Go.sizeOf, typeInfo, hq, hsz]
  have hcs0 : 0 < cur.size := by omega
  have hv0 : w.cell? ⟨vb, vo + 0, none⟩ = some vs[0] := hvs 0 _ (List.getElem?_eq_getElem (by omega))
  obtain ⟨curv, tv, frv, hcv, hcv0⟩ : ∃ curv tv frv, w.heap[vb]? = some (.cells curv tv frv) ∧ 0 < curv.size := by
    unfold World.cell? at hv0
    split at hv0
    · rename_i a b c' h
      refine ⟨a, b, c', h, ?_⟩
      simp only [Option.isSome_none, Bool.false_eq_true, if_false] at hv0
      have := (Array.getElem?_eq_some_iff.1 hv0).1
      omega
    · cases hv0
  have hov : ∀ x lb cb, (callFunc 347 #[.slice (some ⟨vb, vo, none⟩) 1 vc, .slice (some ⟨blk, x, none⟩) lb cb]).run Tryz.prog w = .ok (.value (.bool false)) w := fun x lb cb => by
    rw [run_callFunc_extern Tryz.func347 (by kernel_rfl) (by kernel_rfl) (by kernel_rfl) (e := Extern.SlicesOverlaps.overlaps #[44, 44] #[4]) (by kernel_rfl),
      run_overlaps_row w 44 44 4 52 Tryz.termsUnd 4 zz ⟨vb, vo, none⟩ ⟨blk, x, none⟩ 1 vc lb cb hne curv cur tv t frv hcv hcv0 hcur hcs0]
    rfl
  have hdl : (cs.drop (i * 4)).length = (n - i) * 4 := by rw [List.length_drop, hcl, Nat.sub_mul]
  have hcur' : w.drew.heap[blk]? = some (.cells cur t (0, 0)) := hcur
  have hcp1 : ∀ ty dc sc, (Builtin.copy_ #[278, 278] ty #[.slice (some ⟨blk, o + (i + 1) * 4, none⟩) (n - i) dc, .slice (some ⟨blk, o + i * 4, none⟩) (n + 1 - i) sc]).run Tryz.prog w.drew = .ok (goInt (n - i : Nat)) (w.drew.setRow blk us1) := fun ty dc sc => by
    rw [hu1]
    exact run_copy_K w.drew _ _ ty 52 4 blk (o + (i + 1) * 4) (n - i) dc ⟨blk, o + i * 4, none⟩ (n + 1 - i) sc (n - i) cur t (cs.drop (i * 4)) Tryz.setUnd hsz hcur' (by simp only [Nat.min_def]; split <;> omega) hdl
      (fun j v hj => by
        rw [Addr.add_lit, cell_of_row _ _ _ _ _ _ hcur']
        rw [List.getElem?_drop] at hj
        have hjn : i * 4 + j < n * 4 := by have := (List.getElem?_eq_some_iff.1 hj).1; omega
        rw [Nat.add_assoc, hcc _ hjn]
        exact hj) (by rw [hdl]; omega) (fun v hv => h1c v (List.mem_of_mem_drop hv))
  have hs1 : us1.size = cur.size := by rw [hu1]; simp; omega
  have hW1 : (w.drew.setRow blk us1).heap[blk]? = some (.cells us1 t (0, 0)) := setRow_heap _ _ _ _ _ _ hcur'
  have hcp2 : ∀ ty dc, (Builtin.copy_ #[278, 44] ty #[.slice (some ⟨blk, o + i * 4, none⟩) (n + 1 - i) dc, .slice (some ⟨vb, vo, none⟩) 1 vc]).run Tryz.prog (w.drew.setRow blk us1) = .ok (goInt (1 : Nat)) ((w.drew.setRow blk us1).setRow blk us2) := fun ty dc => by
    rw [hu2]
    exact run_copy_K (w.drew.setRow blk us1) _ _ ty 52 4 blk (o + i * 4) (n + 1 - i) dc ⟨vb, vo, none⟩ 1 vc 1 us1 t vs Tryz.setUnd hsz hW1 (by simp only [Nat.min_def]; split <;> omega) (by rw [hvl])
      (fun j v hj => by
        rw [Addr.add_lit, World.cell?_of_block (a := ⟨vb, vo + j, none⟩) (setRow_other _ _ _ _ hne)]
        exact hvs j v hj) (by rw [hvl, hs1]; omega) h1v
  have mixed : Tryz.prog.follows Departure.mixedOrders = true := by kernel_rfl
  have hw1 : IntKind.i64.wrap ((i : Int) + 1) = (i : Int) + 1 := by rw [IntKind.wrap_i64]; omega
  have hw2 : IntKind.i64.wrap ((n : Int) + 1) = (n : Int) + 1 := by rw [IntKind.wrap_i64]; omega
  have hb1 : (0 : Int) ≤ (i : Int) + 1 := by omega
  have hin : i ≤ n := by omega
  have htn : ((i : Int) + 1).toNat = i + 1 := by omega
  have htn2 : ((n : Int) + 1).toNat = n + 1 := by omega
  have hb2 : ¬ (c = i + 1) := by omega
  have hb3 : (i : Int) ≤ (n : Int) + 1 := by omega
  have hb4 : ¬ (c = i) := by omega
  clear hu1 hu2 hv0 hcc h1c h1v hvs hcv hW1 hdl
  go_enter Tryz.func313, Tryz.ntmps313
  go_wp2_with (simp only [hov])
  go_region_law_o (refine step_copy_runI rfl _ _ 278 278 rfl _ _ (by simp [Act.eval, Act.put]) (by simp [Act.eval, Act.put]) (hcp1 _ _ _) ?_)
  go_wp2_with (at_builtin; refine wpList_copy_runI _ rfl _ _ 278 44 rfl _ _ rfl rfl (hcp2 _ _) ?_)
  go_ret
  exact ⟨rfl, rfl⟩
theorem alloc_setRow (w : World) (r us : Array Value) (t : TypeId) : (w.alloc (.cells r t)).setRow w.heap.size us = w.alloc (.cells us t) := by
  unfold World.alloc World.setRow
  congr 1
  apply Array.ext_getElem?
  intro k
  simp only [Array.getElem?_modify, Array.getElem?_push]
  by_cases hk : w.heap.size = k
  · subst hk; simp
  · have : ¬ k = w.heap.size := fun e => hk e.symm
    simp [hk, this]
set_option maxHeartbeats 4000000 in
set_option maxRecDepth 100000 in
theorem Tryz.ins_grow (blk o n c i vb vo vc : Nat) (us1 us2 : Array Value) (cs vs : List Value) (w : World) (i0 : TypeInfo) (z : Value) (hi0 : Tryz.prog.info? 52 = some i0) (hz0 : i0.zero = some z) (hsz : i0.size = 4) (hzs : z.cells.size = 4) (hi : i < n) (hnc : n ≤ c) (hroom : c < n + 1) (hm : n + 1 ≤ maxLen) (hbig : (n + 1) * i0.bytes ≤ 140737488355328)
    (hcl : cs.length = n * 4) (hvl : vs.length = 4) (hcs : ∀ j v, cs[j]? = some v → w.cell? ⟨blk, o + j, none⟩ = some v) (hvs : ∀ j v, vs[j]? = some v → w.cell? ⟨vb, vo + j, none⟩ = some v) (h1c : ∀ v ∈ cs, v.oneCell' = true) (h1v : ∀ v ∈ vs, v.oneCell' = true) (ROW : Array Value)
    (hROW : ROW = (cs.take (i * 4)).toArray ++ Builtin.zeroCells z.cells (n + 1 - i) ++ Builtin.zeroCells z.cells (grownCap w (n + 1) c 52 - (n + 1)))
    (hu1 : us1 = (ROW.toList.take (i * 4) ++ vs ++ ROW.toList.drop (i * 4 + vs.length)).toArray) (hu2 : us2 = (us1.toList.take ((i + 1) * 4) ++ cs.drop (i * 4) ++ us1.toList.drop ((i + 1) * 4 + (cs.drop (i * 4)).length)).toArray) :
    Calls Tryz.prog 313 #[.slice (some ⟨blk, o, none⟩) n c, .int .i64 i, .slice (some ⟨vb, vo, none⟩) 1 vc] w fun e w' => e = .returned (.slice (some ⟨w.heap.size, 0, none⟩) (n + 1) (grownCap w (n + 1) c 52)) ∧
      ∃ q, w' = (w.drewN q).alloc (.cells us2 52) := by
  have hmm : maxLen ≤ 9223372036854775807 := by unfold maxLen; omega
  have hz2 : ¬ ((i : Int) = (n : Int)) := by omega
  have hz3 : (c : Int) < (n : Int) + 1 := by omega
  have hszm : (Tryz.prog.info? 52).map (·.size) = some 4 := by rw [hi0]; simp [hsz]
  have zz : ∀ w, (Go.sizeOf 52).run Tryz.prog w = .ok 4 w := fun w => by simp [Go.sizeOf, typeInfo, hi0, hsz]
  have hbw : blk < w.heap.size := block_lt_of_cell (hcs 0 _ (List.getElem?_eq_getElem (by omega)))
  have hvw : vb < w.heap.size := block_lt_of_cell (hvs 0 _ (List.getElem?_eq_getElem (by omega)))
  have hik : i + (n + 1 - i) = n + 1 := by omega
  have hkk : (n : Int) + 1 - (i : Int) = ((n + 1 - i : Nat) : Int) := by omega
  have hold : (Builtin.firstCells i0.size i (.slice (some ⟨blk, o, none⟩) i c)).run Tryz.prog w.drew = .ok (cs.take (i * 4)).toArray w.drew := by
    rw [hsz]
    exact run_firstCells_some w.drew 4 i ⟨blk, o, none⟩ i c (cs.take (i * 4)) (by rw [List.length_take, hcl]; omega) (fun j v hj => by
      rw [Addr.add_lit]
      rw [List.getElem?_take] at hj
      split at hj
      · exact hcs j v hj
      · cases hj)
  have hrz : ∀ ty, (Builtin.append_ #[278, 3] ty #[.slice (some ⟨blk, o, none⟩) i c, .int .i64 ((n : Int) + 1 - (i : Int))]).run Tryz.prog w =
      .ok (.slice (some ⟨w.heap.size, 0, none⟩) (n + 1) (grownCap w (n + 1) c 52)) (w.drew.alloc (.cells ROW 52)) := fun ty => by
    have h := Lib.run_append_grow_zeros w 278 3 ty 52 i0 z .i64 .i64 Tryz.setUnd Tryz.intUnd hi0 hz0 (some ⟨blk, o, none⟩) i c (cs.take (i * 4)) hold (n + 1 - i) (by omega) (by omega) (by omega) (by omega)
      (by have : (n + 1 - i) * i0.bytes ≤ (n + 1) * i0.bytes := Nat.mul_le_mul_right _ (by omega)
          omega) (by rw [hik]; exact growslice_fits hroom hbig)
    rw [hik, ← hROW] at h
    rw [hkk]
    exact h
  obtain ⟨G, hG⟩ : ∃ G, G = grownCap w (n + 1) c 52 := ⟨_, rfl⟩
  rw [← hG] at hrz hROW ⊢
  have hGn : n + 1 ≤ G := by rw [hG]; exact grownCap_ge w _ _ _
  have hG63 : G ≤ 9223372036854775807 := by
    have := grownCap_le_maxLen w (n + 1) c 52 hm
    rw [← hG] at this
    omega
  have hRs : ROW.size = G * 4 := by
    rw [hROW, Array.size_append, Array.size_append, size_zeroCells, size_zeroCells, hzs, List.size_toArray, List.length_take, hcl]
    omega
  have hcur0 : (w.drew.alloc (.cells ROW 52)).heap[w.heap.size]? = some (.cells ROW 52 (0, 0)) := heap_alloc_new w.drew _
  have hs1 : us1.size = ROW.size := by rw [hu1]; simp; omega
  have hcell : ∀ (b j : Nat) (u : Value), b < w.heap.size → w.cell? ⟨b, j, none⟩ = some u → ∀ r, (w.drew.alloc (.cells r 52)).cell? ⟨b, j, none⟩ = some u := fun b j u hb hu r => by
    rw [World.cell?_alloc_past (w := w.drew) _ b j hb]; exact hu
  have hcpA : ∀ ty dc, (Builtin.copy_ #[278, 44] ty #[.slice (some ⟨w.heap.size, i * 4, none⟩) (n + 1 - i) dc, .slice (some ⟨vb, vo, none⟩) 1 vc]).run Tryz.prog (w.alloc (.cells ROW 52)).drew = .ok (goInt (1 : Nat)) (w.alloc (.cells us1 52)).drew := fun ty dc => by
    have h := run_copy_K (w.drew.alloc (.cells ROW 52)) 278 44 ty 52 4 w.heap.size (i * 4) (n + 1 - i) dc ⟨vb, vo, none⟩ 1 vc 1 ROW 52 vs Tryz.setUnd hszm hcur0 (by simp only [Nat.min_def]; split <;> omega) (by rw [hvl])
      (fun j v hj => by rw [Addr.add_lit]; exact hcell vb _ _ hvw (hvs j v hj) _) (by rw [hvl, hRs]; omega) h1v
    rw [← hu1] at h
    exact h.trans (congrArg _ (alloc_setRow w.drew ROW us1 _))
  have hcur1 : (w.drew.alloc (.cells us1 52)).heap[w.heap.size]? = some (.cells us1 52 (0, 0)) := heap_alloc_new w.drew _
  have hdl : (cs.drop (i * 4)).length = (n - i) * 4 := by rw [List.length_drop, hcl, Nat.sub_mul]
  have hcpB : ∀ ty dc sc, (Builtin.copy_ #[278, 278] ty #[.slice (some ⟨w.heap.size, (i + 1) * 4, none⟩) (n - i) dc, .slice (some ⟨blk, o + i * 4, none⟩) (n - i) sc]).run Tryz.prog (w.alloc (.cells us1 52)).drew.drew = .ok (goInt (n - i : Nat)) (w.alloc (.cells us2 52)).drew.drew := fun ty dc sc => by
    have h := run_copy_K (w.drew.drew.alloc (.cells us1 52)) 278 278 ty 52 4 w.heap.size ((i + 1) * 4) (n - i) dc ⟨blk, o + i * 4, none⟩ (n - i) sc (n - i) us1 52 (cs.drop (i * 4)) Tryz.setUnd hszm hcur1 (by simp) hdl
      (fun j v hj => by
        rw [Addr.add_lit, Nat.add_assoc]
        exact hcell blk _ _ hbw (hcs _ v (by rwa [List.getElem?_drop] at hj)) _) (by rw [hdl, hs1, hRs]; omega) (fun v hv => h1c v (List.mem_of_mem_drop hv))
    rw [← hu2] at h
    exact h.trans (congrArg _ (alloc_setRow w.drew.drew us1 us2 _))
  have hW : ∀ r, (w.drew.alloc (.cells r 52)).drew = w.drew.drew.alloc (.cells r 52) := fun r => rfl
  have mixed : Tryz.prog.follows Departure.mixedOrders = true := by kernel_rfl
  have hGi : ¬ (G = i) := by omega
  have hGim : ¬ (G = i + 1) := by omega
  have hci : ¬ (c = i) := by omega
  have hw1 : IntKind.i64.wrap ((i : Int) + 1) = (i : Int) + 1 := by rw [IntKind.wrap_i64]; omega
  have hw2 : IntKind.i64.wrap ((n : Int) + 1) = (n : Int) + 1 := by rw [IntKind.wrap_i64]; omega
  have hb1 : (0 : Int) ≤ (i : Int) + 1 := by omega
  have hin : i ≤ n := by omega
  have htn : ((i : Int) + 1).toNat = i + 1 := by omega
  have hb3 : (i : Int) ≤ (n : Int) := by omega
  clear hkk hik hold hROW hG hu1 hu2 hcell hcur0 hcur1 hRs hs1 hdl
  go_enter Tryz.func313, Tryz.ntmps313
  go_wp2_with (first
    | (at_builtin; refine Lib.wpList_append_run _ rfl _ _ _ _ rfl _ _ rfl rfl _ _ (hrz _) ?_)
    | (at_builtin; refine wpList_copy_runI _ rfl _ _ 278 44 rfl _ _ rfl rfl (hcpA _ _) ?_))
  go_region_law_o (refine step_copy_runI rfl _ _ 278 278 rfl (.slice (some ⟨w.heap.size, (i + 1) * 4, none⟩) (n - i) (G - (i + 1))) (.slice (some ⟨blk, o + i * 4, none⟩) (n - i) (c - i)) (by simp [Act.eval, Act.put]) (by simp [Act.eval, Act.put]) (hcpB _ _ _) ?_)
  go_wp2
  go_ret
  exact ⟨rfl, 2, rfl⟩
end Go.Proofs
namespace Go.Abs
theorem take_drop_get {α : Type} {cs vs : List α} {A : Nat} (hA : A ≤ cs.length) (j : Nat) : (cs.take A ++ vs ++ cs.drop A)[j]? = if j < A then cs[j]? else if j < A + vs.length then vs[j - A]? else cs[j - vs.length]? := by
  by_cases h1 : j < A
  · rw [if_pos h1, List.getElem?_append_left (by rw [List.length_append, List.length_take]; omega), List.getElem?_append_left (by rw [List.length_take]; omega), List.getElem?_take, if_pos h1]
  · rw [if_neg h1]
    by_cases h2 : j < A + vs.length
    · rw [if_pos h2, List.getElem?_append_left (by rw [List.length_append, List.length_take]; omega), List.getElem?_append_right (by rw [List.length_take]; omega), List.length_take, Nat.min_eq_left hA]
    · rw [if_neg h2, List.getElem?_append_right (by rw [List.length_append, List.length_take]; omega), List.length_append, List.length_take, Nat.min_eq_left hA, List.getElem?_drop]
      congr 1; omega
theorem spl_get {cur us : Array Value} {vs : List Value} {off : Nat} (hfit : off + vs.length ≤ cur.size) (hus : us = (cur.toList.take off ++ vs ++ cur.toList.drop (off + vs.length)).toArray) (j : Nat) : us[j]? = if j < off then cur[j]? else if j < off + vs.length then vs[j - off]? else cur[j]? := by
  have := splice_get (l := cur.toList) (off := off) (vs := vs) (by simpa using hfit) j
  simp only [Array.getElem?_toList] at this
  rw [hus, List.getElem?_toArray, this]
theorem row_end {cur us : Array Value} {cs vs : List Value} {o N : Nat} (hcl : cs.length = N) (hcc : ∀ j, j < N → cur[o + j]? = cs[j]?) (hfit : o + N + vs.length ≤ cur.size) (hus : us = (cur.toList.take (o + N) ++ vs ++ cur.toList.drop (o + N + vs.length)).toArray) :
    ∀ j, j < N + vs.length → us[o + j]? = (cs.take N ++ vs ++ cs.drop N)[j]? := by
  intro j hj
  rw [spl_get hfit hus, take_drop_get (by omega)]
  by_cases h1 : j < N
  · rw [if_pos (by omega), if_pos h1, hcc j h1]
  · rw [if_neg (by omega), if_pos (by omega), if_neg h1, if_pos hj]
    congr 1; omega
theorem row_mid {cur us1 us2 : Array Value} {cs vs : List Value} {o N A : Nat} (hcl : cs.length = N) (hA : A ≤ N) (hcc : ∀ j, j < N → cur[o + j]? = cs[j]?) (hfit : o + N + vs.length ≤ cur.size)
    (hu1 : us1 = (cur.toList.take (o + (A + vs.length)) ++ cs.drop A ++ cur.toList.drop (o + (A + vs.length) + (cs.drop A).length)).toArray) (hu2 : us2 = (us1.toList.take (o + A) ++ vs ++ us1.toList.drop (o + A + vs.length)).toArray) :
    us2.size = cur.size ∧ ∀ j, j < N + vs.length → us2[o + j]? = (cs.take A ++ vs ++ cs.drop A)[j]? := by
  have hd : (cs.drop A).length = N - A := by rw [List.length_drop, hcl]
  have hs1 : us1.size = cur.size := by rw [hu1]; simp; omega
  refine ⟨by rw [hu2]; simp; omega, fun j hj => ?_⟩
  rw [spl_get (by omega) hu2, take_drop_get (by omega)]
  by_cases h1 : j < A
  · rw [if_pos (by omega), if_pos h1, spl_get (by omega) hu1, if_pos (by omega), hcc j (by omega)]
  · rw [if_neg (by omega), if_neg h1]
    by_cases h2 : j < A + vs.length
    · rw [if_pos (by omega), if_pos h2]
      congr 1; omega
    · rw [if_neg (by omega), if_neg h2, spl_get (by omega) hu1, if_neg (by omega), if_pos (by omega), List.getElem?_drop]
      congr 1; omega
end Go.Abs
namespace Go.Proofs
open Go.RowKit Go.Lib Go.Abs
set_option maxRecDepth 100000 in
theorem Tryz.insLaw : InsLaw Tryz.prog 313 4 56 := by
  obtain ⟨i0, z, hi0, hsz, hz0, hzs, hby⟩ : ∃ i0 z, Tryz.prog.info? 52 = some i0 ∧ i0.size = 4 ∧ i0.zero = some z ∧ z.cells.size = 4 ∧ i0.bytes = 56 := ⟨_, _, rfl, by kernel_rfl, rfl, by kernel_rfl, by kernel_rfl⟩
  refine ⟨by omega, by kernel_rfl, ?_, ?_⟩
  · intro w blk o n c i vb vo vc cur t cs vs hin hnc hcm hcl hvl hcur hcc hfit hvs hne h1c h1v
    rcases Nat.lt_or_ge i n with hlt | hge
    · obtain ⟨us1, hu1⟩ : ∃ us1, us1 = (cur.toList.take (o + (i + 1) * 4) ++ cs.drop (i * 4) ++ cur.toList.drop (o + (i + 1) * 4 + (cs.drop (i * 4)).length)).toArray := ⟨_, rfl⟩
      obtain ⟨us2, hu2⟩ : ∃ us2, us2 = (us1.toList.take (o + i * 4) ++ vs ++ us1.toList.drop (o + i * 4 + vs.length)).toArray := ⟨_, rfl⟩
      have h := row_mid (o := o) (A := i * 4) (vs := vs) hcl (Nat.mul_le_mul_right _ hin) hcc (by omega) (by rw [hvl, ← Nat.succ_mul]; exact hu1) hu2
      rw [hvl, ← Nat.succ_mul] at h
      exact (Tryz.ins_shift blk o n c i vb vo vc cur us1 us2 t cs vs w hlt hnc hcm hcl hvl hne hcur hfit hcc hvs h1c h1v hu1 hu2).mono fun e w' ⟨h1, h2⟩ => ⟨h1, 1, us2, h2.trans (setRow_setRow _ _ _ _), h⟩
    · have e : i = n := by omega
      subst e
      obtain ⟨us, hus⟩ : ∃ us, us = (cur.toList.take (o + i * 4) ++ vs ++ cur.toList.drop (o + i * 4 + vs.length)).toArray := ⟨_, rfl⟩
      have h := row_end (o := o) (vs := vs) hcl hcc (by omega) hus
      refine (Tryz.ins_end_room blk o i c vb vo vc cur t vs w hnc hcm hvl hcur hfit hvs h1v us hus).mono fun e w' ⟨h1, h2⟩ => ⟨h1, 0, us, h2, ?_, ?_⟩
      · rw [hus]; simp; omega
      · intro j hj
        exact h j (by omega)
  · intro w base n c i vb vo vc cs vs hin hnc hroom hm hbig hcl hvl hnil hcs hvs h1c h1v
    have hbig' : (n + 1) * i0.bytes ≤ 140737488355328 := by rw [hby]; exact hbig
    have hG1 := grownCap_ge w (n + 1) c 52
    have hG2 := grownCap_le_maxLen w (n + 1) c 52 hm
    rcases Nat.lt_or_ge i n with hlt | hge
    · cases base with
      | none => exact absurd (hnil rfl) (by omega)
      | some a =>
        obtain ⟨blk, o, sp⟩ := a
        obtain ⟨hsp, hcs⟩ := hcs _ rfl
        have := hsp (by omega)
        simp only at this
        subst this
        have hcs' : ∀ j v, cs[j]? = some v → w.cell? ⟨blk, o + j, none⟩ = some v := fun j v hj => by
          have := hcs j v hj
          rwa [add_addr] at this
        obtain ⟨ROW, hROW⟩ : ∃ ROW, ROW = (cs.take (i * 4)).toArray ++ Builtin.zeroCells z.cells (n + 1 - i) ++ Builtin.zeroCells z.cells (grownCap w (n + 1) c 52 - (n + 1)) := ⟨_, rfl⟩
        obtain ⟨us1, hu1⟩ : ∃ us1, us1 = (ROW.toList.take (i * 4) ++ vs ++ ROW.toList.drop (i * 4 + vs.length)).toArray := ⟨_, rfl⟩
        obtain ⟨us2, hu2⟩ : ∃ us2, us2 = (us1.toList.take ((i + 1) * 4) ++ cs.drop (i * 4) ++ us1.toList.drop ((i + 1) * 4 + (cs.drop (i * 4)).length)).toArray := ⟨_, rfl⟩
        have hRs : ROW.size = grownCap w (n + 1) c 52 * 4 := by
          rw [hROW, Array.size_append, Array.size_append, size_zeroCells, size_zeroCells, hzs, List.size_toArray, List.length_take, hcl]
          omega
        have hR0 : ∀ j, j < i * 4 → ROW[j]? = cs[j]? := fun j hj => by
          rw [hROW, Array.getElem?_append_left (by simp; omega), Array.getElem?_append_left (by simp; omega), List.getElem?_toArray, List.getElem?_take, if_pos hj]
        have hs1 : us1.size = ROW.size := by rw [hu1]; simp; omega
        have hd : (cs.drop (i * 4)).length = n * 4 - i * 4 := by rw [List.length_drop, hcl]
        refine (Tryz.ins_grow blk o n c i vb vo vc us1 us2 cs vs w i0 z hi0 hz0 hsz hzs hlt hnc hroom hm hbig' hcl hvl hcs' hvs h1c h1v ROW hROW hu1 hu2).mono fun e w' ⟨h1, q, h2⟩ => ⟨q, _, us2, _, h1, h2, hG1, hG2, ?_, ?_⟩
        · rw [hu2]; simp; omega
        · intro j hj
          rw [spl_get (by omega) hu2, take_drop_get (by omega), hvl]
          by_cases h1 : j < i * 4
          · rw [if_pos (by omega), if_pos h1, spl_get (by omega) hu1, if_pos h1, hR0 j h1]
          · rw [if_neg h1]
            by_cases h2 : j < i * 4 + 4
            · rw [if_pos (by omega), if_pos h2, spl_get (by omega) hu1, if_neg h1, if_pos (by omega)]
            · rw [if_neg (by omega), if_neg h2, if_pos (by omega), List.getElem?_drop]
              congr 1; omega
    · have e : i = n := by omega
      subst e
      refine (Tryz.ins_end_grow base i c vb vo vc cs vs w i0 z hi0 hz0 hsz hnc hroom hm hbig' hcl hvl hnil (fun a ha => (hcs a ha).2) hvs h1v).mono fun e w' ⟨h1, h2⟩ => ⟨1, _, _, _, h1, h2, hG1, hG2, ?_, ?_⟩
      · rw [Array.size_append, size_zeroCells, hzs, List.size_toArray, List.length_append, hcl, hvl]
        omega
      · intro j hj
        rw [Array.getElem?_append_left (by simp; omega), List.getElem?_toArray, List.take_of_length_le (by omega), List.drop_eq_nil_of_le (by omega), List.append_nil]
end Go.Proofs
namespace Go.Abs
open Go.RowKit (Below)
section
variable {P : Program} {E : Env}
structure InsLaw0 (P : Program) (f : FuncId) (K bytes : Nat) : Prop where
  pos : 0 < K
  enter : Program.enterable P f = true
  newR : ∀ (w : World) (base : Option Addr) (vb vo vc : Nat) (vs : List Value), bytes ≤ roomA → vs.length = K → (∀ j v, vs[j]? = some v → w.cell? ⟨vb, vo + j, none⟩ = some v) → (∀ v ∈ vs, v.oneCell' = true) →
    Calls P f #[.slice base 0 0, .int .i64 0, .slice (some ⟨vb, vo, none⟩) 1 vc] w fun e w' => ∃ (q G : Nat) (us : Array Value) (t : TypeId), e = .returned (.slice (some ⟨w.heap.size, 0, none⟩) 1 G) ∧ w' = (w.drewN q).alloc (.cells us t) ∧ 1 ≤ G ∧ G ≤ maxLen ∧ G * K ≤ us.size ∧
      ∀ j, j < K → us[j]? = vs[j]?
theorem ins0_sound {f : FuncId} {K bytes : Nat} (L : InsLaw0 P f K bytes) (O : Orc) (args : List AV) (h : AH) (r : AV) (h' : AH) (he : (insR0 K bytes).run O args h = some (r, h')) : Program.enterable P f = true ∧
    ∀ (E : Env) (vs : Array Value), SR E → GlobP E.w E.ok → E.h = h → VRs E args vs.toList →
      Calls P f vs E.w fun e w' => ∃ u E', e = .returned u ∧ w' = E'.w ∧ Ext E E' ∧ SR E' ∧ E'.h = h' ∧ VR E' r u := by
  refine ⟨L.enter, fun E avs hS _ hh hv => ?_⟩
  subst hh
  change insRun0 K bytes args E.h = some (r, h') at he
  unfold insRun0 at he
  split at he
  · rename_i z' i0 x0
    unfold insRun at he
    split at he
    · rename_i s i q z x heq
      cases heq
      split at he
      · rename_i hc0
        obtain ⟨hzK, hag⟩ := hc0
        obtain ⟨avs⟩ := avs
        simp only [VRs] at hv
        obtain ⟨v0, _, rfl, hv0, v1, _, rfl, hv1, v2, _, rfl, hv2, rfl⟩ := hv
        simp only [VR] at hv1
        subst hv1
        obtain ⟨vb, vo, vc, vs, rfl, hvl, hvc, hv1c, hvr, hK⟩ := one_cells hS hzK hv2
        have hvc1 : ∀ j u, vs[j]? = some u → E.w.cell? ⟨vb, vo + j, none⟩ = some u := fun j u hu => (hvc j u hu).1
        simp only at he
        split at he
        · rename_i hc
          obtain ⟨rfl, hb⟩ := hc
          cases he
          simp only [VR, PV] at hv0
          obtain ⟨base, len, cap, rfl, rfl, _, _, h4', _, _⟩ := hv0
          have hcap : cap = 0 := h4' trivial
          subst hcap
          refine (L.newR E.w base vb vo vc vs hb hvl hvc1 hv1c).mono fun e w' ⟨q, G, us, te, h1, h2, h3, h4, h5, h6⟩ => ?_
          have x1 := grow_ext hS (drewN_Bl E.w q)
          have s1 := grow_SR hS (drewN_Bl E.w q)
          refine ⟨_, ({ E with w := E.w.drewN q } : Env).newFam us te G ⟨[x], K, true⟩, h1, h2, x1.trans (newFam_ext s1 _ _ _ _), newFam_SR s1 hK (by simpa using h3) h4 h5 (fun j y hy => ?_), rfl, ?_⟩
          · obtain ⟨g1, g2⟩ := RowL_ext x1 hvr j y hy
            refine ⟨g1, fun c y' hy' => ?_⟩
            obtain ⟨v, v1, v2⟩ := g2 c y' hy'
            have hjn : j = 0 := by have := (List.getElem?_eq_some_iff.1 hy).1; simpa using this
            have hcK : c < K := by have := (List.getElem?_eq_some_iff.1 hy').1; omega
            subst hjn
            rw [Nat.zero_mul, Nat.zero_add] at v1 ⊢
            exact ⟨v, by rw [h6 _ hcK]; exact v1, v2⟩
          · simp only [VR, Env.newFam, upd_same]
            exact ⟨_, _, ⟨[x], K, true⟩, rfl, by simp, ⟨by simp, fun _ => ⟨_, _, rfl⟩⟩, fun _ => ⟨Nat.zero_le _, by simp, by simp, (fun h => nomatch h), fun _ => by simp⟩⟩
        · cases he
      · cases he
    · cases he
  · cases he
structure GrowLaw (P : Program) (f : FuncId) (K bytes : Nat) : Prop where
  pos : 0 < K
  enter : Program.enterable P f = true
  zero : ∀ (w : World) (base : Option Addr), Calls P f #[.slice base 0 0, .int .i64 0] w fun e w' => e = .returned (.slice base 0 0) ∧ w' = w
  some : ∀ (w : World) (base : Option Addr) (n : Nat), 0 < n → n * bytes ≤ roomA → n ≤ maxLen →
    Calls P f #[.slice base 0 0, .int .i64 n] w fun e w' => ∃ (q G : Nat) (us : Array Value) (t : TypeId), e = .returned (.slice (some ⟨w.heap.size, 0, none⟩) 0 G) ∧ w' = (w.drewN q).alloc (.cells us t) ∧ G ≤ maxLen ∧ G * K ≤ us.size
theorem grow_sound {f : FuncId} {K bytes : Nat} {b : Bool} (L : GrowLaw P f K bytes) (O : Orc) (args : List AV) (h : AH) (r : AV) (h' : AH) (he : (growR K bytes b).run O args h = some (r, h')) : Program.enterable P f = true ∧
    ∀ (E : Env) (vs : Array Value), SR E → GlobP E.w E.ok → E.h = h → VRs E args vs.toList →
      Calls P f vs E.w fun e w' => ∃ u E', e = .returned u ∧ w' = E'.w ∧ Ext E E' ∧ SR E' ∧ E'.h = h' ∧ VR E' r u := by
  refine ⟨L.enter, fun E avs hS _ hh hv => ?_⟩
  subst hh
  change growRun K bytes b args E.h = some (r, h') at he
  unfold growRun at he
  split at he
  · rename_i z n
    obtain ⟨avs⟩ := avs
    simp only [VRs] at hv
    obtain ⟨v0, _, rfl, hv0, v1, _, rfl, hv1, rfl⟩ := hv
    simp only [VR] at hv1
    subst hv1
    have hv0' := hv0
    simp only [VR, PV] at hv0
    obtain ⟨base, len, cap, rfl, rfl, _, _, h4', _, _⟩ := hv0
    have hcap : cap = 0 := h4' trivial
    subst hcap
    split at he
    · rename_i h0
      subst h0
      cases he
      exact (L.zero E.w base).mono fun e w' ⟨h1, h2⟩ => ⟨_, E, h1, h2, Ext.refl E, hS, rfl, hv0'⟩
    · split at he
      · rename_i hc
        obtain ⟨c1, c2, c3⟩ := hc
        cases he
        obtain ⟨m, rfl⟩ : ∃ m : Nat, n = m := ⟨n.toNat, by omega⟩
        refine (L.some E.w base m (by omega) (by exact_mod_cast c2) (by exact_mod_cast c3)).mono fun e w' ⟨q, G, us, te, h1, h2, h3, h4⟩ => ?_
        have x1 := grow_ext hS (drewN_Bl E.w q)
        have s1 := grow_SR hS (drewN_Bl E.w q)
        refine ⟨_, ({ E with w := E.w.drewN q } : Env).newFam us te G ⟨[], K, b⟩, h1, h2, x1.trans (newFam_ext s1 _ _ _ _), newFam_SR s1 L.pos (Nat.zero_le _) h3 h4 (fun j y hy => by simp at hy), rfl, ?_⟩
        simp only [VR, Env.newFam, upd_same]
        exact ⟨_, _, ⟨[], K, b⟩, rfl, by simp, ⟨by simp, fun h => absurd rfl h⟩, fun _ => ⟨Nat.zero_le _, by simp, by simp, (fun h => nomatch h), fun _ => by simp⟩⟩
      · cases he
  · cases he
end
end Go.Abs
set_option linter.unusedVariables false
set_option linter.unusedSimpArgs false
namespace Go.Proofs
open Go.RowKit Go.Lib Go.Abs
theorem Tryz.powsUnd : Tryz.prog.underlying 330 = some (.slice 334) := by kernel_rfl
set_option maxHeartbeats 4000000 in
set_option maxRecDepth 100000 in
theorem Tryz.insp_nil (base : Option Addr) (vb vo vc : Nat) (vs : List Value) (w : World) (i0 : TypeInfo) (z : Value) (hi0 : Tryz.prog.info? 334 = some i0) (hz0 : i0.zero = some z) (hsz : i0.size = 5) (hbig : i0.bytes ≤ 140737488355328)
    (hvl : vs.length = 5) (hvs : ∀ j v, vs[j]? = some v → w.cell? ⟨vb, vo + j, none⟩ = some v) (h1v : ∀ v ∈ vs, v.oneCell' = true) :
    Calls Tryz.prog 384 #[.slice base 0 0, .int .i64 0, .slice (some ⟨vb, vo, none⟩) 1 vc] w fun e w' => e = .returned (.slice (some ⟨w.heap.size, 0, none⟩) 1 (grownCap w 1 0 334)) ∧
      w' = w.drew.alloc (.cells (vs.toArray ++ Builtin.zeroCells z.cells (grownCap w 1 0 334 - 1)) 334) := by
  have hsrc : Src Tryz.prog i0.size 330 (.slice (some ⟨vb, vo, none⟩) 1 vc) 1 vs w := Src.ofSlice w Tryz.powsUnd ⟨vb, vo, none⟩ 1 vc vs (by rw [hsz, hvl]) (fun j u hj => by rw [Addr.add_lit]; exact hvs j u hj) h1v
  have hold : (Builtin.firstCells i0.size 0 (.slice base 0 0)).run Tryz.prog w.drew = .ok ([] : List Value).toArray w.drew := by
    rw [hsz]
    cases base with
    | none => exact run_firstCells_none w.drew 5 0 0 0
    | some a => exact run_firstCells_some w.drew 5 0 a 0 0 [] rfl (fun j v hj => by simp at hj)
  have hrun : ∀ ty, (Builtin.append_ #[330, 330] ty #[.slice base 0 0, .slice (some ⟨vb, vo, none⟩) 1 vc]).run Tryz.prog w = _ := fun ty =>
    run_append_grow_src w 330 330 ty 334 i0 z Tryz.powsUnd hi0 hz0 base 0 0 [] hold _ 1 vs hsrc (by omega) (by omega) (growslice_fits (by omega) (by rw [Nat.zero_add, Nat.one_mul]; exact hbig))
  rw [Nat.zero_add, List.nil_append] at hrun
  generalize hG : grownCap w 1 0 334 = G at *
  generalize hR : vs.toArray ++ Builtin.zeroCells z.cells (G - 1) = R at *
  clear hR hold hsrc hG
  go_enter Tryz.func384, Tryz.ntmps384
  cases base with
  | none =>
    go_wp2_with (at_builtin; refine Lib.wpList_append_run _ rfl _ _ _ _ rfl _ _ rfl rfl _ _ (hrun _) ?_)
    go_ret
    exact ⟨rfl, rfl⟩
  | some a =>
    obtain ⟨ab, ao, asp⟩ := a
    go_wp2_with (at_builtin; refine Lib.wpList_append_run _ rfl _ _ _ _ rfl _ _ rfl rfl _ _ (hrun _) ?_)
    all_goals (go_ret; exact ⟨rfl, rfl⟩)
set_option maxRecDepth 100000 in
theorem Tryz.insLawP : InsLaw0 Tryz.prog 384 5 64 := by
  obtain ⟨i0, z, hi0, hsz, hz0, hzs, hby⟩ : ∃ i0 z, Tryz.prog.info? 334 = some i0 ∧ i0.size = 5 ∧ i0.zero = some z ∧ z.cells.size = 5 ∧ i0.bytes = 64 := ⟨_, _, rfl, by kernel_rfl, rfl, by kernel_rfl, by kernel_rfl⟩
  refine ⟨by omega, by kernel_rfl, ?_⟩
  intro w base vb vo vc vs hb hvl hvs h1v
  have hG1 := grownCap_ge w 1 0 334
  have hG2 := grownCap_le_maxLen w 1 0 334 (by unfold maxLen; omega)
  refine (Tryz.insp_nil base vb vo vc vs w i0 z hi0 hz0 hsz (by rw [hby]; omega) hvl hvs h1v).mono fun e w' ⟨h1, h2⟩ => ⟨1, _, _, _, h1, h2, hG1, hG2, ?_, ?_⟩
  · rw [Array.size_append, size_zeroCells, hzs, List.size_toArray, hvl]
    omega
  · intro j hj
    rw [Array.getElem?_append_left (by simp; omega), List.getElem?_toArray]
set_option maxHeartbeats 4000000 in
set_option maxRecDepth 100000 in
theorem Tryz.growZero (base : Option Addr) (w : World) : Calls Tryz.prog 248 #[.slice base 0 0, .int .i64 0] w fun e w' => e = .returned (.slice base 0 0) ∧ w' = w := by
  go_enter Tryz.func248, Tryz.ntmps248
  go_wp2
  go_ret
  exact ⟨rfl, rfl⟩
set_option maxHeartbeats 4000000 in
set_option maxRecDepth 100000 in
theorem Tryz.growSome (base : Option Addr) (n : Nat) (w : World) (i0 : TypeInfo) (z : Value) (hi0 : Tryz.prog.info? 52 = some i0) (hz0 : i0.zero = some z) (hsz : i0.size = 4) (h0 : 0 < n) (hm : n ≤ maxLen) (hbig : n * i0.bytes ≤ 140737488355328) :
    Calls Tryz.prog 248 #[.slice base 0 0, .int .i64 n] w fun e w' => e = .returned (.slice (some ⟨w.heap.size, 0, none⟩) 0 (grownCap w n 0 52)) ∧
      w' = w.drew.alloc (.cells (Builtin.zeroCells z.cells n ++ Builtin.zeroCells z.cells (grownCap w n 0 52 - n)) 52) := by
  have hmm : maxLen ≤ 9223372036854775807 := by unfold maxLen; omega
  have mixed : Tryz.prog.follows Departure.mixedOrders = true := by kernel_rfl
  have hold : (Builtin.firstCells i0.size 0 (.slice base 0 0)).run Tryz.prog w.drew = .ok ([] : List Value).toArray w.drew := by
    rw [hsz]
    cases base with
    | none => exact run_firstCells_none w.drew 4 0 0 0
    | some a => exact run_firstCells_some w.drew 4 0 a 0 0 [] rfl (fun j v hj => by simp at hj)
  have hrz : ∀ ty, (Builtin.append_ #[44, 3] ty #[.slice base 0 0, .int .i64 (n : Int)]).run Tryz.prog w =
      .ok (.slice (some ⟨w.heap.size, 0, none⟩) n (grownCap w n 0 52)) (w.drew.alloc (.cells (Builtin.zeroCells z.cells n ++ Builtin.zeroCells z.cells (grownCap w n 0 52 - n)) 52)) := fun ty => by
    have h := Lib.run_append_grow_zeros w 44 3 ty 52 i0 z .i64 .i64 Tryz.termsUnd Tryz.intUnd hi0 hz0 base 0 0 [] hold n (by omega) (by omega) (by omega) (by omega) (by omega)
      (by rw [Nat.zero_add]; exact growslice_fits (need := n) (by omega) hbig)
    rw [Nat.zero_add] at h
    simpa using h
  have hG63 : grownCap w n 0 52 ≤ 9223372036854775807 := by
    have := grownCap_le_maxLen w n 0 52 hm
    omega
  generalize hG : grownCap w n 0 52 = G at *
  generalize hR : Builtin.zeroCells z.cells n ++ Builtin.zeroCells z.cells (G - n) = R at *
  have h1 : ¬ ((n : Int) < 0) := by omega
  have h2 : wrap64 (n : Int) = (n : Int) := by unfold wrap64; omega
  have h4 : (n : Int) > 0 := by omega
  clear hR hold hG
  go_enter Tryz.func248, Tryz.ntmps248
  cases base with
  | none =>
    go_wp2_with (at_builtin; refine Lib.wpList_append_run _ rfl _ _ _ _ rfl _ _ rfl rfl _ _ (hrz _) ?_)
    all_goals (go_ret; exact ⟨rfl, rfl⟩)
  | some a =>
    obtain ⟨ab, ao, asp⟩ := a
    go_wp2_with (at_builtin; refine Lib.wpList_append_run _ rfl _ _ _ _ rfl _ _ rfl rfl _ _ (hrz _) ?_)
    all_goals (go_ret; exact ⟨rfl, rfl⟩)
set_option maxRecDepth 100000 in
theorem Tryz.growLaw : GrowLaw Tryz.prog 248 4 56 := by
  obtain ⟨i0, z, hi0, hsz, hz0, hzs, hby⟩ : ∃ i0 z, Tryz.prog.info? 52 = some i0 ∧ i0.size = 4 ∧ i0.zero = some z ∧ z.cells.size = 4 ∧ i0.bytes = 56 := ⟨_, _, rfl, by kernel_rfl, rfl, by kernel_rfl, by kernel_rfl⟩
  refine ⟨by omega, by kernel_rfl, fun w base => Tryz.growZero base w, fun w base n h0 hb hm => ?_⟩
  have hG1 := grownCap_ge w n 0 52
  refine (Tryz.growSome base n w i0 z hi0 hz0 hsz h0 hm (by rw [hby]; exact hb)).mono fun e w' ⟨h1, h2⟩ => ⟨1, _, _, _, h1, h2, grownCap_le_maxLen w n 0 52 hm, ?_⟩
  rw [Array.size_append, size_zeroCells, size_zeroCells, hzs]
  omega
end Go.Proofs
namespace Go.Proofs
set_option maxHeartbeats 1000000 in
set_option maxRecDepth 100000 in
theorem Tryz.cmpString (a b : ByteArray) (w : World) :
    Calls Tryz.prog 258 #[.string a, .string b] w fun e w' => e = .returned (.int .i64 (Lib.compareBytes a.data.toList b.data.toList)) ∧ w' = w := by
  go_enter Tryz.func258, Tryz.ntmps258
  go_wp2
  rw [run_callFunc_extern Tryz.func294 (by kernel_rfl) (by kernel_rfl) (by kernel_rfl) (e := Extern.BytealgCompare.compare) (by kernel_rfl), Lib.run_compareString]
  simp only [Result.andThen]
  rw [Oper.upon_value]
  go_wp2
  go_ret
  exact ⟨rfl, rfl⟩
set_option maxHeartbeats 1000000 in
set_option maxRecDepth 100000 in
theorem Tryz.sliteIndexByte (s : ByteArray) (c : Int) (w : World) :
    Calls Tryz.prog 178 #[.string s, .int .u8 c] w fun e w' => e = .returned (.int .i64 (Lib.indexByte s.data.toList c.toNat.toUInt8)) ∧ w' = w := by
  go_enter Tryz.func178, Tryz.ntmps178
  go_wp2
  rw [run_callFunc_extern Tryz.func222 (by kernel_rfl) (by kernel_rfl) (by kernel_rfl) (e := Extern.BytealgIndexByte.indexByte) (by kernel_rfl), Lib.run_indexByteString]
  simp only [Result.andThen]
  rw [Oper.upon_value]
  go_wp2
  go_ret
  exact ⟨rfl, rfl⟩
set_option maxHeartbeats 2000000 in
set_option maxRecDepth 100000 in
theorem Tryz.sliteIndexOne (s : ByteArray) (c : UInt8) (w : World) :
    Calls Tryz.prog 140 #[.string s, .string ⟨#[c]⟩] w fun e w' => e = .returned (.int .i64 (Lib.indexByte s.data.toList c)) ∧ w' = w := by
  go_enter Tryz.func140, Tryz.ntmps140
  go_wp2_with (go_at_call 178; refine (Tryz.sliteIndexByte _ _ _).mono ?_; rintro e w' ⟨rfl, rfl⟩)
  · have h : ([c] == s.toList) = true := by assumption
    go_ret
    refine ⟨?_, rfl⟩
    have e : s.data.toList = [c] := by rw [← Lib.toList_data]; exact (beq_iff_eq.1 h).symm
    rw [e]
    simp [Lib.indexByte]
  · go_ret
    exact ⟨rfl, rfl⟩
set_option maxHeartbeats 1000000 in
theorem Tryz.stringsIndexOne (s : ByteArray) (c : UInt8) (w : World) :
    Calls Tryz.prog 97 #[.string s, .string ⟨#[c]⟩] w fun e w' => e = .returned (.int .i64 (Lib.indexByte s.data.toList c)) ∧ w' = w := by
  go_enter Tryz.func97, Tryz.ntmps97
  go_wp2_with (go_at_call 140; refine (Tryz.sliteIndexOne _ _ _).mono ?_; rintro e w' ⟨rfl, rfl⟩)
  go_ret
  exact ⟨rfl, rfl⟩
set_option maxHeartbeats 1000000 in
theorem Tryz.stringsContainsOne (s : ByteArray) (c : UInt8) (w : World) :
    Calls Tryz.prog 55 #[.string s, .string ⟨#[c]⟩] w fun e w' => e = .returned (.bool (decide (0 ≤ Lib.indexByte s.data.toList c))) ∧ w' = w := by
  go_enter Tryz.func55, Tryz.ntmps55
  go_wp2_with (go_at_call 97; refine (Tryz.stringsIndexOne _ _ _).mono ?_; rintro e w' ⟨rfl, rfl⟩)
  go_ret
  exact ⟨rfl, rfl⟩
end Go.Proofs
namespace Go.Abs.Q
open Go.Proofs
open Go.RowKit (Below)
theorem compare_eq : ∀ (a b : List UInt8), Lib.compareBytes a b = if Op.bytesLess a b then -1 else if a = b then 0 else 1
  | [], [] => by simp [Lib.compareBytes, Op.bytesLess]
  | [], _ :: _ => by simp [Lib.compareBytes, Op.bytesLess]
  | _ :: _, [] => by simp [Lib.compareBytes, Op.bytesLess]
  | x :: a, y :: b => by
    simp only [Lib.compareBytes, Op.bytesLess, compare_eq a b]
    by_cases h : x < y
    · simp [h]
    · by_cases h' : y < x
      · have hne : x ≠ y := fun e => h (e ▸ h')
        simp [h, h', hne]
      · have he : x = y := by
          apply UInt8.le_antisymm
          · exact UInt8.not_lt.1 h'
          · exact UInt8.not_lt.1 h
        subst he
        simp [h]
theorem cmpBytes_eq (a b : ByteArray) : cmpBytes a b = Lib.compareBytes a.data.toList b.data.toList := by
  rw [compare_eq, cmpBytes, Lib.toList_data, Lib.toList_data]
theorem indexByte_iff (c : UInt8) : ∀ l : List UInt8, 0 ≤ Lib.indexByte l c ↔ c ∈ l
  | [] => by simp [Lib.indexByte]
  | b :: l => by
    have ih := indexByte_iff c l
    have hge := Lib.indexByte_ge l c
    by_cases h : b = c
    · subst h
      simp [Lib.indexByte]
    · have h1 : Lib.indexByte (b :: l) c = if Lib.indexByte l c = -1 then -1 else Lib.indexByte l c + 1 := by
        simp [Lib.indexByte, h]
      have h2 : ¬c = b := fun e => h e.symm
      rw [h1, List.mem_cons]
      by_cases h3 : Lib.indexByte l c = -1
      · rw [if_pos h3]
        constructor
        · intro k; omega
        · rintro (k | k)
          · exact absurd k h2
          · have := ih.2 k; omega
      · rw [if_neg h3]
        constructor
        · intro k; exact .inr (ih.1 (by omega))
        · intro k
          omega
theorem indexByte_has (l : List UInt8) (c : UInt8) : decide (0 ≤ Lib.indexByte l c) = l.contains c := by
  rw [Bool.eq_iff_iff, decide_eq_true_iff, indexByte_iff]
  simp
theorem mixed : Tryz.prog.follows .mixedOrders = true := by kernel_rfl
theorem rf_all (f : FuncId) (s : RSpec) (h : rspecF f = some s) : (f = n_slices_Insert_Term ∧ s = insR 4 56) ∨ (f = n_slices_Insert_Power ∧ s = insR0 5 64) ∨ (f = n_slices_Grow_Term ∧ s = growR 4 56 true) := by
  unfold rspecF at h
  split at h
  · rename_i hf; cases h; exact .inl ⟨hf, rfl⟩
  · split at h
    · rename_i hf; cases h; exact .inr (.inl ⟨hf, rfl⟩)
    · split at h
      · rename_i hf; cases h; exact .inr (.inr ⟨hf, rfl⟩)
      · cases h
theorem QS : CfgS Tryz.prog Q := by
  refine ⟨fun f rf h => ?_, fun f s hs args r hr => ?_, mixed, fun f s hs O hP args h r h' he => ?_⟩
  · have h1 : codeF f = some rf := (Q_code f).symm.trans h
    unfold codeF at h1
    split at h1
    · cases h1
    · exact h1
  rotate_left 1
  · have hs' : rspecF f = some s := hs
    rcases rf_all f s hs' with ⟨rfl, rfl⟩ | ⟨rfl, rfl⟩ | ⟨rfl, rfl⟩
    · exact ins_sound Tryz.insLaw O args h r h' he
    · exact ins0_sound Tryz.insLawP O args h r h' he
    · exact grow_sound Tryz.growLaw O args h r h' he
  have hs' : specF f = some s := (Q_spec f).symm.trans hs
  unfold specF at hs'
  split at hs'
  · rename_i hf
    subst hf
    cases hs'
    unfold specCmp at hr
    split at hr
    · rename_i a b
      cases hr
      refine ⟨by kernel_rfl, fun w ok0 vs _ _ hv => ?_⟩
      have hvs : vs = #[.string a, .string b] := by
        simp only [PVs, PV] at hv
        obtain ⟨u, us, h1, rfl, u', us', rfl, rfl, rfl⟩ := hv
        cases vs
        simp_all
      subst hvs
      refine (Tryz.cmpString a b w).mono fun e w' ⟨he, hw⟩ => ?_
      subst hw
      exact ⟨_, he, Bl.refl _ _, by simp [PV, cmpBytes_eq]⟩
    · cases hr
  · split at hs'
    · rename_i hf
      subst hf
      cases hs'
      unfold specHas at hr
      split at hr
      · rename_i a b
        split at hr
        · rename_i c hb
          cases hr
          refine ⟨by kernel_rfl, fun w ok0 vs _ _ hv => ?_⟩
          have hb' : b = ⟨#[c]⟩ := by
            obtain ⟨⟨l⟩⟩ := b
            simp at hb
            rw [hb]
          subst hb'
          have hvs : vs = #[.string a, .string ⟨#[c]⟩] := by
            simp only [PVs, PV] at hv
            obtain ⟨u, us, h1, rfl, u', us', rfl, rfl, rfl⟩ := hv
            cases vs
            simp_all
          subst hvs
          refine (Tryz.stringsContainsOne a c w).mono fun e w' ⟨he, hw⟩ => ?_
          subst hw
          exact ⟨_, he, Bl.refl _ _, by simp [PV, indexByte_has]⟩
        · cases hr
      · cases hr
    · split at hs'
      · rename_i hf
        subst hf
        cases hs'
        unfold specIB at hr
        split at hr
        · rename_i a c
          cases hr
          refine ⟨by kernel_rfl, fun w ok0 vs _ _ hv => ?_⟩
          have hvs : vs = #[.string a, .int .u8 c] := by
            simp only [PVs, PV] at hv
            obtain ⟨u, us, h1, rfl, u', us', rfl, rfl, rfl⟩ := hv
            cases vs
            simp_all
          subst hvs
          refine (Tryz.sliteIndexByte a c w).mono fun e w' ⟨he, hw⟩ => ?_
          subst hw
          exact ⟨_, he, Bl.refl _ _, by simp [PV]⟩
        · cases hr
      · split at hs'
        · rename_i hf
          subst hf
          cases hs'
          unfold specIX at hr
          split at hr
          · rename_i a b
            split at hr
            · rename_i c hb
              cases hr
              refine ⟨by kernel_rfl, fun w ok0 vs _ _ hv => ?_⟩
              have hb' : b = ⟨#[c]⟩ := by
                obtain ⟨⟨l⟩⟩ := b
                simp at hb
                rw [hb]
              subst hb'
              have hvs : vs = #[.string a, .string ⟨#[c]⟩] := by
                simp only [PVs, PV] at hv
                obtain ⟨u, us, h1, rfl, u', us', rfl, rfl, rfl⟩ := hv
                cases vs
                simp_all
              subst hvs
              refine (Tryz.stringsIndexOne a c w).mono fun e w' ⟨he, hw⟩ => ?_
              subst hw
              exact ⟨_, he, Bl.refl _ _, by simp [PV]⟩
            · cases hr
          · cases hr
        · cases hs'
end Go.Abs.Q
namespace Go.Proofs
open Go.RowKit Go.Abs Go.Abs.Q
theorem Words.of {w : World} {ok : Nat → Nat → Prop} {B : Nat} (hg : GlobP w ok) (hok : ∀ b o, ok b o → b < B) : Words B w := by
  have h := hg (1, _) (by unfold globA; exact List.mem_singleton.2 rfl)
  simp only [PV, PCells] at h
  obtain ⟨b, o, he, ⟨u, h1, h2, h3, h4⟩, -⟩ := h
  cases he
  obtain ⟨a, len, cap, rfl, hlen, hc, hm, _, _, hx⟩ := h4
  obtain ⟨wb, wo, rfl, hz, hp⟩ := hx (by simp)
  have hl : len = 6 := hlen
  subst hl
  have hw : ∀ j, j < 6 → ok wb (wo + j) ∧ w.cell? ⟨wb, wo + j, none⟩ = some (.string ⟨(wordL.getD j []).toArray⟩) := fun j hj => by
    obtain ⟨s, hs, hse⟩ : ∃ s : ByteArray, (([[97, 110, 121], [97, 103, 101, 110, 116], [110, 111, 110, 99, 101], [107, 101, 121], [100, 97, 116, 97], [116, 97, 103]] : List (List Nat)).map fun l => AV.str ⟨(l.map UInt8.ofNat).toArray⟩)[j]? = some (.str s) ∧ s = ⟨(wordL.getD j []).toArray⟩ := by
      match j, hj with
      | 0, _ => exact ⟨_, rfl, rfl⟩
      | 1, _ => exact ⟨_, rfl, rfl⟩
      | 2, _ => exact ⟨_, rfl, rfl⟩
      | 3, _ => exact ⟨_, rfl, rfl⟩
      | 4, _ => exact ⟨_, rfl, rfl⟩
      | 5, _ => exact ⟨_, rfl, rfl⟩
    obtain ⟨-, p2⟩ := PEls_get hp hs
    obtain ⟨u, k1, k2, k3, k4⟩ := PCells_get p2 (j := 0) rfl
    simp only [PV] at k4
    subst k4 hse
    rw [Nat.mul_one, Nat.add_zero] at k1 k2
    exact ⟨k1, k2⟩
  exact ⟨wb, wo, cap, hok _ _ (hw 0 (by omega)).1, hok _ _ h1, h2, fun j hj => (hw j hj).2⟩
set_option maxHeartbeats 8000000 in
set_option maxRecDepth 100000 in
theorem Tryz.format_ok (t : Tm) (hv : validT t = 0) (hok : wokT t = true) (hsz : t.size ≤ 1048576) (hlen : (wtx t).length + 100 ≤ 140737488355328) (w : World) (ok0 : Nat → Nat → Prop) (vt : Value) (hk : ∀ b o, ok0 b o → b < w.heap.size) (hG : GlobP w ok0) (hp : PV w ok0 (tmV t) vt) :
    Calls Tryz.prog 193 #[vt] w fun e w' => e = .returned (.tuple #[.string ⟨(wtx t).toArray⟩, .int .i64 0]) ∧ Below w.heap.size w w' := by
  have hV := pc_termValid t (by omega)
  rw [hv] at hV
  obtain ⟨k, n, s, m, ts⟩ := t
  obtain ⟨a, len, cap, rfl, rfl, -⟩ := term_value hp
  have hb0 := (Below.refl w.heap.size w).alloc (Nat.le_refl _) (.cells #[.int .i64 k, .string n, .int .i64 s, .slice a ts.length cap] 52)
  have hst0 : ∀ b o, ok0 b o → ok0 b o ∧ Stay w (w.alloc (.cells #[.int .i64 k, .string n, .int .i64 s, .slice a ts.length cap] 52)) b o := fun b o h => ⟨h, hb0.cell (p := ⟨b, o, none⟩) (hk b o h), fun es clk he => by rw [hb0.block b (hk b o h)]; exact he⟩
  have hp0 := PV_mono hst0 _ _ hp
  have hC := fun (hh : PVs (w.alloc (.cells #[.int .i64 k, .string n, .int .i64 s, .slice a ts.length cap] 52)) ok0 [tmV (.mk k n s m ts)] (#[Value.agg #[.int .i64 k, .string n, .int .i64 s, .slice a ts.length cap]] : Array Value).toList) => pc_sound QS hV (w.alloc (.cells #[.int .i64 k, .string n, .int .i64 s, .slice a ts.length cap] 52)) ok0 _ (fun b o h => by have := hk b o h; simp; omega) (hG.mono hst0) hh
  have hC' := hC (by simp only [PVs]; exact ⟨_, _, rfl, hp0, rfl⟩)
  clear hC
  have box : ∀ w1, Below (w.alloc (.cells #[.int .i64 k, .string n, .int .i64 s, .slice a ts.length cap] 52)).heap.size (w.alloc (.cells #[.int .i64 k, .string n, .int .i64 s, .slice a ts.length cap] 52)) w1 → ∀ i, (w1.alloc (.cells #[.pointer none, .slice none 0 0] 286)).cell? ⟨w.heap.size, i, none⟩ = #[.int .i64 k, .string n, .int .i64 s, .slice a ts.length cap][i]? := fun w1 hb i =>
    have hlt : w.heap.size < w1.heap.size := by have := hb.size; simp at this; omega
    Lib.cell_of_heap ((Lib.alloc_old w1 _ _ hlt).trans ((hb.block w.heap.size (by simp)).trans (show (w.heap.push _)[w.heap.size]? = some (.cells _ 52 (0, 0)) from Array.getElem?_push_size))) i
  go_enter Tryz.func193, Tryz.ntmps193
  go_wp2_with (first
    | (go_at_call 53; refine hC'.mono ?_; rintro e w1 ⟨u, rfl, ⟨hb1, -⟩, hu⟩; simp only [PV] at hu; subst hu; have c0 := box w1 hb1 0; have c1 := box w1 hb1 1; have c2 := box w1 hb1 2; have c3 := box w1 hb1 3; have hl1 : w.heap.size ≤ w1.heap.size := (by have := hb1.size; simp at this; omega); have hbW := (hb0.trans (hb1.mono (by simp))).alloc hl1 (.cells #[.pointer none, .slice none 0 0] 286); have hst2 := fun b o (h : ok0 b o) => (⟨Nat.lt_of_lt_of_le (hk b o h) hl1, hbW.cell (p := ⟨b, o, none⟩) (hk b o h), fun es clk he => by rw [hbW.block b (hk b o h)]; exact he⟩ : (b < w1.heap.size) ∧ Stay w _ b o))
    | (go_at_call 241; refine (Tryz.write_ok w1.heap.size w1.heap.size _ (.mk k n s m ts) (Nat.le_refl _) hsz hok [] _ _ (Lib.fresh_isBuilder 286 5 w1) (PV_mono (ok' := fun x _ => x < w1.heap.size) hst2 _ _ hp) (by simp; omega) (by simp) (Words.of (hG.mono (ok' := fun x _ => x < w1.heap.size) hst2) (fun _ _ h => h))).mono ?_; rintro e w3 ⟨rfl, h3, hb3, -⟩)
    | (go_at_call 242; refine (Tryz.bldString w1.heap.size w1.heap.size _ _ (.inr h3) (by have := hb3.size; simp at this; omega)).mono ?_; rintro e w4 ⟨rfl, hb4⟩))
  go_ret2
  refine ⟨rfl, ?_⟩
  exact hbW.trans ((hb3.trans hb4).mono hl1)
def fmtB (t : Tm) : Bool := decide (validT t = 0) && wokT t && decide (t.size ≤ 1000) && decide ((wtx t).length ≤ 1000000)
def specFmt : List AV → Option AV
  | [a] => match tmOf a with | some t => if fmtB t = true then some (.tup [.str ⟨(wtx t).toArray⟩, .int .i64 0]) else none | none => none
  | _ => none
theorem Tryz.spec_format (args : List AV) (r : AV) (h : specFmt args = some r) (w : World) (ok0 : Nat → Nat → Prop) (vs : Array Value) (hk : ∀ b o, ok0 b o → b < w.heap.size) (hG : GlobP w ok0) (hv : PVs w ok0 args vs.toList) :
    Calls Tryz.prog 193 vs w fun e w' => ∃ u, e = .returned u ∧ Bl w.heap.size w w' ∧ PV w' (fun b o => ok0 b o ∨ (w.heap.size ≤ b ∧ b < w'.heap.size)) r u := by
  unfold specFmt at h
  split at h
  · rename_i a
    split at h
    · rename_i t ht
      split at h
      · rename_i hb
        cases h
        unfold fmtB at hb
        simp only [Bool.and_eq_true, decide_eq_true_eq] at hb
        obtain ⟨⟨⟨b1, b2⟩, b3⟩, b4⟩ := hb
        rw [← tmOf_ok ht] at hv
        obtain ⟨vs⟩ := vs
        simp only [PVs] at hv
        obtain ⟨u, us, rfl, hu, rfl⟩ := hv
        refine (Tryz.format_ok t b1 b2 (by omega) (by omega) w ok0 u hk hG hu).mono fun e w' ⟨he, hb⟩ => ?_
        refine ⟨_, he, ⟨hb, fun hd => nomatch hd⟩, ?_⟩
        simp only [PV, PVs]
        exact ⟨_, rfl, _, _, rfl, rfl, _, _, rfl, rfl, rfl⟩
      · cases h
    · cases h
  · cases h
end Go.Proofs
namespace Go.Abs.Q
open Go.Proofs
def specG (f : FuncId) : Option (List AV → Option AV) := if f = n_term_Format then some specFmt else specF f
noncomputable def Qf : Cfg := ⟨codeF, ctxF, specG, rspecF⟩
theorem lift_orc : ∀ n, Le (orc Q n) (orc Qf n)
  | 0 => ⟨fun f a r h => (nomatch h), fun f a g r h => (nomatch h), fun s s' t x _ h => (nomatch h)⟩
  | n + 1 => by
    have ih := lift_orc n
    have hr : ∀ (f : FuncId) (args : List AV) (h : AH) (x : AV × AH), rawA Q (orc Q n) f args h = some x → rawA Qf (orc Qf n) f args h = some x := fun f args h x he => by
      have := rawA_mono (C := Q) ih he
      exact this
    refine ⟨fun f args r he => ?_, fun f args h x he => ?_, fun s s' t x hs he => iter_mono hs (Nat.le_refl _) he⟩
    · change pureA Q (orc Q n) f args = some r at he
      show pureA Qf (orc Qf n) f args = some r
      unfold pureA at he ⊢
      by_cases hf : f = n_term_Format
      · subst hf
        have e1 : Q.spec n_term_Format = none := rfl
        have e2 : Q.code n_term_Format = none := rfl
        have e3 : Q.rspec n_term_Format = none := rfl
        rw [e1] at he
        simp only [rawA, e2, e3] at he
        cases he
      · have e1 : Qf.spec f = Q.spec f := if_neg hf
        rw [e1]
        cases hs : Q.spec f with
        | some s => rw [hs] at he; exact he
        | none =>
          rw [hs] at he
          simp only at he ⊢
          cases hq : rawA Q (orc Q n) f args AH.empty with
          | none => rw [hq] at he; cases he
          | some y => rw [hq] at he; rw [hr f args AH.empty y hq]; exact he
    · change rawR Q (orc Q n) f args h = some x at he
      show rawR Qf (orc Qf n) f args h = some x
      unfold rawR at he ⊢
      cases hq : rawA Q (orc Q n) f args h with
      | none => rw [hq] at he; unfold rstP at he; split at he <;> cases he
      | some y =>
        rw [hq] at he
        rw [hr f args h y hq]
        exact he
theorem lift {f : FuncId} {args : List AV} {r : AV} (h : pc Q f args = some r) : pc Qf f args = some r := by
  obtain ⟨n, hn⟩ := pc_orc Q h
  exact orc_pc Qf ((lift_orc n).pure f args r hn)
theorem QfS : CfgS Tryz.prog Qf := by
  refine ⟨QS.code, fun f s hs args r hr => ?_, QS.mixed, QS.rspec⟩
  have hs' : specG f = some s := hs
  unfold specG at hs'
  split at hs'
  · rename_i hf
    subst hf
    cases hs'
    exact ⟨by kernel_rfl, fun w ok0 vs hk hG hv => Tryz.spec_format args r hr w ok0 vs hk hG hv⟩
  · exact QS.spec f s hs' args r hr
theorem cmpKf (f : FuncId) (args : List AV) (r : AV) (h : cmpK f args = some r) : pc Qf f args = some r := lift (cmpK_ok f args r h)
end Go.Abs.Q
namespace Go.Abs
open Go.RowKit (Below)
def cloRun (K bytes : Nat) (T : TypeId) (args : List AV) (h : AH) : Option (AV × AH) :=
  match args with
  | [.vs _ z xs] =>
    if xs.isEmpty = true then some (.vs true z [], h)
    else if z = K ∧ xs.length * bytes ≤ roomA ∧ xs.length ≤ maxLen then some (.bsl h.boxes.length K 0 xs.length, { h with boxes := h.boxes ++ [[.tbox T (xs.flatMap AV.cells)]] })
    else none
  | _ => none
def cloR (K bytes : Nat) (T : TypeId) : RSpec := .of (cloRun K bytes T)
section
variable {P : Program}
theorem PCells_append {w : World} {ok : Nat → Nat → Prop} {b : Nat} : ∀ {cs ds : List AV} {o : Nat}, PCells w ok b o cs → PCells w ok b (o + cs.length) ds → PCells w ok b o (cs ++ ds)
  | [], ds, o, _, h2 => by simpa using h2
  | c :: cs, ds, o, h1, h2 => by
    simp only [List.cons_append, PCells] at h1 ⊢
    refine ⟨h1.1, PCells_append h1.2 ?_⟩
    rw [show o + 1 + cs.length = o + (c :: cs).length from by simp; omega]
    exact h2
theorem PEls_flat {w : World} {ok : Nat → Nat → Prop} {sz b : Nat} : ∀ {xs : List AV} {o : Nat}, PEls w ok sz b o xs → PCells w ok b o (xs.flatMap AV.cells) ∧ (xs.flatMap AV.cells).length = xs.length * sz
  | [], o, _ => by simp [PCells]
  | x :: xs, o, h => by
    rw [PEls_cons] at h
    obtain ⟨⟨h1, h2⟩, h3⟩ := h
    obtain ⟨k1, k2⟩ := PEls_flat h3
    rw [List.flatMap_cons]
    refine ⟨PCells_append h2 (by rw [h1]; exact k1), ?_⟩
    rw [List.length_append, k2, h1, List.length_cons, Nat.succ_mul]
    omega
structure CloLaw (P : Program) (f : FuncId) (K bytes : Nat) (T : TypeId) : Prop where
  enter : Program.enterable P f = true
  zero : ∀ (w : World) (base : Option Addr) (cap : Nat), (base = none → cap = 0) → Calls P f #[.slice base 0 cap] w fun e w' => ∃ a, e = .returned (.slice a 0 0) ∧ (a = none ↔ base = none) ∧ Bl w.heap.size w w'
  some : ∀ (w : World) (b o n c : Nat) (vs : List Value), 0 < n → n ≤ c → c ≤ maxLen → n * bytes ≤ roomA → vs.length = n * K → (∀ j v, vs[j]? = some v → w.cell? ⟨b, o + j, none⟩ = some v) → (∀ v ∈ vs, v.oneCell' = true) →
    Calls P f #[.slice (some ⟨b, o, none⟩) n c] w fun e w' => ∃ (w1 : World) (G : Nat) (us : Array Value), e = .returned (.slice (some ⟨w1.heap.size, 0, none⟩) n G) ∧ Bl w.heap.size w w1 ∧ w' = w1.alloc (.cells us T) ∧ n ≤ G ∧ G ≤ maxLen ∧ (∀ v ∈ us.toList, v.oneCell' = true) ∧ us.toList.take (n * K) = vs
theorem clo_sound {f : FuncId} {K bytes : Nat} {T : TypeId} (L : CloLaw P f K bytes T) (O : Orc) (args : List AV) (h : AH) (r : AV) (h' : AH) (he : (cloR K bytes T).run O args h = some (r, h')) : Program.enterable P f = true ∧
    ∀ (E : Env) (vs : Array Value), SR E → GlobP E.w E.ok → E.h = h → VRs E args vs.toList →
      Calls P f vs E.w fun e w' => ∃ u E', e = .returned u ∧ w' = E'.w ∧ Ext E E' ∧ SR E' ∧ E'.h = h' ∧ VR E' r u := by
  refine ⟨L.enter, fun E avs hS _ hh hv => ?_⟩
  subst hh
  change cloRun K bytes T args E.h = some (r, h') at he
  unfold cloRun at he
  split at he
  · rename_i fl z xs
    obtain ⟨avs⟩ := avs
    simp only [VRs] at hv
    obtain ⟨v0, _, rfl, hv0, rfl⟩ := hv
    simp only [VR, PV] at hv0
    obtain ⟨base, len, cap, rfl, rfl, hlc, hcm, hfull, hnil, hels⟩ := hv0
    split at he
    · rename_i hx
      have hx : xs = [] := List.isEmpty_iff.1 hx
      subst hx
      cases he
      refine (L.zero E.w base cap hnil.1).mono fun e w' ⟨a, h1, h2, h3⟩ => ⟨_, { E with w := w' }, h1, rfl, grow_ext hS h3, grow_SR hS h3, rfl, ?_⟩
      simp only [VR, PV]
      exact ⟨a, 0, 0, rfl, rfl, Nat.le_refl _, Nat.zero_le _, fun _ => rfl, ⟨fun _ => rfl, h2.trans hnil.2⟩, fun h => absurd rfl h⟩
    · rename_i hx
      have hx : xs ≠ [] := fun e => hx (by rw [e]; rfl)
      split at he
      · rename_i hc
        obtain ⟨rfl, hb, hm⟩ := hc
        cases he
        obtain ⟨b, o, rfl, hz0, hP⟩ := hels hx
        obtain ⟨hF, hFl⟩ := PEls_flat hP
        have hcell : ∀ j, j < xs.length * z → ∃ u c, (xs.flatMap AV.cells)[j]? = some c ∧ E.w.cell? ⟨b, o + j, none⟩ = some u ∧ u.oneCell' = true ∧ PV E.w E.ok c u := fun j hj => by
          have hj' : j < (xs.flatMap AV.cells).length := by omega
          obtain ⟨u, _, u2, u3, u4⟩ := PCells_get hF (List.getElem?_eq_getElem hj')
          exact ⟨u, _, List.getElem?_eq_getElem hj', u2, u3, u4⟩
        have hget : ∀ j v, ((List.range (xs.length * z)).map fun c => (E.w.cell? ⟨b, o + c, none⟩).getD undef)[j]? = some v → j < xs.length * z ∧ E.w.cell? ⟨b, o + j, none⟩ = some v := fun j v hv => by
          rw [List.getElem?_map] at hv
          by_cases hj : j < xs.length * z
          · rw [List.getElem?_range hj, Option.map_some, Option.some.injEq] at hv
            obtain ⟨u, _, _, u2, _⟩ := hcell j hj
            rw [u2] at hv ⊢
            cases hv
            exact ⟨hj, rfl⟩
          · rw [List.getElem?_eq_none (by simpa using hj)] at hv
            cases hv
        have hvl : ((List.range (xs.length * z)).map fun c => (E.w.cell? ⟨b, o + c, none⟩).getD undef).length = xs.length * z := by simp
        have hvr : VRs E (xs.flatMap AV.cells) ((List.range (xs.length * z)).map fun c => (E.w.cell? ⟨b, o + c, none⟩).getD undef) := VRs_of (by rw [hvl, hFl]) fun j c u hc hu => by
          obtain ⟨hj, hu⟩ := hget j u hu
          obtain ⟨u', c', k1, k2, _, k4⟩ := hcell j hj
          rw [hc] at k1
          rw [hu] at k2
          cases k1
          cases k2
          exact VR_of_PV _ _ k4
        generalize (List.range (xs.length * z)).map (fun c => (E.w.cell? ⟨b, o + c, none⟩).getD undef) = vs at *
        refine (L.some E.w b o xs.length cap vs (List.length_pos_iff.2 hx) hlc hcm hb hvl (fun j v hv => (hget j v hv).2) (fun v hv => ?_)).mono fun e w' ⟨w1, G, us, h1, h2, h3, h4, h5, h6, h7⟩ => ?_
        · obtain ⟨j, hj⟩ := List.getElem?_of_mem hv
          obtain ⟨hj', hu⟩ := hget j v hj
          obtain ⟨u', _, _, k2, k3, _⟩ := hcell j hj'
          rw [hu] at k2
          cases k2
          exact k3
        · have x1 := grow_ext hS h2
          have s1 := grow_SR hS h2
          refine ⟨_, ({ E with w := w1 } : Env).newBox us T [.tbox T (xs.flatMap AV.cells)], h1, h3, x1.trans (newBox_ext s1 _ _ _), newTBox_SR s1 (by rw [hFl, h7]; exact VRs_ext x1 _ _ hvr) h6, rfl, ?_⟩
          simp only [VR]
          exact ⟨live_new rfl rfl, G, by simp only [Env.newBox, upd_same], h4, h5⟩
      · cases he
  · cases he
end
end Go.Abs
set_option linter.unusedVariables false
set_option linter.unusedSimpArgs false
namespace Go.Proofs
open Go.RowKit Go.Lib Go.Abs
theorem Tryz.goalsUnd : Tryz.prog.underlying 35 = some (.slice 88) := by kernel_rfl
theorem Tryz.goalsNil (w : World) (a : Option Addr) (n c n' c' : Nat) : (binOp .eql 35 (.slice a n c) (.slice none n' c')).run Tryz.prog w = .ok (.bool a.isNone) w := Lib.run_eql_slice_nil w _ _ a n c n' c' Tryz.goalsUnd
set_option maxHeartbeats 4000000 in
set_option maxRecDepth 100000 in
theorem Tryz.cloG_nil (w : World) : Calls Tryz.prog 196 #[.slice none 0 0] w fun e w' => e = .returned (.slice none 0 0) ∧ w' = w := by
  have hq := Tryz.goalsNil
  go_enter Tryz.func196, Tryz.ntmps196
  go_wp2
  first | go_ret2 | go_ret
  exact ⟨rfl, rfl⟩
set_option maxHeartbeats 4000000 in
set_option maxRecDepth 100000 in
theorem Tryz.cloG_empty (a : Addr) (c : Nat) (w : World) (i0 : TypeInfo) (hi0 : Tryz.prog.info? 88 = some i0) (hsz : i0.size = 5) : Calls Tryz.prog 196 #[.slice (some a) 0 c] w fun e w' => e = .returned (.slice (some ⟨w.heap.size, 0, none⟩) 0 0) ∧ w' = w.alloc (.cells #[] 88) := by
  have hrun : ∀ ty, (Builtin.append_ #[35, 35] ty #[.slice (some ⟨w.heap.size, 0, none⟩) 0 0, .slice (some a) 0 c]).run Tryz.prog (w.alloc (.cells #[] 88)) = .ok (.slice (some ⟨w.heap.size, 0, none⟩) 0 0) (w.alloc (.cells #[] 88)) := fun ty => by
    have hf := run_firstCells_some (P := Tryz.prog) (w.alloc (.cells #[] 88)) i0.size 0 a 0 c [] (by simp) (fun j u hj => by simp at hj)
    simp [Builtin.append_, run_underlying Tryz.goalsUnd, sizeOf, typeInfo, hi0, Builtin.lenOf, hf, storeCells]
  obtain ⟨ab, ao, asp⟩ := a
  have hq := Tryz.goalsNil
  go_enter Tryz.func196, Tryz.ntmps196
  go_wp2_with (at_builtin; refine Lib.wpList_append_run _ rfl _ _ _ _ rfl _ _ rfl rfl _ _ (hrun _) ?_)
  first | go_ret2 | go_ret
  exact ⟨rfl, rfl⟩
set_option maxHeartbeats 4000000 in
set_option maxRecDepth 100000 in
theorem Tryz.cloG_some (b o n c : Nat) (vs : List Value) (w : World) (i0 : TypeInfo) (z : Value) (hi0 : Tryz.prog.info? 88 = some i0) (hz0 : i0.zero = some z) (hsz : i0.size = 5) (h0 : 0 < n) (hm : n ≤ maxLen) (hbig : n * i0.bytes ≤ 140737488355328)
    (hvl : vs.length = n * 5) (hvs : ∀ j v, vs[j]? = some v → w.cell? ⟨b, o + j, none⟩ = some v) (h1v : ∀ v ∈ vs, v.oneCell' = true) :
    Calls Tryz.prog 196 #[.slice (some ⟨b, o, none⟩) n c] w fun e w' => e = .returned (.slice (some ⟨w.heap.size + 1, 0, none⟩) n (grownCap (w.alloc (.cells #[] 88)) n 0 88)) ∧
      w' = ((w.alloc (.cells #[] 88)).drew).alloc (.cells (vs.toArray ++ Builtin.zeroCells z.cells (grownCap (w.alloc (.cells #[] 88)) n 0 88 - n)) 88) := by
  have hvs' : ∀ j v, vs[j]? = some v → (w.alloc (.cells #[] 88)).cell? ⟨b, o + j, none⟩ = some v := fun j v hj => Lib.cell?_alloc_some _ (hvs j v hj)
  have hsrc : Src Tryz.prog i0.size 35 (.slice (some ⟨b, o, none⟩) n c) n vs (w.alloc (.cells #[] 88)) := Src.ofSlice _ Tryz.goalsUnd ⟨b, o, none⟩ n c vs (by rw [hsz, hvl]) (fun j u hj => by rw [Addr.add_lit]; exact hvs' j u hj) h1v
  have hold : (Builtin.firstCells i0.size 0 (.slice (some ⟨w.heap.size, 0, none⟩) 0 0)).run Tryz.prog (w.alloc (.cells #[] 88)).drew = .ok ([] : List Value).toArray (w.alloc (.cells #[] 88)).drew := by
    rw [hsz]
    exact run_firstCells_some _ 5 0 ⟨w.heap.size, 0, none⟩ 0 0 [] rfl (fun j v hj => by simp at hj)
  have hrun : ∀ ty, (Builtin.append_ #[35, 35] ty #[.slice (some ⟨w.heap.size, 0, none⟩) 0 0, .slice (some ⟨b, o, none⟩) n c]).run Tryz.prog (w.alloc (.cells #[] 88)) = _ := fun ty =>
    run_append_grow_src (w.alloc (.cells #[] 88)) 35 35 ty 88 i0 z Tryz.goalsUnd hi0 hz0 (some ⟨w.heap.size, 0, none⟩) 0 0 [] hold _ n vs hsrc (by omega) (by unfold maxLen at hm; omega) (growslice_fits (by unfold maxLen at hm; omega) (by rw [Nat.zero_add]; exact hbig))
  rw [Nat.zero_add, List.nil_append] at hrun
  have hs : (w.alloc (.cells #[] 88)).heap.size = w.heap.size + 1 := by simp
  rw [hs] at hrun
  generalize hG : grownCap (w.alloc (.cells #[] 88)) n 0 88 = G at *
  generalize hR : vs.toArray ++ Builtin.zeroCells z.cells (G - n) = R at *
  clear hR hold hsrc hG hvs hvs'
  have hq := Tryz.goalsNil
  go_enter Tryz.func196, Tryz.ntmps196
  go_wp2_with (at_builtin; refine Lib.wpList_append_run _ rfl _ _ _ _ rfl _ _ rfl rfl _ _ (hrun _) ?_)
  first | go_ret2 | go_ret
  exact ⟨rfl, rfl⟩
theorem zeroCells_mem {cs : Array Value} {p : Value → Prop} (h : ∀ v ∈ cs.toList, p v) (n : Nat) : ∀ v ∈ (Builtin.zeroCells cs n).toList, p v := by
  intro v hv
  unfold Builtin.zeroCells at hv
  rw [Array.toList_map, List.mem_map] at hv
  obtain ⟨i, hi, rfl⟩ := hv
  have hlt0 : i < n * cs.size := by simpa using hi
  have h0 : 0 < cs.size := by
    rcases Nat.eq_zero_or_pos cs.size with h | h
    · rw [h, Nat.mul_zero] at hlt0; omega
    · exact h
  have hlt := Nat.mod_lt i h0
  rw [getElem!_pos cs _ hlt]
  exact h _ (Array.mem_toList_iff.2 (Array.getElem_mem hlt))
set_option maxRecDepth 100000 in
theorem Tryz.cloLaw : CloLaw Tryz.prog 196 5 72 88 := by
  obtain ⟨i0, z, hi0, hsz, hz0, hzs, hby⟩ : ∃ i0 z, Tryz.prog.info? 88 = some i0 ∧ i0.size = 5 ∧ i0.zero = some z ∧ z.cells.size = 5 ∧ i0.bytes = 72 := ⟨_, _, rfl, by kernel_rfl, rfl, by kernel_rfl, by kernel_rfl⟩
  have hz1 : ∀ v ∈ z.cells.toList, v.oneCell' = true := by
    have : (Tryz.prog.info? 88).bind (fun i => i.zero.map fun z => z.cells.toList.all Value.oneCell') = some true := by kernel_rfl
    rw [hi0, Option.bind_some, hz0, Option.map_some, Option.some.injEq] at this
    exact List.all_eq_true.1 this
  refine ⟨by kernel_rfl, fun w base cap hb => ?_, ?_⟩
  · cases base with
    | none =>
      obtain rfl := hb rfl
      exact (Tryz.cloG_nil w).mono fun e w' ⟨h1, h2⟩ => ⟨none, h1, Iff.rfl, by rw [h2]; exact Bl.refl _ _⟩
    | some a => exact (Tryz.cloG_empty a cap w i0 hi0 hsz).mono fun e w' ⟨h1, h2⟩ => ⟨_, h1, ⟨(fun h => nomatch h), fun h => nomatch h⟩, by rw [h2]; exact ⟨(Below.refl _ w).alloc (Nat.le_refl _) _, fun _ => Nat.le_refl _⟩⟩
  · intro w b o n c vs h0 hnc hc hb hvl hvs h1v
    have hm : n ≤ maxLen := Nat.le_trans hnc hc
    have hG1 := grownCap_ge (w.alloc (.cells #[] 88)) n 0 88
    have hG2 := grownCap_le_maxLen (w.alloc (.cells #[] 88)) n 0 88 hm
    refine (Tryz.cloG_some b o n c vs w i0 z hi0 hz0 hsz h0 hm (by rw [hby]; exact hb) hvl hvs h1v).mono fun e w' ⟨h1, h2⟩ => ⟨(w.alloc (.cells #[] 88)).drew, _, _, ?_, ?_, h2, hG1, hG2, ?_, ?_⟩
    · rw [h1]; simp
    · refine ⟨((Below.refl _ w).alloc (Nat.le_refl _) _).trans ⟨rfl, rfl, rfl, Nat.le_refl _, fun _ _ => rfl⟩, fun _ => ?_⟩
      show w.drawn ≤ w.drawn + 1
      omega
    · intro v hv
      rw [Array.toList_append, List.mem_append] at hv
      rcases hv with hv | hv
      · exact h1v v hv
      · exact zeroCells_mem hz1 _ v hv
    · rw [Array.toList_append]
      exact List.take_left' hvl
end Go.Proofs
