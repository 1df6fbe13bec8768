/- A part of the proof. -/
import Derived.Test.YthcbgdmeacaglaaGreatDoorTE10
import Derived.Test.YthcbgdmeacaglaaGreatDoorRows
import Derived.ProofKit
import Derived.OpenShut
import Derived.JoinedCond
import Derived.Deep.Slices
import Derived.Carry
set_option linter.all false
namespace Go.Abs
def look (fr : Fr) (n : Nat) : AV := fr.getD n undefA
@[simp] theorem get_t (fr : Fr) (n : Nat) : get fr (.t n) = look fr n := _root_.id rfl
@[simp] theorem get_c (fr : Fr) (v : AV) : get fr (.c v) = v := _root_.id rfl
@[simp] theorem put_some (fr : Fr) (d : Nat) (v : AV) : put fr (some d) v = List.set fr d v := _root_.id rfl
@[simp] theorem put_none (fr : Fr) (v : AV) : put fr none v = fr := _root_.id rfl
theorem look_set_ne (fr : Fr) {i j : Nat} (v : AV) (h : i ≠ j) : look (List.set fr i v) j = look fr j := by
  simp [look, List.getD, List.getElem?_set_ne h]
theorem look_set_eq (fr : Fr) {i j : Nat} (v : AV) (e : i = j) (h : i < fr.length) : look (List.set fr i v) j = v := by
  subst e
  simp [look, List.getD, List.getElem?_set_self h]
def nxt (r : Option (AV × AH)) (O : Orc) (c : Ctx) (d : Option Nat) (ros : List RO) (fr : Fr) : Option (Fr × AH) := match r with | some (v, h) => evalOps O c ros (put fr d v) h | none => none
@[congr] theorem nxt_congr {r r' : Option (AV × AH)} {O : Orc} {c : Ctx} {d : Option Nat} {ros : List RO} {fr : Fr} (h : r = r') : nxt r O c d ros fr = nxt r' O c d ros fr := by rw [h]
@[simp] theorem nxt_some (v : AV) (h : AH) (O : Orc) (c : Ctx) (d : Option Nat) (ros : List RO) (fr : Fr) : nxt (some (v, h)) O c d ros fr = evalOps O c ros (put fr d v) h := _root_.id rfl
def grd (b : AV) (w : Bool) (O : Orc) (c : Ctx) (d : Option Nat) (op : ROp) (ros : List RO) (fr : Fr) (h : AH) : Option (Fr × AH) :=
  match b with
  | .bool b => if b = w then nxt (evalOp O c op fr h) O c d ros fr else evalOps O c ros (put fr d undefA) h
  | .tup _ => evalOps O c ros (put fr d undefA) h
  | _ => none
@[congr] theorem grd_congr {b b' : AV} {w : Bool} {O : Orc} {c : Ctx} {d : Option Nat} {op : ROp} {ros : List RO} {fr : Fr} {h : AH} (e : b = b') : grd b w O c d op ros fr h = grd b' w O c d op ros fr h := by rw [e]
section
variable (O : Orc) (c : Ctx) (d : Option Nat) (op : ROp) (ros : List RO) (fr : Fr) (h : AH)
@[simp] theorem grd_tt : grd (.bool true) true O c d op ros fr h = nxt (evalOp O c op fr h) O c d ros fr := _root_.id rfl
@[simp] theorem grd_ff : grd (.bool false) false O c d op ros fr h = nxt (evalOp O c op fr h) O c d ros fr := _root_.id rfl
@[simp] theorem grd_tf : grd (.bool true) false O c d op ros fr h = evalOps O c ros (put fr d undefA) h := _root_.id rfl
@[simp] theorem grd_ft : grd (.bool false) true O c d op ros fr h = evalOps O c ros (put fr d undefA) h := _root_.id rfl
@[simp] theorem grd_un (l : List AV) (w : Bool) : grd (.tup l) w O c d op ros fr h = evalOps O c ros (put fr d undefA) h := _root_.id rfl
end
@[simp] theorem undef_tup : undefA = .tup [] := _root_.id rfl
def brn (b : AV) (O : Orc) (c : Ctx) (x y : RCode) (fr : Fr) (h : AH) : Option (Ex × St) := match b with | .bool true => evalCode O c x (fr, h) | .bool false => evalCode O c y (fr, h) | _ => none
@[congr] theorem brn_congr {b b' : AV} {O : Orc} {c : Ctx} {x y : RCode} {fr : Fr} {h : AH} (e : b = b') : brn b O c x y fr h = brn b' O c x y fr h := by rw [e]
@[simp] theorem brn_t (O : Orc) (c : Ctx) (x y : RCode) (fr : Fr) (h : AH) : brn (.bool true) O c x y fr h = evalCode O c x (fr, h) := _root_.id rfl
@[simp] theorem brn_f (O : Orc) (c : Ctx) (x y : RCode) (fr : Fr) (h : AH) : brn (.bool false) O c x y fr h = evalCode O c y (fr, h) := _root_.id rfl
def sqn (r : Option (Ex × St)) (O : Orc) (c : Ctx) (y : RCode) : Option (Ex × St) := match r with | some (.normal, fr, h) => evalCode O c y (fr, h) | r => r
@[congr] theorem sqn_congr {r r' : Option (Ex × St)} {O : Orc} {c : Ctx} {y : RCode} (h : r = r') : sqn r O c y = sqn r' O c y := by rw [h]
@[simp] theorem sqn_n (fr : Fr) (h : AH) (O : Orc) (c : Ctx) (y : RCode) : sqn (some (.normal, fr, h)) O c y = evalCode O c y (fr, h) := _root_.id rfl
@[simp] theorem sqn_r (s : St) (O : Orc) (c : Ctx) (y : RCode) : sqn (some (.ret, s)) O c y = some (.ret, s) := _root_.id rfl
@[simp] theorem sqn_e (i : Nat) (s : St) (O : Orc) (c : Ctx) (y : RCode) : sqn (some (.exit i, s)) O c y = some (.exit i, s) := _root_.id rfl
def kbl (id : Nat) (r : Option (Ex × St)) : Option (Ex × St) := match r with | some (.exit i, s) => if i = id then some (.normal, s) else some (.exit i, s) | r => r
@[simp] theorem kbl_n (id : Nat) (s : St) : kbl id (some (.normal, s)) = some (.normal, s) := _root_.id rfl
@[simp] theorem kbl_r (id : Nat) (s : St) : kbl id (some (.ret, s)) = some (.ret, s) := _root_.id rfl
def kend {β : Type} (r : Option (Ex × St)) (k : Fr → AH → Option β) : Option β := match r with | some (.normal, fr, h) => k fr h | some (.ret, fr, h) => k fr h | _ => none
@[simp] theorem kend_n {β : Type} (fr : Fr) (h : AH) (k : Fr → AH → Option β) : kend (some (.normal, fr, h)) k = k fr h := _root_.id rfl
@[simp] theorem kend_r {β : Type} (fr : Fr) (h : AH) (k : Fr → AH → Option β) : kend (some (.ret, fr, h)) k = k fr h := _root_.id rfl
section
variable {O : Orc} {c : Ctx}
@[simp] theorem ops_nil (fr : Fr) (h : AH) : evalOps O c [] fr h = some (fr, h) := _root_.id rfl
@[simp] theorem ops_cons (d : Option Nat) (op : ROp) (ros : List RO) (fr : Fr) (h : AH) : evalOps O c (⟨d, op, none⟩ :: ros) fr h = nxt (evalOp O c op fr h) O c d ros fr := by
  simp only [evalOps, wantedA, nxt]
  cases evalOp O c op fr h with
  | none => rfl
  | some x => rfl
@[simp] theorem ops_guard (d : Option Nat) (op : ROp) (s : Nat) (w : Bool) (ros : List RO) (fr : Fr) (h : AH) :
    evalOps O c (⟨d, op, some (s, w)⟩ :: ros) fr h = grd (look fr s) w O c d op ros fr h := by
  simp only [evalOps, wantedA, look, grd, nxt]
  cases fr.getD s undefA with
  | bool b =>
    dsimp only
    cases b <;> cases w <;> simp <;> cases evalOp O c op fr h <;> rfl
  | _ => rfl
def krg (r : Option (Fr × AH)) : Option (Ex × St) := match r with | some s => some (.normal, s) | none => none
@[simp] theorem krg_s (s : St) : krg (some s) = some (.normal, s) := _root_.id rfl
@[simp] theorem code_skip (s : St) : evalCode O c .skip s = some (.normal, s) := _root_.id rfl
@[simp] theorem code_region (d : Bool) (ops : List RO) (fr : Fr) (h : AH) : evalCode O c (.region d ops) (fr, h) = krg (evalOps O c ops fr h) := _root_.id rfl
@[simp] theorem code_seq (a b : RCode) (s : St) : evalCode O c (.seq a b) s = sqn (evalCode O c a s) O c b := by
  simp only [evalCode, sqn]
  split <;> simp_all
@[simp] theorem code_cond (q : Opd) (a b : RCode) (fr : Fr) (h : AH) : evalCode O c (.cond q a b) (fr, h) = brn (get fr q) O c a b fr h := by
  simp only [evalCode, brn]
  cases get fr q with
  | bool b => cases b <;> rfl
  | _ => rfl
@[simp] theorem code_block (id : Nat) (a : RCode) (s : St) : evalCode O c (.block id a) s = kbl id (evalCode O c a s) := by
  simp only [evalCode, kbl]
  split <;> simp_all
@[simp] theorem code_exit (id : Nat) (s : St) : evalCode O c (.exit id) s = some (.exit id, s) := _root_.id rfl
@[simp] theorem code_bad (s : St) : evalCode O c .bad s = none := _root_.id rfl
@[simp] theorem code_ret (s : St) : evalCode O c .ret s = some (.ret, s) := _root_.id rfl
theorem code_loop {C : Cfg} (a : RCode) (s : St) : evalCode (lim C) c (.loop a) s = lp (evalCode (lim C) c a) s := _root_.id rfl
end
def kcl (ys : Option (List AV)) (k : List AV → Option AV) (tm : Bool) (h : AH) : Option (AV × AH) :=
  match ys with | none => none | some ys => match k ys with | some r => if r.scalar || tm then some (r, h) else none | none => none
theorem op_call {C : Cfg} {c : Ctx} {f : FuncId} (hr : c.raw f = false) (xs : List Opd) (fr : Fr) (h : AH) :
    evalOp (lim C) c (.call f xs) fr h = kcl (frzAll h true (xs.map (get fr))) (fun ys => pc C f ys) ((xs.map (get fr)).all (tame h)) h := by
  simp only [evalOp, callA, hr, kcl]
  rw [if_neg (by simp)]
  cases frzAll h true (xs.map (get fr)) with
  | none => rfl
  | some ys =>
    show (match pc C f ys with | none => none | some r => _) = _
    cases hp : pc C f ys with
    | none => simp only [hp]
    | some r => simp only [hp]
theorem op_callr {C : Cfg} {c : Ctx} {f : FuncId} (hr : c.raw f = true) (xs : List Opd) (fr : Fr) (h : AH) :
    evalOp (lim C) c (.call f xs) fr h = kpB (c.noB f) h (rc C f (xs.map (get fr)) h) := by
  simp only [evalOp, callA, hr]
  rfl
@[simp] theorem kpB_f (h : AH) (r : Option (AV × AH)) : kpB false h r = r := _root_.id rfl
def fin (rs : List RRes) (fr : Fr) (h : AH) : Option AV := (resA fr h rs).bind fun vs => frzRes h (tupled vs)
theorem look_start {rf : RFunc} {args : List AV} (h : args.length ≤ rf.ntmps) : (startFr rf args).length = rf.ntmps ∧ ∀ i, look (startFr rf args) i = args.getD i undefA := by
  refine ⟨by simp [startFr]; omega, fun i => ?_⟩
  simp only [look, startFr, List.getD]
  by_cases hi : i < args.length
  · rw [List.getElem?_append_left hi]
  · rw [List.getElem?_append_right (by omega), List.getElem?_eq_none (l := args) (by omega), List.getElem?_replicate]
    split <;> rfl
theorem pc_run {C : Cfg} {f : FuncId} {rf : RFunc} {args : List AV} {r : AV} (hs : C.spec f = none) (hc : C.code f = some rf) (hl : args.length ≤ rf.ntmps)
    (H : ∀ fr : Fr, fr.length = rf.ntmps → (∀ i, look fr i = args.getD i undefA) → kend (evalCode (lim C) (C.ctx f) rf.body (fr, ⟨[], []⟩)) (fin rf.results) = some r) : pc C f args = some r := by
  have := H (startFr rf args) (look_start hl).1 (look_start hl).2
  apply pc_of
  unfold pureA rawA
  simp only [hs, hc]
  unfold evalBody kend fin at *
  cases he : evalCode (lim C) (C.ctx f) rf.body (startFr rf args, AH.empty) with
  | none => rw [show (⟨[], []⟩ : AH) = AH.empty from rfl, he] at this; cases this
  | some x =>
    rw [show (⟨[], []⟩ : AH) = AH.empty from rfl, he] at this
    obtain ⟨e, fr, h⟩ := x
    cases e with
    | exit i => cases this
    | normal => cases hr : resA fr h rf.results with | none => simp [hr] at this | some vs => simpa [hr] using this
    | ret => cases hr : resA fr h rf.results with | none => simp [hr] at this | some vs => simpa [hr] using this
def sl (m : Bool × Bool) (sz : Nat) (xs : List AV) : AV := .vs m.1 (if xs.isEmpty && !m.2 then 0 else sz) xs
theorem sl_def (f : Bool) (sz : Nat) (xs : List AV) : .vs f sz xs = sl (f, true) sz xs := by simp [sl]
@[simp] theorem sl_isTup (m : Bool × Bool) (sz : Nat) (xs : List AV) : (sl m sz xs).isTup = false := _root_.id rfl
@[simp] theorem sl_cells (m : Bool × Bool) (sz : Nat) (xs : List AV) : (sl m sz xs).cells = [sl m sz xs] := _root_.id rfl
@[simp] theorem sl_frz1 (h : AH) (am : Bool) (m : Bool × Bool) (sz : Nat) (xs : List AV) : frz1 h am (sl m sz xs) = some (sl m sz xs) := _root_.id rfl
@[simp] theorem sl_frz (h : AH) (am : Bool) (m : Bool × Bool) (sz : Nat) (xs : List AV) : frz h am (sl m sz xs) = some (sl m sz xs) := _root_.id rfl
@[simp] theorem sl_tame1 (h : AH) (m : Bool × Bool) (sz : Nat) (xs : List AV) : tame1 h (sl m sz xs) = true := _root_.id rfl
@[simp] theorem sl_tame (h : AH) (m : Bool × Bool) (sz : Nat) (xs : List AV) : tame h (sl m sz xs) = true := _root_.id rfl
@[simp] theorem sl_flat (m : Bool × Bool) (sz : Nat) (xs : List AV) : (sl m sz xs).flat = true := _root_.id rfl
@[simp] theorem sl_ofCells (m : Bool × Bool) (sz : Nat) (xs : List AV) (rest : List AV) : ofCells false 1 (sl m sz xs :: rest) = some (sl m sz xs) := _root_.id rfl
@[simp] theorem sl_elems (h : AH) (m : Bool × Bool) (sz : Nat) (xs : List AV) : elems h sz (sl m sz xs) = some xs := by
  cases xs with
  | nil => simp [elems, sl]
  | cons x xs => simp [elems, sl]
@[simp] theorem sl_scalar (m : Bool × Bool) (sz : Nat) (xs : List AV) : (sl m sz xs).scalar = false := _root_.id rfl
@[simp] theorem frz_int (h : AH) (am : Bool) (k : IntKind) (n : Int) : frz h am (.int k n) = some (.int k n) := _root_.id rfl
@[simp] theorem frz_bool (h : AH) (am : Bool) (b : Bool) : frz h am (.bool b) = some (.bool b) := _root_.id rfl
@[simp] theorem frz_str (h : AH) (am : Bool) (s : ByteArray) : frz h am (.str s) = some (.str s) := _root_.id rfl
@[simp] theorem frz_fn (h : AH) (am : Bool) (f : FuncId) : frz h am (.fn f []) = some (.fn f []) := _root_.id rfl
@[simp] theorem frz_nilp (h : AH) (am : Bool) : frz h am .nilp = some .nilp := _root_.id rfl
@[simp] theorem frzL_nil (h : AH) (am : Bool) : frzL h am [] = some [] := _root_.id rfl
@[simp] theorem frzL_cons (h : AH) (am : Bool) (x : AV) (xs : List AV) : frzL h am (x :: xs) = (frz1 h am x).bind fun y => (frzL h am xs).map (y :: ·) := _root_.id rfl
@[simp] theorem frz1_int (h : AH) (am : Bool) (k : IntKind) (n : Int) : frz1 h am (.int k n) = some (.int k n) := _root_.id rfl
@[simp] theorem frz1_bool (h : AH) (am : Bool) (b : Bool) : frz1 h am (.bool b) = some (.bool b) := _root_.id rfl
@[simp] theorem frz1_str (h : AH) (am : Bool) (s : ByteArray) : frz1 h am (.str s) = some (.str s) := _root_.id rfl
@[simp] theorem frz_agg (h : AH) (am : Bool) (cs : List AV) : frz h am (.agg cs) = (frzL h am cs).map .agg := _root_.id rfl
@[simp] theorem frzAll_nil (h : AH) (am : Bool) : frzAll h am [] = some [] := _root_.id rfl
@[simp] theorem frzAll_cons (h : AH) (am : Bool) (x : AV) (xs : List AV) : frzAll h am (x :: xs) = (frz h am x).bind fun y => (frzAll h am xs).map (y :: ·) := _root_.id rfl
@[simp] theorem frzRes_int (h : AH) (k : IntKind) (n : Int) : frzRes h (.int k n) = some (.int k n) := _root_.id rfl
@[simp] theorem frzRes_bool (h : AH) (b : Bool) : frzRes h (.bool b) = some (.bool b) := _root_.id rfl
@[simp] theorem frzRes_str (h : AH) (s : ByteArray) : frzRes h (.str s) = some (.str s) := _root_.id rfl
@[simp] theorem frzRes_sl (h : AH) (m : Bool × Bool) (sz : Nat) (xs : List AV) : frzRes h (sl m sz xs) = some (sl m sz xs) := _root_.id rfl
@[simp] theorem frzRes_agg (h : AH) (cs : List AV) : frzRes h (.agg cs) = (frzL h true cs).map .agg := _root_.id rfl
@[simp] theorem frzRes_tup (h : AH) (cs : List AV) : frzRes h (.tup cs) = (frzAll h true cs).map .tup := _root_.id rfl
@[simp] theorem kcl_some (ys : List AV) (k : List AV → Option AV) (tm : Bool) (h : AH) : kcl (some ys) k tm h = (match k ys with | some r => if r.scalar || tm then some (r, h) else none | none => none) := _root_.id rfl
@[simp] theorem scalar_int (k : IntKind) (n : Int) : (AV.int k n).scalar = true := _root_.id rfl
@[simp] theorem scalar_bool (b : Bool) : (AV.bool b).scalar = true := _root_.id rfl
@[simp] theorem scalar_str (s : ByteArray) : (AV.str s).scalar = true := _root_.id rfl
@[simp] theorem isTup_int (k : IntKind) (n : Int) : (AV.int k n).isTup = false := _root_.id rfl
@[simp] theorem isTup_bool (b : Bool) : (AV.bool b).isTup = false := _root_.id rfl
@[simp] theorem isTup_str (b : ByteArray) : (AV.str b).isTup = false := _root_.id rfl
@[simp] theorem isTup_agg (cs : List AV) : (AV.agg cs).isTup = false := _root_.id rfl
@[simp] theorem cells_agg (cs : List AV) : (AV.agg cs).cells = cs := _root_.id rfl
@[simp] theorem cells_int (k : IntKind) (n : Int) : (AV.int k n).cells = [.int k n] := _root_.id rfl
@[simp] theorem cells_bool (b : Bool) : (AV.bool b).cells = [.bool b] := _root_.id rfl
@[simp] theorem cells_str (b : ByteArray) : (AV.str b).cells = [.str b] := _root_.id rfl
@[simp] theorem ofCells_true (n : Nat) (cs : List AV) : ofCells true n cs = if n ≤ cs.length then some (.agg (cs.take n)) else none := _root_.id rfl
@[simp] theorem ofCells_false (n : Nat) (cs : List AV) : ofCells false n cs = cs.head? := _root_.id rfl
def iaA (h : AH) (sz : Nat) (x i : AV) : Option (AV × AH) :=
  match x, i with
  | .vs _ z xs, .int _ j => if 0 ≤ j ∧ z = sz then (match xs[j.toNat]? with | some e => some (.pv e.cells, h) | none => none) else none
  | .sl k n off len, .int _ j => if 0 ≤ j ∧ j < len then some (.ep k n (off + j.toNat) 0 sz, h) else none
  | .bsl b s off len, .int _ j => if 0 ≤ j ∧ j < len ∧ s = sz then some (.ptr b (off + j.toNat * sz), h) else none
  | _, _ => none
def lenA (h : AH) (x : AV) : Option (AV × AH) :=
  match x with
  | .vs _ _ xs => some (.int .i64 xs.length, h)
  | .sl _ _ _ len => some (.int .i64 len, h)
  | .bsl _ _ _ len => some (.int .i64 len, h)
  | _ => none
def slcA (h : AH) (sz : Nat) (x : AV) (l u m : Option (Option Int)) : Option (AV × AH) :=
  match l, u, m with
  | some l, some u, some m => match sliceA h sz x l u m with | some v => some (v, h) | none => none
  | _, _, _ => none
section
variable {O : Orc} {c : Ctx} (fr : Fr) (h : AH)
@[simp] theorem op_mov (x : Opd) : evalOp O c (.mov x) fr h = some (get fr x, h) := _root_.id rfl
@[simp] theorem op_pick (q a b : Opd) : evalOp O c (.pick q a b) fr h = (match get fr q with | .bool t => some (if t then get fr a else get fr b, h) | _ => none) := _root_.id rfl
@[simp] theorem op_box (x : Opd) : evalOp O c (.box x) fr h = if (get fr x).isTup then none else some (.ptr h.boxes.length 0, { h with boxes := h.boxes ++ [(get fr x).cells] }) := _root_.id rfl
@[simp] theorem op_alloc (z : AV) : evalOp O c (.alloc z) fr h = some (.ptr h.boxes.length 0, { h with boxes := h.boxes ++ [z.cells] }) := _root_.id rfl
@[simp] theorem op_build (z : AV) (parts : List (Nat × Nat × Opd)) : evalOp O c (.build z parts) fr h = (buildParts fr z.cells.length parts).map fun ps => (.agg (fillParts z.cells ps), h) := by
  simp only [evalOp]
  cases buildParts fr z.cells.length parts <;> rfl
@[simp] theorem op_bslice (n : Nat) (z : AV) (parts : List (Nat × Opd)) : evalOp O c (.bslice n z parts) fr h = (sliceParts fr h (List.replicate n z) parts).map fun xs => (sl (true, true) z.cells.length xs, h) := by
  simp only [evalOp, sl_def]
  cases sliceParts fr h (List.replicate n z) parts <;> rfl
@[simp] theorem op_bslicev (n : Nat) (z : AV) (parts : List (Nat × Opd)) : evalOp O c (.bslicev n z parts) fr h = if parts.all (fun p => flatA (get fr p.2)) then (sliceParts fr h (List.replicate n z) parts).map fun xs => (sl (true, true) z.cells.length xs, h) else none := by
  simp only [evalOp, sl_def]
  cases sliceParts fr h (List.replicate n z) parts <;> rfl
@[simp] theorem op_ldb (agg : Bool) (n : Nat) (x : Opd) : evalOp O c (.ldb agg n x) fr h = (match get fr x with | .ep .. => none | p => (match loadA h agg n p with | some v => some (v, h) | none => none)) := _root_.id rfl
@[simp] theorem op_nilck (x : Opd) : evalOp O c (.nilck x) fr h = (match get fr x with | .pv cs => some (.pv cs, h) | .ptr b o => some (.ptr b o, h) | .ep k n i q s => some (.ep k n i q s, h) | .fn f cs => some (.fn f cs, h) | _ => none) := _root_.id rfl
@[simp] theorem op_bin (op : BinOp) (x y : Opd) : evalOp O c (.bin op x y) fr h = (evalBin op (get fr x) (get fr y)).map fun v => (v, h) := by
  simp only [evalOp]
  cases evalBin op (get fr x) (get fr y) <;> rfl
@[simp] theorem op_beq (neg : Bool) (x y : Opd) : evalOp O c (.beq neg x y) fr h = (match get fr x, get fr y with | .bool a, .bool b => some (.bool (if neg then !(a == b) else a == b), h) | _, _ => none) := _root_.id rfl
@[simp] theorem op_nileq (neg : Bool) (x : Opd) : evalOp O c (.nileq neg x) fr h = nqA neg h (get fr x) := _root_.id rfl
@[simp] theorem op_un (op : UnOp) (x : Opd) : evalOp O c (.un op x) fr h = (evalUn op (get fr x)).map fun v => (v, h) := by
  simp only [evalOp]
  cases evalUn op (get fr x) <;> rfl
@[simp] theorem op_conv (k : IntKind) (x : Opd) : evalOp O c (.conv k x) fr h = (match get fr x with | .int _ n => some (.int k (k.wrap n), h) | _ => none) := _root_.id rfl
@[simp] theorem op_cstr (x : Opd) : evalOp O c (.cstr x) fr h = (match get fr x with | .str s => some (.str s, h) | _ => none) := _root_.id rfl
@[simp] theorem op_bstr (x : Opd) : evalOp O c (.bstr x) fr h = bstrA h (get fr x) := _root_.id rfl
@[simp] theorem op_mkslice (z : AV) (bytes : Nat) (l q : Opd) : evalOp O c (.mkslice z bytes l q) fr h = (match get fr l, get fr q with
    | .int _ a, .int _ b =>
      if 0 ≤ a ∧ a ≤ b ∧ b * bytes ≤ roomA ∧ b ≤ maxLen then
        some (.sl h.fams.length a.toNat 0 a.toNat, { h with fams := h.fams ++ [⟨List.replicate a.toNat z, z.cells.length, true⟩] })
      else none
    | _, _ => none) := _root_.id rfl
@[simp] theorem op_faddr (off : Nat) (x : Opd) : evalOp O c (.faddr off x) fr h = (match get fr x with | .pv cs => some (.pv (cs.drop off), h) | .ptr b o => some (.ptr b (o + off), h) | .ep k n i q s => some (.ep k n i (q + off) s, h) | _ => none) := _root_.id rfl
@[simp] theorem op_fld (agg : Bool) (off n : Nat) (x : Opd) : evalOp O c (.fld agg off n x) fr h = (match get fr x with | .agg cs => (match ofCells agg n (cs.drop off) with | some v => some (v, h) | none => none) | _ => none) := _root_.id rfl
@[simp] theorem op_idx (x i : Opd) : evalOp O c (.idx x i) fr h = (match get fr x, get fr i with
    | .str s, .int _ j => if 0 ≤ j then (match s[j.toNat]? with | some b => some (.int .u8 b.toNat, h) | none => none) else none
    | _, _ => none) := _root_.id rfl
@[simp] theorem op_ext (x : Opd) (i : Nat) : evalOp O c (.ext x i) fr h = (match get fr x with | .tup vs => (match vs[i]? with | some v => some (v, h) | none => none) | _ => none) := _root_.id rfl
@[simp] theorem op_slen (x : Opd) : evalOp O c (.len true x) fr h = (match get fr x with | .str s => some (.int .i64 s.size, h) | _ => none) := _root_.id rfl
@[simp] theorem op_max (x y : Opd) : evalOp O c (.max x y) fr h = (match get fr x, get fr y with | .int k a, .int k' b => if k = k' then some (.int k (if b > a then b else a), h) else none | _, _ => none) := _root_.id rfl
@[simp] theorem op_iaddr (sz : Nat) (x i : Opd) : evalOp O c (.iaddr sz x i) fr h = iaA h sz (get fr x) (get fr i) := _root_.id rfl
@[simp] theorem op_ste (n : Nat) (a x : Opd) : evalOp O c (.ste n a x) fr h = steA h n (get fr a) (get fr x) := _root_.id rfl
@[simp] theorem op_stb (n : Nat) (a x : Opd) : evalOp O c (.stb n a x) fr h = stbA h n (get fr a) (get fr x) := _root_.id rfl
@[simp] theorem op_mkv (z : AV) (bytes : Nat) (l q : Opd) : evalOp O c (.mkv z bytes l q) fr h = mkvA h z bytes (get fr l) (get fr q) := _root_.id rfl
@[simp] theorem op_mkb (z : AV) (bytes : Nat) (l q : Opd) : evalOp O c (.mkb z bytes l q) fr h = mkbA h z bytes (get fr l) (get fr q) := _root_.id rfl
@[simp] theorem op_clr (z : AV) (x : Opd) : evalOp O c (.clr z x) fr h = clrA h z (get fr x) := _root_.id rfl
@[simp] theorem op_len (x : Opd) : evalOp O c (.len false x) fr h = lenA h (get fr x) := _root_.id rfl
def kraw (b : Bool) (x y : Unit → Option (AV × AH)) : Option (AV × AH) := if b then x () else y ()
@[simp] theorem kraw_t (x y : Unit → Option (AV × AH)) : kraw true x y = x () := _root_.id rfl
@[simp] theorem kraw_f (x y : Unit → Option (AV × AH)) : kraw false x y = y () := _root_.id rfl
@[simp] theorem op_calls {C : Cfg} (f : FuncId) (xs : List Opd) : evalOp (lim C) c (.call f xs) fr h = kraw (c.raw f) (fun _ => kpB (c.noB f) h (rc C f (xs.map (get fr)) h)) (fun _ => kcl (frzAll h true (xs.map (get fr))) (fun ys => pc C f ys) ((xs.map (get fr)).all (tame h)) h) := by
  cases hr : c.raw f with
  | false => exact op_call hr xs fr h
  | true => exact op_callr hr xs fr h
@[simp] theorem op_mlookp (ok : Bool) (z : AV) (x k : Opd) : evalOp O c (.mlookp ok z x k) fr h = mlookP ok z h (get fr x) (get fr k) := _root_.id rfl
@[simp] theorem op_mupp (x k v : Opd) : evalOp O c (.mupp x k v) fr h = mupP h (get fr x) (get fr k) (get fr v) := _root_.id rfl
@[simp] theorem op_apps (bytes : Nat) (s x : Opd) : evalOp O c (.apps bytes s x) fr h = appsA c h bytes (get fr s) (get fr x) := _root_.id rfl
@[simp] theorem op_allocAt (r : Nat) (z : AV) : evalOp O c (.allocAt r z) fr h = allocAtA h r z := _root_.id rfl
@[simp] theorem op_mlen (x : Opd) : evalOp O c (.mlen x) fr h = (match mapEnts h (get fr x) with | some (ks, _) => some (.int .i64 ks.length, h) | none => none) := _root_.id rfl
@[simp] theorem op_min (x y : Opd) : evalOp O c (.min x y) fr h = (match get fr x, get fr y with | .int k a, .int k' b => if k = k' then some (.int k (if b < a then b else a), h) else none | _, _ => none) := _root_.id rfl
@[simp] theorem op_mkmap : evalOp O c .mkmap fr h = some (.mp h.boxes.length, { h with boxes := h.boxes ++ [[.mbox [] []]] }) := _root_.id rfl
@[simp] theorem op_mlook (str ok : Bool) (z : AV) (x k : Opd) : evalOp O c (.mlook str ok z x k) fr h = mlookA str ok z h (get fr x) (get fr k) := _root_.id rfl
@[simp] theorem op_mup (str : Bool) (x k v : Opd) : evalOp O c (.mup str x k v) fr h = mupA str h (get fr x) (get fr k) (get fr v) := _root_.id rfl
@[simp] theorem op_slc (sz : Nat) (x : Opd) (lo hi mx : Option Opd) : evalOp O c (.slc sz x lo hi mx) fr h = slcA h sz (get fr x) (boundA fr lo) (boundA fr hi) (boundA fr mx) := _root_.id rfl
@[simp] theorem op_app (sz bytes : Nat) (s x : Opd) : evalOp O c (.app sz bytes s x) fr h = appendA c h sz bytes (get fr s) (get fr x) := _root_.id rfl
@[simp] theorem op_ld (agg : Bool) (n : Nat) (x : Opd) : evalOp O c (.ld agg n x) fr h = (loadA h agg n (get fr x)).map fun v => (v, h) := by
  simp only [evalOp]
  cases loadA h agg n (get fr x) <;> rfl
@[simp] theorem layS_false (h : AH) (x : AV) : layS false h x = h := _root_.id rfl
@[simp] theorem op_st (n : Nat) (a x : Opd) : evalOp O c (.st n a x) fr h = (storeA h n (get fr x) (get fr a)).map fun h' => (undefA, layS c.lay h' (get fr x)) := by
  simp only [evalOp]
  cases storeA h n (get fr x) (get fr a) <;> rfl
end
def nth (xs : List AV) (i : Nat) : Option AV := xs[i]?
@[simp] theorem nth_zero (x : AV) (xs : List AV) : nth (x :: xs) 0 = some x := _root_.id rfl
@[simp] theorem nth_succ (x : AV) (xs : List AV) (i : Nat) : nth (x :: xs) (i + 1) = nth xs i := _root_.id rfl
theorem nth_map {α : Type} {f : α → AV} {l : List α} {i : Nat} {x : α} (h : l[i]? = some x) : nth (l.map f) i = some (f x) := by simp [nth, h]
@[simp] theorem iaA_sl (h : AH) (m : Bool × Bool) (sz : Nat) (xs : List AV) (k : IntKind) (j : Int) : iaA h sz (sl m sz xs) (.int k j) = if 0 ≤ j then (nth xs j.toNat).map (fun e => (.pv e.cells, h)) else none := by
  unfold iaA sl nth
  simp only
  by_cases hj : 0 ≤ j
  · rw [if_pos hj]
    cases hx : xs[j.toNat]? with
    | none => simp
    | some e =>
      cases xs with
      | nil => simp at hx
      | cons y ys => simp [hj]
  · rw [if_neg hj, if_neg (by omega)]
@[simp] theorem lenA_sl (h : AH) (m : Bool × Bool) (sz : Nat) (xs : List AV) : lenA h (sl m sz xs) = some (.int .i64 xs.length, h) := _root_.id rfl
@[simp] theorem lenA_box (h : AH) (b s off len : Nat) : lenA h (.bsl b s off len) = some (.int .i64 len, h) := _root_.id rfl
@[simp] theorem iaA_box (h : AH) (sz b s off len : Nat) (kd : IntKind) (j : Int) : iaA h sz (.bsl b s off len) (.int kd j) = if 0 ≤ j ∧ j < len ∧ s = sz then some (.ptr b (off + j.toNat * sz), h) else none := _root_.id rfl
@[simp] theorem lenA_view (h : AH) (k n off len : Nat) : lenA h (.sl k n off len) = some (.int .i64 len, h) := _root_.id rfl
@[simp] theorem frz_view (h : AH) (am : Bool) (k n off len : Nat) : frz h am (.sl k n off len) = frz1 h am (.sl k n off len) := _root_.id rfl
@[simp] theorem loadA_pv (h : AH) (agg : Bool) (n : Nat) (cs : List AV) : loadA h agg n (.pv cs) = ofCells agg n cs := _root_.id rfl
@[simp] theorem isMB_nil : isMB [] = false := _root_.id rfl
@[simp] theorem isMB_two (x y : AV) (l : List AV) : isMB (x :: y :: l) = false := by cases x <;> rfl
@[simp] theorem isMB_int (k : IntKind) (n : Int) : isMB [.int k n] = false := _root_.id rfl
@[simp] theorem isMB_bool (b : Bool) : isMB [.bool b] = false := _root_.id rfl
@[simp] theorem isMB_str (b : ByteArray) : isMB [.str b] = false := _root_.id rfl
@[simp] theorem isMB_vs (f : Bool) (sz : Nat) (xs : List AV) : isMB [.vs f sz xs] = false := _root_.id rfl
@[simp] theorem isMB_sl (m : Bool × Bool) (sz : Nat) (xs : List AV) : isMB [sl m sz xs] = false := _root_.id rfl
@[simp] theorem isMB_view (k n off len : Nat) : isMB [.sl k n off len] = false := _root_.id rfl
@[simp] theorem isMB_ptr (b off : Nat) : isMB [.ptr b off] = false := _root_.id rfl
@[simp] theorem isMB_agg (cs : List AV) : isMB [.agg cs] = false := _root_.id rfl
@[simp] theorem isMB_mp (b : Nat) : isMB [.mp b] = false := _root_.id rfl
@[simp] theorem isMB_vm (ks vs : List AV) : isMB [.vm ks vs] = false := _root_.id rfl
@[simp] theorem isMB_fn (f : FuncId) (cs : List AV) : isMB [.fn f cs] = false := _root_.id rfl
@[simp] theorem isMB_rbox (cs : List AV) : isMB [.rbox cs] = true := _root_.id rfl
@[simp] theorem rdRo_r (agg : Bool) (n off : Nat) (ys : List AV) : rdRo agg n off [.rbox ys] = ofCells agg n (ys.drop off) := _root_.id rfl
@[simp] theorem loadA_ptr (h : AH) (agg : Bool) (n b off : Nat) : loadA h agg n (.ptr b off) = (h.boxes[b]?).bind fun cs => if isMB cs then rdRo agg n off cs else ofCells agg n (cs.drop off) := by
  simp only [loadA]
  cases h.boxes[b]? <;> rfl
@[simp] theorem storeA_ptr (h : AH) (n : Nat) (v : AV) (b off : Nat) : storeA h n v (.ptr b off) = (h.boxes[b]?).bind fun cs => if isMB cs = false ∧ v.isTup = false ∧ v.cells.length = n ∧ off + n ≤ cs.length then some { h with boxes := h.boxes.set b (splice cs off v.cells) } else stT h b n off v cs := by
  simp only [storeA]
  cases h.boxes[b]? <;> rfl
@[simp] theorem layH_def (h : AH) (v : AV) : layH h v = match frz h false v with | some _ => some h | none => rstF h v := _root_.id rfl
@[simp] theorem rstF_sl (h : AH) (k n off len : Nat) : rstF h (.sl k n off len) = (h.fams[k]?).map fun f => { h with fams := h.fams.set k { f with wr := false } } := by
  simp only [rstF]
  cases h.fams[k]? <;> rfl
@[simp] theorem storeA_ep (h : AH) (n : Nat) (v : AV) (k m i q sz : Nat) : storeA h n v (.ep k m i q sz) = (layH h v).bind fun h => (h.fams[k]?).bind fun f =>
    if f.xs.length = m ∧ f.sz = sz ∧ f.wr = true then
      (f.xs[i]?).bind fun x => (frz h false v).bind fun u => if u.cells.length = n ∧ q + n ≤ x.cells.length then
        (x.reform (splice x.cells q u.cells)).map fun y => { h with fams := h.fams.set k { f with xs := f.xs.set i y } } else none
    else none := by
  simp only [storeA]
  cases layH h v with
  | none => rfl
  | some h =>
    simp only [Option.bind_some, storeE]
    cases h.fams[k]? with
    | none => rfl
    | some f =>
      simp only [Option.bind_some]
      split
      · cases f.xs[i]? with
        | none => rfl
        | some x => cases frz h false v <;> rfl
      · rfl
@[simp] theorem loadA_ep (h : AH) (agg : Bool) (n k m i q sz : Nat) : loadA h agg n (.ep k m i q sz) = (h.fams[k]?).bind fun f => if f.xs.length = m ∧ f.sz = sz then (f.xs[i]?).bind fun x => ofCells agg n (x.cells.drop q) else none := by
  simp only [loadA]
  cases h.fams[k]? with
  | none => rfl
  | some f =>
    simp only [Option.bind_some]
    split
    · cases f.xs[i]? <;> rfl
    · rfl
@[simp] theorem iaA_view (h : AH) (sz k n off len : Nat) (kd : IntKind) (j : Int) : iaA h sz (.sl k n off len) (.int kd j) = if 0 ≤ j ∧ j < len then some (.ep k n (off + j.toNat) 0 sz, h) else none := _root_.id rfl
@[simp] theorem splice_def (cs : List AV) (off : Nat) (new : List AV) : splice cs off new = cs.take off ++ new ++ cs.drop (off + new.length) := _root_.id rfl
@[simp] theorem bin_lss (k : IntKind) (a b : Int) : evalBin .lss (.int k a) (.int k b) = some (.bool (decide (a < b))) := by simp [evalBin]
@[simp] theorem bin_leq (k : IntKind) (a b : Int) : evalBin .leq (.int k a) (.int k b) = some (.bool (decide (a ≤ b))) := by simp [evalBin]
@[simp] theorem bin_gtr (k : IntKind) (a b : Int) : evalBin .gtr (.int k a) (.int k b) = some (.bool (decide (b < a))) := by simp [evalBin]
@[simp] theorem bin_geq (k : IntKind) (a b : Int) : evalBin .geq (.int k a) (.int k b) = some (.bool (decide (b ≤ a))) := by simp [evalBin]
@[simp] theorem bin_eql (k : IntKind) (a b : Int) : evalBin .eql (.int k a) (.int k b) = some (.bool (decide (a = b))) := by simp only [evalBin, if_true]; rfl
@[simp] theorem bin_neq (k : IntKind) (a b : Int) : evalBin .neq (.int k a) (.int k b) = some (.bool (!decide (a = b))) := by simp only [evalBin, if_true]; rfl
@[simp] theorem bin_add (k : IntKind) (a b : Int) : evalBin .add (.int k a) (.int k b) = some (.int k (k.wrap (a + b))) := by simp [evalBin]
theorem beq_dec (a b : List UInt8) : (a == b) = decide (a = b) := by
  by_cases h : a = b <;> simp [h]
@[simp] theorem bin_slss (a b : ByteArray) : evalBin .lss (.str a) (.str b) = some (.bool (Op.bytesLess a.toList b.toList)) := _root_.id rfl
@[simp] theorem bin_sgtr (a b : ByteArray) : evalBin .gtr (.str a) (.str b) = some (.bool !(Op.bytesLess a.toList b.toList || decide (a.toList = b.toList))) := by simp only [evalBin]; rw [beq_dec]
@[simp] theorem bin_seql (a b : ByteArray) : evalBin .eql (.str a) (.str b) = some (.bool (decide (a.toList = b.toList))) := by simp only [evalBin]; rw [beq_dec]
@[simp] theorem resA_nil (fr : Fr) (h : AH) : resA fr h [] = some [] := _root_.id rfl
@[simp] theorem resA_tmp (fr : Fr) (h : AH) (t : Nat) (rs : List RRes) : resA fr h (.tmp t :: rs) = (resA fr h rs).map (look fr t :: ·) := _root_.id rfl
@[simp] theorem resA_cell (fr : Fr) (h : AH) (a n : Nat) (agg : Bool) (rs : List RRes) : resA fr h (.cell a agg n :: rs) = (loadA h agg n (look fr a)).bind fun v => (resA fr h rs).map (v :: ·) := _root_.id rfl
@[simp] theorem un_not (b : Bool) : evalUn .not (.bool b) = some (.bool !b) := _root_.id rfl
theorem wrap_id {n : Int} (h0 : -9223372036854775808 ≤ n) (h1 : n ≤ 9223372036854775807) : IntKind.i64.wrap n = n := by
  simp only [IntKind.wrap, IntKind.bits, IntKind.signed]
  simp only [Bool.true_and, decide_eq_true_eq, ge_iff_le]
  split <;> omega
@[simp] theorem frz_nil (h : AH) (am : Bool) : frz h am (.vs true 0 []) = some (sl (true, false) 1 []) := _root_.id rfl
@[simp] theorem frz1_nil (h : AH) (am : Bool) : frz1 h am (.vs true 0 []) = some (sl (true, false) 1 []) := _root_.id rfl
theorem sl_nil_any (m : Bool × Bool) (hm : m.2 = false) (a b : Nat) : sl m a [] = sl m b [] := by simp [sl, hm]
def appPre (h : AH) (sz k n off len : Nat) (f : Fam) (ys : List AV) : Option (AV × AH) :=
  if f.xs.length = n ∧ f.sz = sz ∧ f.wr = true ∧ off + len + ys.length ≤ n then some (.sl k n off (len + ys.length), { h with fams := h.fams.set k { f with xs := f.xs.take (off + len) ++ ys ++ f.xs.drop (off + len + ys.length) } }) else none
@[simp] theorem app_view (c : Ctx) (h : AH) (sz bytes k n off len : Nat) (x : AV) : appendA c h sz bytes (.sl k n off len) x = (elems h sz x).bind fun ys => (h.fams[k]?).bind fun f =>
    if f.xs.length = n ∧ f.sz = sz ∧ off + len = n ∧ (n + ys.length) * bytes ≤ roomA ∧ n + ys.length ≤ maxLen then some (.sl k (n + ys.length) off (len + ys.length), { h with fams := h.fams.set k { f with xs := f.xs ++ ys } }) else appPre h sz k n off len f ys := by
  simp only [appendA, appendY]
  cases elems h sz x with
  | none => rfl
  | some ys => cases h.fams[k]? <;> rfl
theorem app_sl (c : Ctx) (h : AH) (sz bytes : Nat) (b : Bool) (xs : List AV) (x : AV) : appendA c h sz bytes (sl (true, b) sz xs) x = (elems h sz x).bind fun ys =>
    if ys.length = 0 then some (sl (true, b) sz xs, h) else if (xs.length + ys.length) * bytes ≤ roomA ∧ xs.length + ys.length ≤ maxLen then some (.sl h.fams.length (xs.length + ys.length) 0 (xs.length + ys.length), { h with fams := h.fams ++ [⟨xs ++ ys, sz, c.mutApp⟩] }) else none := by
  simp only [appendA, appendY, sl]
  cases elems h sz x with
  | none => rfl
  | some ys =>
    simp only [Option.bind_some]
    cases xs <;> simp
inductive Tm where
  | mk (kind : Int) (name : ByteArray) (sort : Int) (m : Bool × Bool) (kids : List Tm)
mutual
def tmV : Tm → AV
  | .mk k n s m l => .agg [.int .i64 k, .str n, .int .i64 s, sl m 4 (tmVs l)]
def tmVs : List Tm → List AV
  | [] => []
  | t :: l => tmV t :: tmVs l
end
theorem tmVs_map (l : List Tm) : tmVs l = l.map tmV := by
  induction l with
  | nil => rfl
  | cons t l ih => simp [tmVs, ih]
theorem nth_tmVs {l : List Tm} {i : Nat} {t : Tm} (h : l[i]? = some t) : nth (tmVs l) i = some (tmV t) := by rw [tmVs_map]; exact nth_map h
@[simp] theorem tmVs_length (l : List Tm) : (tmVs l).length = l.length := by simp [tmVs_map]
mutual
def Tm.size : Tm → Nat
  | .mk _ _ _ _ l => 1 + Tm.sizes l
def Tm.sizes : List Tm → Nat
  | [] => 0
  | t :: l => t.size + Tm.sizes l
end
theorem Tm.size_pos (t : Tm) : 0 < t.size := by cases t; simp [Tm.size]; omega
theorem Tm.sizes_append (l r : List Tm) : Tm.sizes (l ++ r) = Tm.sizes l + Tm.sizes r := by
  induction l with
  | nil => simp [Tm.sizes]
  | cons t l ih => simp [Tm.sizes, ih]; omega
theorem Tm.size_le {t : Tm} {l : List Tm} (h : t ∈ l) : t.size ≤ Tm.sizes l := by
  induction l with
  | nil => cases h
  | cons x l ih =>
    simp only [Tm.sizes]
    rcases List.mem_cons.1 h with rfl | h
    · omega
    · have := ih h; omega
theorem Tm.length_le (l : List Tm) : l.length ≤ Tm.sizes l := by
  induction l with
  | nil => simp
  | cons x l ih => have := x.size_pos; simp only [Tm.sizes, List.length_cons]; omega
end Go.Abs
namespace Go.Abs
open Go.RowKit (Below)
open Go.ChangeShapes Go.WideShapes Go.Deep
open Go.Proofs.YthcbgdmeacaglaaGreatDoor (Rows.uptoBulk Rows.uptoBulkAll)
abbrev okW (w : World) : Nat → Nat → Prop := fun b _ => b < w.heap.size
def CV (w : World) (ys : List AV) (cs : List Value) : Prop := PVs w (okW w) ys cs ∧ ∀ u ∈ cs, u.oneCell' = true
def Opens (P : Program) (w : World) (t : TypeId) {T : Type} (cells : T → List AV) (good : T → Prop) (wt : T → Nat) (n : Nat) : Prop :=
  ∀ {H : Type} (enc : TypeId × Value → H) (cs : List Value) (x : DataW H × List MemPlace), DataW.trod enc P w 0 (fun _ => true) true n t cs = some x →
    ∃ a, good a ∧ wt a ≤ Rows.uptoBulk x.1 ∧ CV w (cells a) cs
section
variable {P : Program} {w : World} {t e : TypeId}
theorem Opens.le {T : Type} {cells : T → List AV} {good : T → Prop} {wt : T → Nat} {n m : Nat} (h : Opens P w t cells good wt n) (hm : m ≤ n) : Opens P w t cells good wt m :=
  fun enc cs x hx => h enc cs x (DataW.trod_le hm hx)
theorem CV_one {a : AV} {v : Value} (h : PV w (okW w) a v) (ho : v.oneCell' = true) : CV w [a] [v] := by
  refine ⟨?_, fun u hu => by simp at hu; subst hu; exact ho⟩
  simp only [PVs]
  exact ⟨v, [], rfl, h, rfl⟩
theorem opens_str (ht : P.underlying t = some .string) (n : Nat) : Opens P w t (fun s : ByteArray => [.str s]) (fun s => s.size ≤ maxLen) (fun s => s.size + 1) n := by
  intro H enc cs x hx
  obtain ⟨s, rfl, rfl, hw⟩ := DataW.trod_string ht hx
  exact ⟨s, hw, Nat.le_of_eq (by simp only [Rows.uptoBulk, Array.length_toList]; rfl), CV_one (by simp [PV]) rfl⟩
theorem list_of {T : Type} {R : Nat → T → Prop} : ∀ {n : Nat}, (∀ i, i < n → ∃ a, R i a) → ∃ ys : List T, ys.length = n ∧ ∀ i a, ys[i]? = some a → R i a
  | 0, _ => ⟨[], rfl, fun i a h => by simp at h⟩
  | n + 1, h => by
    obtain ⟨ys, hl, ha⟩ := list_of (n := n) fun i hi => h i (by omega)
    obtain ⟨a, hr⟩ := h n (by omega)
    refine ⟨ys ++ [a], by simp [hl], fun i b hb => ?_⟩
    by_cases hi : i < n
    · rw [List.getElem?_append_left (by omega)] at hb
      exact ha i b hb
    · rw [List.getElem?_append_right (by omega), hl] at hb
      have hin : i = n := by
        have := (List.getElem?_eq_some_iff.1 hb).1
        simp at this
        omega
      subst hin
      simp at hb
      subst hb
      exact hr
theorem sum_bulk {H T : Type} {wt : T → Nat} : ∀ {ys : List T} {l : List (DataW H)}, ys.length = l.length → (∀ (i : Nat) (a : T) (d : DataW H), ys[i]? = some a → l[i]? = some d → wt a ≤ Rows.uptoBulk d) → (ys.map wt).sum ≤ Rows.uptoBulkAll l
  | [], l, _, _ => by simp
  | a :: ys, [], h, _ => by simp at h
  | a :: ys, d :: l, h, k => by
    have h1 := k 0 a d rfl rfl
    have h2 := sum_bulk (ys := ys) (l := l) (by simpa using h) fun i a d ha hd => k (i + 1) a d (by simpa using ha) (by simpa using hd)
    simp only [List.map_cons, List.sum_cons, Rows.uptoBulkAll]
    omega
theorem PV_sl {sz : Nat} {xs : List AV} {a : Addr} {len cap : Nat} (hlen : xs.length = len) (hc : len ≤ cap) (hm : cap ≤ maxLen) (hsz : 0 < sz)
    (hx : ∀ (i : Nat) (x : AV), xs[i]? = some x → ∃ cs', w.cells? 0 (a.add (i * sz)) sz = some cs' ∧ CV w x.cells cs') : PV w (okW w) (.vs false sz xs) (.slice (some a) len cap) := by
  simp only [PV]
  refine ⟨some a, len, cap, rfl, hlen.symm, hc, hm, (by simp), ⟨(by simp), ⟨(by simp), fun e => absurd hsz (by omega)⟩⟩, fun hne => ?_⟩
  have spot : a.spot = none := by
    cases xs with
    | nil => exact absurd rfl hne
    | cons x xs =>
      obtain ⟨cs', h1, h2, _⟩ := hx 0 x rfl
      obtain ⟨_, hl, hcell⟩ := World.cells?_some h1
      have h0 := hcell 0 hsz
      rw [List.getElem?_eq_getElem (by omega)] at h0
      simpa [Addr.add] using World.cell?_spot h0
  obtain ⟨b, o, sp⟩ := a
  subst spot
  refine ⟨b, o, rfl, hsz, PEls_of fun j x hj => ?_⟩
  obtain ⟨cs', h1, h2, h3⟩ := hx j x hj
  obtain ⟨_, hl, hcell⟩ := World.cells?_some h1
  obtain ⟨g1, g2⟩ := PVs_get h2
  refine ⟨by omega, PCells_of fun q c hq => ?_⟩
  obtain ⟨u, hu, hv⟩ := g2 hq
  have hqlt : q < sz := by
    have := (List.getElem?_eq_some_iff.1 hq).1
    omega
  have hcl := hcell q hqlt
  rw [hu, Go.WideShapes.add_plain, Go.WideShapes.add_plain] at hcl
  exact ⟨u, World.block_lt_of_cell? _ _ hcl, hcl, h3 u (List.mem_of_getElem? hu), hv⟩
theorem opens_slice {T : Type} {sz : Nat} {enc : T → AV} {good : T → Prop} {wt : T → Nat} {n : Nat} (ht : P.underlying t = some (.slice e)) (hsz : P.cellsOf e = sz) (hpos : 0 < sz)
    (elem : Opens P w e (fun a => (enc a).cells) good wt n) :
    Opens P w t (fun ys : Bool × List T => [sl (false, ys.1) sz (ys.2.map enc)]) (fun ys => ∀ a ∈ ys.2, good a) (fun ys => (ys.2.map wt).sum + 1) (n + 1) := by
  intro H ec cs x hx
  rcases DataW.trod_slice ht hx with ⟨rfl, rfl⟩ | ⟨a, len, cap, elems, rest, n', hn, rfl, rfl, hb, hl, hm, hlen, hel, hsp, hns⟩
  · exact ⟨(false, []), fun a ha => by simp at ha, by simp [Rows.uptoBulk], CV_one (by simp only [sl, PV]; exact ⟨none, 0, 0, rfl, by simp, Nat.le_refl _, Nat.zero_le _, by simp, by simp, fun h => absurd rfl h⟩) rfl⟩
  · have hnn : n' = n := by omega
    subst hnn
    obtain ⟨ys, hys, hr⟩ := list_of (T := T) (n := len) (R := fun i a' => good a' ∧ (∀ y, elems[i]? = some y → wt a' ≤ Rows.uptoBulk y.1) ∧ ∃ cs', w.cells? 0 (a.add (i * sz)) sz = some cs' ∧ CV w (enc a').cells cs') fun i hi => by
      have h1 := hel i hi
      rw [List.getElem?_eq_getElem (by omega), hsz] at h1
      obtain ⟨cs', h2, h3⟩ := Option.bind_eq_some_iff.1 h1
      obtain ⟨a', k1, k2, k3⟩ := elem ec cs' _ h3
      exact ⟨a', k1, fun y hy => by rw [List.getElem?_eq_getElem (by omega)] at hy; cases hy; exact k2, cs', h2, k3⟩
    refine ⟨(true, ys), fun a' ha' => ?_, ?_, CV_one ((congrArg (fun q => PV w (okW w) q (.slice (some a) len cap)) (sl_def false sz (ys.map enc))).mp (PV_sl (by simp [hys]) hl hm hpos fun i x hx => ?_)) rfl⟩
    · obtain ⟨i, hi⟩ := List.mem_iff_getElem?.1 ha'
      exact (hr i a' hi).1
    · have := sum_bulk (wt := wt) (ys := ys) (l := elems.map (·.1)) (by simp [hys, hlen]) fun i a' d ha' hd => by
        simp only [List.getElem?_map, Option.map_eq_some_iff] at hd
        obtain ⟨y, hy, rfl⟩ := hd
        exact (hr i a' ha').2.1 y hy
      simp only [Rows.uptoBulk]
      omega
    · simp only [List.getElem?_map, Option.map_eq_some_iff] at hx
      obtain ⟨a', ha', rfl⟩ := hx
      exact (hr i a' ha').2.2
theorem CV_cons {ys : List AV} {cs : List Value} {y : AV} {c : Value} (h : CV w [y] [c]) (k : CV w ys cs) : CV w (y :: ys) (c :: cs) := by
  obtain ⟨h1, h2⟩ := h
  refine ⟨?_, fun u hu => ?_⟩
  · simp only [PVs] at h1 ⊢
    obtain ⟨u, us, he, h3, rfl⟩ := h1
    cases he
    exact ⟨c, cs, rfl, h3, k.1⟩
  · rcases List.mem_cons.1 hu with rfl | hu
    · exact h2 u (by simp)
    · exact k.2 u hu
end
section
variable {P : Program}
theorem trodAll_stays {H : Type} {enc : TypeId × Value → H} {W W' : World} (hl : laidOutB P = true) (hb : Below W.heap.size W W') : ∀ {ts : List TypeId} {vs : List Value} {ds : List (DataW H)} {ps : List MemPlace}, (∀ t ∈ ts, P.readableRec t = true ∧ t < P.types.size) →
    DataW.TrodAll enc P W 0 (fun _ => true) true ts vs ds ps → (∀ p ∈ ps, p.block < W.heap.size) → ∀ {sp : Nat → Bool}, (∀ p ∈ ps, sp p.block = true) → DataW.TrodAll enc P W' 0 sp true ts vs ds ps
  | [], [], [], _, _, h, _, _, _ => h
  | t :: ts, v :: vs, d :: ds, ps, hr, h, hlt, sp, hs => by
    obtain ⟨p, q, h1, h2, rfl⟩ := h
    refine ⟨p, q, WideElems.Trod_stays hl (hr t (by simp)).1 (hr t (by simp)).2 h1 (fun x hx => hb.same (hlt x (by simp [hx]))) (fun x hx => hs x (by simp [hx])), ?_, rfl⟩
    exact trodAll_stays hl hb (fun t ht => hr t (by simp [ht])) h2 (fun x hx => hlt x (by simp [hx])) (fun x hx => hs x (by simp [hx]))
theorem post_frozen {H : Type} {enc : TypeId × Value → H} {f : Func} {s : ChangeSpec} {W W' : World} {args : Array Value} {v : Value} {ds gs : List (DataW H)} {before pa : List MemPlace}
    (hW : DataW.Whole enc P f.params.toList s.vars false W args.toList ds gs before) (hps : before = pa)
    (hres : ∀ (b : Nat) (sp : Nat → Bool) (hd : Bool), DataW.TrodAll enc P W' b sp hd f.resultTypes.toList (v.resultList f.resultTypes.size) (s.fn H (ds ++ gs)).results [])
    (hargs : ∀ sp : Nat → Bool, (∀ p ∈ before, sp p.block = true) → DataW.TrodAll enc P W' 0 sp true f.params.toList args.toList (s.fn H (ds ++ gs)).args pa)
    (hv : s.vars = []) (hgs : (s.fn H (ds ++ gs)).vars = []) (hk : W.keptBut W' (· ∈ before)) (hfz : ∀ a : Addr, a.block < W.heap.size → W'.frozen? a = W.frozen? a)
    (hok : ∀ (j : Nat) (t : TypeId) (r : Value), f.resultTypes[j]? = some t → (v.resultList f.resultTypes.size)[j]? = some r → Value.okWide P W' .any 0 t r) :
    s.post enc P f false true false false W args v W' := by
  subst hps
  have hold : ∀ p ∈ before, (fun b => decide (b < W.heap.size)) p.block = true := fun p hp => by simpa using hW.lt p hp
  have hvars : ∀ sp : Nat → Bool, DataW.TrodVars enc P W' sp s.vars (s.fn H (ds ++ gs)).vars [] := fun sp => by rw [hv, hgs]; rfl
  refine ⟨ds, gs, before, [], before, [], hW, hres _ _ _, hargs _ hold, hvars _, World.keptBut_mono (fun p hp => ⟨hp, ?_⟩) hk, fun _ => ?_⟩
  · exact Or.inr (Or.inl hp)
  · have hlt := hW.lt
    obtain ⟨_, _, _, _, _, hz, hn⟩ := hW
    refine ⟨hok, _, _, ([] ++ before) ++ [], ⟨[] ++ before, [], trodAll_append (hargs _ (fun _ _ => rfl)) (hres _ _ _), hvars _, rfl, ?_, ?_⟩, ?_⟩
    · intro b off hp
      have hp' : MemPlace.cell b off ∈ before := by simpa using hp
      rw [hfz _ (hlt _ hp')]
      exact hz b off hp'
    · intro ha
      cases ha
    · intro p hp _
      simpa using hp
theorem true_post {C : Cfg} (hC : CfgS P C) (hl : laidOutB P = true) {f : FuncId} {fn : Func} {tb : TypeId} (hb : P.underlying tb = some .bool) (hres : fn.resultTypes = #[tb]) (hpar : ∀ t ∈ fn.params.toList, P.readableRec t = true ∧ t < P.types.size)
    {s : ChangeSpec} (hv : s.vars = []) {H : Type} {enc : TypeId × Value → H} {W : World} {args : Array Value} {ds gs : List (DataW H)} {before : List MemPlace}
    (hs : (s.fn H (ds ++ gs)).results = [.lit (.bool true)] ∧ (s.fn H (ds ++ gs)).args = ds ∧ (s.fn H (ds ++ gs)).vars = [])
    (hW : DataW.Whole enc P fn.params.toList s.vars false W args.toList ds gs before) {ys : List AV} (hG : GlobP W (okW W)) (hy : PVs W (okW W) ys args.toList) (h : pc C f ys = some (.bool true)) :
    Calls P f args W fun e W' => ∃ v, e = .returned v ∧ s.post enc P fn false true false false W args v W' := by
  have hlt := hW.lt
  have hW' := hW
  obtain ⟨p, q, hA, hV, hpq, hfz, hnd⟩ := hW
  rw [hv] at hV
  obtain ⟨rfl, rfl⟩ := trodVars_none hV
  rw [List.append_nil] at hpq
  subst hpq
  refine (pc_sound hC h W (okW W) args (fun b o hb => hb) hG hy).mono fun e W' ⟨u, he, ⟨hbel, _⟩, hu⟩ => ?_
  have hu' : u = .bool true := by simpa [PV] using hu
  subst hu' he
  refine ⟨_, rfl, post_frozen hW' rfl (fun b sp hd => ?_) (fun sp hsp => ?_) hv hs.2.2 (hbel.frame _) (fun a ha => hbel.frozen ha) (RowKit.ok_one hres rfl (RowKit.okWide_bool_mk hb _))⟩
  · rw [hs.1, hres]
    exact trodAll_mk1 (RowKit.shut_bool hb _)
  · rw [hs.2.1]
    exact trodAll_stays hl hbel hpar hA hlt hsp
end
end Go.Abs
