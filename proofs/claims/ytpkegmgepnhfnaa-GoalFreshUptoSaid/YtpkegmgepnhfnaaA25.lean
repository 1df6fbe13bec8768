/- Laws by which simp carries out single operations; terms and lists as abstract values. -/
import Derived.Test.YtpkegmgepnhfnaaA24
namespace Go.Abs

/-- A slice; m: has it no spare capacity? is it typed, though it be empty? -/
def sl (m : Bool × Bool) (sz : Nat) (xs : List AV) : AV := .vs m.1 (if xs.isEmpty && !m.2 then 0 else sz) xs

theorem sl_def (f : Bool) (sz : Nat) (xs : List AV) : .vs f sz xs = sl (f, true) sz xs := by simp [sl]
theorem sl_nil (sz : Nat) : .vs true 0 [] = sl (true, false) sz [] := by simp [sl]

@[simp] theorem sl_isTup (m : Bool × Bool) (sz : Nat) (xs : List AV) : (sl m sz xs).isTup = false := _root_.id rfl
@[simp] theorem sl_cells (m : Bool × Bool) (sz : Nat) (xs : List AV) : (sl m sz xs).cells = [sl m sz xs] := _root_.id rfl
@[simp] theorem sl_frz1 (h : AH) (am : Bool) (m : Bool × Bool) (sz : Nat) (xs : List AV) : frz1 h am (sl m sz xs) = some (sl m sz xs) := _root_.id rfl
@[simp] theorem sl_frz (h : AH) (am : Bool) (m : Bool × Bool) (sz : Nat) (xs : List AV) : frz h am (sl m sz xs) = some (sl m sz xs) := _root_.id rfl
@[simp] theorem sl_tame1 (h : AH) (m : Bool × Bool) (sz : Nat) (xs : List AV) : tame1 h (sl m sz xs) = true := _root_.id rfl
@[simp] theorem sl_tame (h : AH) (m : Bool × Bool) (sz : Nat) (xs : List AV) : tame h (sl m sz xs) = true := _root_.id rfl
@[simp] theorem sl_flat (m : Bool × Bool) (sz : Nat) (xs : List AV) : (sl m sz xs).flat = true := _root_.id rfl
@[simp] theorem sl_ofCells (m : Bool × Bool) (sz : Nat) (xs : List AV) (rest : List AV) : ofCells false 1 (sl m sz xs :: rest) = some (sl m sz xs) := _root_.id rfl
@[simp] theorem sl_elems (h : AH) (m : Bool × Bool) (sz : Nat) (xs : List AV) : elems h sz (sl m sz xs) = some xs := by
  cases xs with
  | nil => simp [elems, sl]
  | cons x xs => simp [elems, sl]
@[simp] theorem sl_scalar (m : Bool × Bool) (sz : Nat) (xs : List AV) : (sl m sz xs).scalar = false := _root_.id rfl

/-- A cell that stays what it is when it is laid to rest. -/
@[simp] theorem frz_int (h : AH) (am : Bool) (k : IntKind) (n : Int) : frz h am (.int k n) = some (.int k n) := _root_.id rfl
@[simp] theorem frz_bool (h : AH) (am : Bool) (b : Bool) : frz h am (.bool b) = some (.bool b) := _root_.id rfl
@[simp] theorem frz_str (h : AH) (am : Bool) (s : ByteArray) : frz h am (.str s) = some (.str s) := _root_.id rfl
@[simp] theorem frz_fn (h : AH) (am : Bool) (f : FuncId) : frz h am (.fn f []) = some (.fn f []) := _root_.id rfl
@[simp] theorem frz_nilp (h : AH) (am : Bool) : frz h am .nilp = some .nilp := _root_.id rfl
@[simp] theorem frzL_nil (h : AH) (am : Bool) : frzL h am [] = some [] := _root_.id rfl
@[simp] theorem frzL_cons (h : AH) (am : Bool) (x : AV) (xs : List AV) : frzL h am (x :: xs) = (frz1 h am x).bind fun y => (frzL h am xs).map (y :: ·) := _root_.id rfl
@[simp] theorem frz1_int (h : AH) (am : Bool) (k : IntKind) (n : Int) : frz1 h am (.int k n) = some (.int k n) := _root_.id rfl
@[simp] theorem frz1_bool (h : AH) (am : Bool) (b : Bool) : frz1 h am (.bool b) = some (.bool b) := _root_.id rfl
@[simp] theorem frz1_str (h : AH) (am : Bool) (s : ByteArray) : frz1 h am (.str s) = some (.str s) := _root_.id rfl
@[simp] theorem frz_agg (h : AH) (am : Bool) (cs : List AV) : frz h am (.agg cs) = (frzL h am cs).map .agg := _root_.id rfl
@[simp] theorem frzAll_nil (h : AH) (am : Bool) : frzAll h am [] = some [] := _root_.id rfl
@[simp] theorem frzAll_cons (h : AH) (am : Bool) (x : AV) (xs : List AV) : frzAll h am (x :: xs) = (frz h am x).bind fun y => (frzAll h am xs).map (y :: ·) := _root_.id rfl
@[simp] theorem frzRes_int (h : AH) (k : IntKind) (n : Int) : frzRes h (.int k n) = some (.int k n) := _root_.id rfl
@[simp] theorem frzRes_bool (h : AH) (b : Bool) : frzRes h (.bool b) = some (.bool b) := _root_.id rfl
@[simp] theorem frzRes_str (h : AH) (s : ByteArray) : frzRes h (.str s) = some (.str s) := _root_.id rfl
@[simp] theorem frzRes_sl (h : AH) (m : Bool × Bool) (sz : Nat) (xs : List AV) : frzRes h (sl m sz xs) = some (sl m sz xs) := _root_.id rfl
@[simp] theorem frzRes_agg (h : AH) (cs : List AV) : frzRes h (.agg cs) = (frzL h true cs).map .agg := _root_.id rfl
@[simp] theorem frzRes_tup (h : AH) (cs : List AV) : frzRes h (.tup cs) = (frzAll h true cs).map .tup := _root_.id rfl

@[simp] theorem kcl_some (ys : List AV) (k : List AV → Option AV) (tm : Bool) (h : AH) : kcl (some ys) k tm h = (match k ys with | some r => if r.scalar || tm then some (r, h) else none | none => none) := _root_.id rfl
@[simp] theorem scalar_int (k : IntKind) (n : Int) : (AV.int k n).scalar = true := _root_.id rfl
@[simp] theorem scalar_bool (b : Bool) : (AV.bool b).scalar = true := _root_.id rfl
@[simp] theorem scalar_str (s : ByteArray) : (AV.str s).scalar = true := _root_.id rfl
@[simp] theorem isTup_int (k : IntKind) (n : Int) : (AV.int k n).isTup = false := _root_.id rfl
@[simp] theorem isTup_bool (b : Bool) : (AV.bool b).isTup = false := _root_.id rfl
@[simp] theorem isTup_str (b : ByteArray) : (AV.str b).isTup = false := _root_.id rfl
@[simp] theorem isTup_agg (cs : List AV) : (AV.agg cs).isTup = false := _root_.id rfl
@[simp] theorem cells_agg (cs : List AV) : (AV.agg cs).cells = cs := _root_.id rfl
@[simp] theorem cells_int (k : IntKind) (n : Int) : (AV.int k n).cells = [.int k n] := _root_.id rfl
@[simp] theorem cells_bool (b : Bool) : (AV.bool b).cells = [.bool b] := _root_.id rfl
@[simp] theorem cells_str (b : ByteArray) : (AV.str b).cells = [.str b] := _root_.id rfl
@[simp] theorem ofCells_true (n : Nat) (cs : List AV) : ofCells true n cs = if n ≤ cs.length then some (.agg (cs.take n)) else none := _root_.id rfl
@[simp] theorem ofCells_false (n : Nat) (cs : List AV) : ofCells false n cs = cs.head? := _root_.id rfl

/-! ### Operations on slices -/
def iaA (h : AH) (sz : Nat) (x i : AV) : Option (AV × AH) :=
  match x, i with
  | .vs _ z xs, .int _ j => if 0 ≤ j ∧ z = sz then (match xs[j.toNat]? with | some e => some (.pv e.cells, h) | none => none) else none
  | .sl k n off len, .int _ j =>
    match h.fams[k]? with
    | some f => if 0 ≤ j ∧ j < len ∧ f.sz = sz ∧ f.xs.length = n then some (.ep k n (off + j.toNat) 0, h) else none
    | none => none
  | _, _ => none
def lenA (h : AH) (x : AV) : Option (AV × AH) :=
  match x with
  | .vs _ _ xs => some (.int .i64 xs.length, h)
  | .sl _ _ _ len => some (.int .i64 len, h)
  | _ => none
def slcA (h : AH) (sz : Nat) (x : AV) (l u m : Option (Option Int)) : Option (AV × AH) :=
  match l, u, m with
  | some l, some u, some m => match sliceA h sz x l u m with | some v => some (v, h) | none => none
  | _, _, _ => none
/-- Is a slice nil? -/
def nqA (neg : Bool) (h : AH) (x : AV) : Option (AV × AH) := match x with | .vs _ z _ => some (.bool (if neg then !(z == 0) else z == 0), h) | _ => none
theorem nqA_sl (neg : Bool) (h : AH) (m : Bool × Bool) (sz : Nat) (hsz : 0 < sz) (xs : List AV) : nqA neg h (sl m sz xs) = some (.bool (if neg then !(xs.isEmpty && !m.2) else (xs.isEmpty && !m.2)), h) := by
  unfold nqA sl
  by_cases hx : (xs.isEmpty && !m.2) = true
  · simp [hx]
  · have : (sz == 0) = false := by simp; omega
    simp [hx, this]

section
variable {O : Orc} {c : Ctx} (fr : Fr) (h : AH)
@[simp] theorem op_mov (x : Opd) : evalOp O c (.mov x) fr h = some (get fr x, h) := _root_.id rfl
@[simp] theorem op_pick (q a b : Opd) : evalOp O c (.pick q a b) fr h = (match get fr q with | .bool t => some (if t then get fr a else get fr b, h) | _ => none) := _root_.id rfl
@[simp] theorem op_box (x : Opd) : evalOp O c (.box x) fr h = if (get fr x).isTup then none else some (.ptr h.boxes.length 0, { h with boxes := h.boxes ++ [(get fr x).cells] }) := _root_.id rfl
@[simp] theorem op_alloc (z : AV) : evalOp O c (.alloc z) fr h = some (.ptr h.boxes.length 0, { h with boxes := h.boxes ++ [z.cells] }) := _root_.id rfl
@[simp] theorem op_build (z : AV) (parts : List (Nat × Nat × Opd)) : evalOp O c (.build z parts) fr h = (buildParts fr z.cells.length parts).map fun ps => (.agg (fillParts z.cells ps), h) := by
  simp only [evalOp]
  cases buildParts fr z.cells.length parts <;> rfl
@[simp] theorem op_bslice (n : Nat) (z : AV) (parts : List (Nat × Opd)) : evalOp O c (.bslice n z parts) fr h = (sliceParts fr h (List.replicate n z) parts).map fun xs => (sl (true, true) z.cells.length xs, h) := by
  simp only [evalOp, sl_def]
  cases sliceParts fr h (List.replicate n z) parts <;> rfl
@[simp] theorem op_ldb (agg : Bool) (n : Nat) (x : Opd) : evalOp O c (.ldb agg n x) fr h = (match get fr x with | .ep .. => none | p => (match loadA h agg n p with | some v => some (v, h) | none => none)) := _root_.id rfl
@[simp] theorem op_nilck (x : Opd) : evalOp O c (.nilck x) fr h = (match get fr x with | .pv cs => some (.pv cs, h) | .ptr b o => some (.ptr b o, h) | .ep k n i q => some (.ep k n i q, h) | .fn f cs => some (.fn f cs, h) | _ => none) := _root_.id rfl
@[simp] theorem op_bin (op : BinOp) (x y : Opd) : evalOp O c (.bin op x y) fr h = (evalBin op (get fr x) (get fr y)).map fun v => (v, h) := by
  simp only [evalOp]
  cases evalBin op (get fr x) (get fr y) <;> rfl
@[simp] theorem op_beq (neg : Bool) (x y : Opd) : evalOp O c (.beq neg x y) fr h = (match get fr x, get fr y with | .bool a, .bool b => some (.bool (if neg then !(a == b) else a == b), h) | _, _ => none) := _root_.id rfl
@[simp] theorem op_nileq (neg : Bool) (x : Opd) : evalOp O c (.nileq neg x) fr h = nqA neg h (get fr x) := by
  simp only [evalOp, nqA]
  rfl
@[simp] theorem op_un (op : UnOp) (x : Opd) : evalOp O c (.un op x) fr h = (evalUn op (get fr x)).map fun v => (v, h) := by
  simp only [evalOp]
  cases evalUn op (get fr x) <;> rfl
@[simp] theorem op_conv (k : IntKind) (x : Opd) : evalOp O c (.conv k x) fr h = (match get fr x with | .int _ n => some (.int k (k.wrap n), h) | _ => none) := _root_.id rfl
@[simp] theorem op_cstr (x : Opd) : evalOp O c (.cstr x) fr h = (match get fr x with | .str s => some (.str s, h) | _ => none) := _root_.id rfl
@[simp] theorem op_clos (f : FuncId) (caps : List Opd) : evalOp O c (.clos f caps) fr h = some (.fn f (caps.map (get fr)), h) := _root_.id rfl
@[simp] theorem op_mkslice (z : AV) (bytes : Nat) (l q : Opd) : evalOp O c (.mkslice z bytes l q) fr h = (match get fr l, get fr q with
    | .int _ a, .int _ b =>
      if 0 ≤ a ∧ a ≤ b ∧ b * bytes ≤ roomA ∧ b ≤ maxLen then
        some (.sl h.fams.length a.toNat 0 a.toNat, { h with fams := h.fams ++ [⟨List.replicate a.toNat z, z.cells.length, true⟩] })
      else none
    | _, _ => none) := _root_.id rfl
@[simp] theorem op_faddr (off : Nat) (x : Opd) : evalOp O c (.faddr off x) fr h = (match get fr x with | .pv cs => some (.pv (cs.drop off), h) | .ptr b o => some (.ptr b (o + off), h) | .ep k n i q => some (.ep k n i (q + off), h) | _ => none) := _root_.id rfl
@[simp] theorem op_fld (agg : Bool) (off n : Nat) (x : Opd) : evalOp O c (.fld agg off n x) fr h = (match get fr x with | .agg cs => (match ofCells agg n (cs.drop off) with | some v => some (v, h) | none => none) | _ => none) := _root_.id rfl
@[simp] theorem op_idx (x i : Opd) : evalOp O c (.idx x i) fr h = (match get fr x, get fr i with
    | .str s, .int _ j => if 0 ≤ j then (match s[j.toNat]? with | some b => some (.int .u8 b.toNat, h) | none => none) else none
    | _, _ => none) := _root_.id rfl
@[simp] theorem op_ext (x : Opd) (i : Nat) : evalOp O c (.ext x i) fr h = (match get fr x with | .tup vs => (match vs[i]? with | some v => some (v, h) | none => none) | _ => none) := _root_.id rfl
@[simp] theorem op_slen (x : Opd) : evalOp O c (.len true x) fr h = (match get fr x with | .str s => some (.int .i64 s.size, h) | _ => none) := _root_.id rfl
@[simp] theorem op_max (x y : Opd) : evalOp O c (.max x y) fr h = (match get fr x, get fr y with | .int k a, .int k' b => if k = k' then some (.int k (if b > a then b else a), h) else none | _, _ => none) := _root_.id rfl
@[simp] theorem op_iaddr (sz : Nat) (x i : Opd) : evalOp O c (.iaddr sz x i) fr h = iaA h sz (get fr x) (get fr i) := _root_.id rfl
@[simp] theorem op_len (x : Opd) : evalOp O c (.len false x) fr h = lenA h (get fr x) := _root_.id rfl
def kraw (b : Bool) (x y : Unit → Option (AV × AH)) : Option (AV × AH) := if b then x () else y ()
@[simp] theorem kraw_t (x y : Unit → Option (AV × AH)) : kraw true x y = x () := _root_.id rfl
@[simp] theorem kraw_f (x y : Unit → Option (AV × AH)) : kraw false x y = y () := _root_.id rfl
@[congr] theorem kraw_congr {b b' : Bool} {x y : Unit → Option (AV × AH)} (h : b = b') : kraw b x y = kraw b' x y := by rw [h]
@[simp] theorem op_calls {C : Cfg} (f : FuncId) (xs : List Opd) : evalOp (lim C) c (.call f xs) fr h = kraw (c.raw f) (fun _ => rc C f (xs.map (get fr)) h) (fun _ => kcl (frzAll h true (xs.map (get fr))) (fun ys => pc C f ys) ((xs.map (get fr)).all (tame h)) h) := by
  cases hr : c.raw f with
  | false => exact op_call hr xs fr h
  | true => exact op_callr hr xs fr h
@[simp] theorem op_callv {C : Cfg} (x : Opd) (xs : List Opd) : evalOp (lim C) c (.callv x xs) fr h = (match get fr x with
    | .fn f caps => kraw (c.raw f) (fun _ => rc C f (xs.map (get fr) ++ caps) h) (fun _ => kcl (frzAll h true (xs.map (get fr) ++ caps)) (fun ys => pc C f ys) ((xs.map (get fr) ++ caps).all (tame h)) h)
    | _ => none) := by
  simp only [evalOp]
  cases get fr x with
  | fn f caps =>
    simp only
    cases hr : c.raw f with
    | false =>
      have := op_call (C := C) hr ((xs.map (get fr) ++ caps).map Opd.c) fr h
      simp only [evalOp, List.map_map] at this
      rw [show (get fr ∘ Opd.c) = id from rfl, List.map_id] at this
      exact this
    | true =>
      have := op_callr (C := C) hr ((xs.map (get fr) ++ caps).map Opd.c) fr h
      simp only [evalOp, List.map_map] at this
      rw [show (get fr ∘ Opd.c) = id from rfl, List.map_id] at this
      exact this
  | _ => rfl
@[simp] theorem op_slc (sz : Nat) (x : Opd) (lo hi mx : Option Opd) : evalOp O c (.slc sz x lo hi mx) fr h = slcA h sz (get fr x) (boundA fr lo) (boundA fr hi) (boundA fr mx) := _root_.id rfl
@[simp] theorem op_app (sz bytes : Nat) (s x : Opd) : evalOp O c (.app sz bytes s x) fr h = appendA c h sz bytes (get fr s) (get fr x) := _root_.id rfl
@[simp] theorem op_ld (agg : Bool) (n : Nat) (x : Opd) : evalOp O c (.ld agg n x) fr h = (loadA h agg n (get fr x)).map fun v => (v, h) := by
  simp only [evalOp]
  cases loadA h agg n (get fr x) <;> rfl
@[simp] theorem op_st (n : Nat) (a x : Opd) : evalOp O c (.st n a x) fr h = (storeA h n (get fr x) (get fr a)).map fun h' => (undefA, h') := by
  simp only [evalOp]
  cases storeA h n (get fr x) (get fr a) <;> rfl
end

/-- An element, where there is one. -/
def nth (xs : List AV) (i : Nat) : Option AV := xs[i]?
@[simp] theorem nth_zero (x : AV) (xs : List AV) : nth (x :: xs) 0 = some x := _root_.id rfl
@[simp] theorem nth_succ (x : AV) (xs : List AV) (i : Nat) : nth (x :: xs) (i + 1) = nth xs i := _root_.id rfl
theorem nth_map {α : Type} {f : α → AV} {l : List α} {i : Nat} {x : α} (h : l[i]? = some x) : nth (l.map f) i = some (f x) := by simp [nth, h]

@[simp] theorem iaA_sl (h : AH) (m : Bool × Bool) (sz : Nat) (xs : List AV) (k : IntKind) (j : Int) : iaA h sz (sl m sz xs) (.int k j) = if 0 ≤ j then (nth xs j.toNat).map (fun e => (.pv e.cells, h)) else none := by
  unfold iaA sl nth
  simp only
  by_cases hj : 0 ≤ j
  · rw [if_pos hj]
    cases hx : xs[j.toNat]? with
    | none => simp
    | some e =>
      cases xs with
      | nil => simp at hx
      | cons y ys => simp [hj]
  · rw [if_neg hj, if_neg (by omega)]
@[simp] theorem lenA_sl (h : AH) (m : Bool × Bool) (sz : Nat) (xs : List AV) : lenA h (sl m sz xs) = some (.int .i64 xs.length, h) := _root_.id rfl
@[simp] theorem lenA_view (h : AH) (k n off len : Nat) : lenA h (.sl k n off len) = some (.int .i64 len, h) := _root_.id rfl
@[simp] theorem frz_view (h : AH) (am : Bool) (k n off len : Nat) : frz h am (.sl k n off len) = frz1 h am (.sl k n off len) := _root_.id rfl
@[simp] theorem loadA_pv (h : AH) (agg : Bool) (n : Nat) (cs : List AV) : loadA h agg n (.pv cs) = ofCells agg n cs := _root_.id rfl
@[simp] theorem loadA_ptr (h : AH) (agg : Bool) (n b off : Nat) : loadA h agg n (.ptr b off) = (h.boxes[b]?).bind fun cs => ofCells agg n (cs.drop off) := by
  simp only [loadA]
  cases h.boxes[b]? <;> rfl

@[simp] theorem storeA_ptr (h : AH) (n : Nat) (v : AV) (b off : Nat) : storeA h n v (.ptr b off) = (h.boxes[b]?).bind fun cs => if v.isTup = false ∧ v.cells.length = n ∧ off + n ≤ cs.length then some { h with boxes := h.boxes.set b (splice cs off v.cells) } else none := by
  simp only [storeA]
  cases h.boxes[b]? <;> rfl
@[simp] theorem storeA_ep (h : AH) (n : Nat) (v : AV) (k m i q : Nat) : storeA h n v (.ep k m i q) = (h.fams[k]?).bind fun f =>
    if f.xs.length = m ∧ f.wr = true then
      (f.xs[i]?).bind fun x => (frz h false v).bind fun u => if u.cells.length = n ∧ q + n ≤ x.cells.length then
        (x.reform (splice x.cells q u.cells)).map fun y => { h with fams := h.fams.set k { f with xs := f.xs.set i y } } else none
    else none := by
  simp only [storeA]
  cases h.fams[k]? with
  | none => rfl
  | some f =>
    simp only [Option.bind_some]
    split
    · cases f.xs[i]? with
      | none => rfl
      | some x => cases frz h false v <;> rfl
    · rfl
@[simp] theorem loadA_ep (h : AH) (agg : Bool) (n k m i q : Nat) : loadA h agg n (.ep k m i q) = (h.fams[k]?).bind fun f => if f.xs.length = m then (f.xs[i]?).bind fun x => ofCells agg n (x.cells.drop q) else none := by
  simp only [loadA]
  cases h.fams[k]? with
  | none => rfl
  | some f =>
    simp only [Option.bind_some]
    split
    · cases f.xs[i]? <;> rfl
    · rfl
@[simp] theorem iaA_view (h : AH) (sz k n off len : Nat) (kd : IntKind) (j : Int) : iaA h sz (.sl k n off len) (.int kd j) = (h.fams[k]?).bind fun f => if 0 ≤ j ∧ j < len ∧ f.sz = sz ∧ f.xs.length = n then some (.ep k n (off + j.toNat) 0, h) else none := by
  simp only [iaA]
  cases h.fams[k]? <;> rfl
@[simp] theorem splice_def (cs : List AV) (off : Nat) (new : List AV) : splice cs off new = cs.take off ++ new ++ cs.drop (off + new.length) := _root_.id rfl
@[simp] theorem set_last {α : Type} (l : List α) (x y : α) : (l ++ [x]).set l.length y = l ++ [y] := by
  rw [List.set_append_right _ _ (Nat.le_refl _)]
  simp
@[simp] theorem bin_lss (k : IntKind) (a b : Int) : evalBin .lss (.int k a) (.int k b) = some (.bool (decide (a < b))) := by simp [evalBin]
@[simp] theorem bin_leq (k : IntKind) (a b : Int) : evalBin .leq (.int k a) (.int k b) = some (.bool (decide (a ≤ b))) := by simp [evalBin]
@[simp] theorem bin_gtr (k : IntKind) (a b : Int) : evalBin .gtr (.int k a) (.int k b) = some (.bool (decide (b < a))) := by simp [evalBin]
@[simp] theorem bin_geq (k : IntKind) (a b : Int) : evalBin .geq (.int k a) (.int k b) = some (.bool (decide (b ≤ a))) := by simp [evalBin]
@[simp] theorem bin_eql (k : IntKind) (a b : Int) : evalBin .eql (.int k a) (.int k b) = some (.bool (decide (a = b))) := by simp only [evalBin, if_true]; rfl
@[simp] theorem bin_neq (k : IntKind) (a b : Int) : evalBin .neq (.int k a) (.int k b) = some (.bool (!decide (a = b))) := by simp only [evalBin, if_true]; rfl
@[simp] theorem bin_add (k : IntKind) (a b : Int) : evalBin .add (.int k a) (.int k b) = some (.int k (k.wrap (a + b))) := by simp [evalBin]
@[simp] theorem bin_sub (k : IntKind) (a b : Int) : evalBin .sub (.int k a) (.int k b) = some (.int k (k.wrap (a - b))) := by simp [evalBin]
theorem beq_dec (a b : List UInt8) : (a == b) = decide (a = b) := by
  by_cases h : a = b <;> simp [h]
@[simp] theorem bin_slss (a b : ByteArray) : evalBin .lss (.str a) (.str b) = some (.bool (Op.bytesLess a.toList b.toList)) := _root_.id rfl
@[simp] theorem bin_sgtr (a b : ByteArray) : evalBin .gtr (.str a) (.str b) = some (.bool !(Op.bytesLess a.toList b.toList || decide (a.toList = b.toList))) := by simp only [evalBin]; rw [beq_dec]
@[simp] theorem bin_seql (a b : ByteArray) : evalBin .eql (.str a) (.str b) = some (.bool (decide (a.toList = b.toList))) := by simp only [evalBin]; rw [beq_dec]
@[simp] theorem bin_sneq (a b : ByteArray) : evalBin .neq (.str a) (.str b) = some (.bool !(decide (a.toList = b.toList))) := by simp only [evalBin]; rw [beq_dec]
@[simp] theorem resA_nil (fr : Fr) (h : AH) : resA fr h [] = some [] := _root_.id rfl
@[simp] theorem resA_tmp (fr : Fr) (h : AH) (t : Nat) (rs : List RRes) : resA fr h (.tmp t :: rs) = (resA fr h rs).map (look fr t :: ·) := _root_.id rfl
@[simp] theorem resA_cell (fr : Fr) (h : AH) (a n : Nat) (agg : Bool) (rs : List RRes) : resA fr h (.cell a agg n :: rs) = (loadA h agg n (look fr a)).bind fun v => (resA fr h rs).map (v :: ·) := _root_.id rfl
@[simp] theorem un_not (b : Bool) : evalUn .not (.bool b) = some (.bool !b) := _root_.id rfl
theorem wrap_id {n : Int} (h0 : -9223372036854775808 ≤ n) (h1 : n ≤ 9223372036854775807) : IntKind.i64.wrap n = n := by
  simp only [IntKind.wrap, IntKind.bits, IntKind.signed]
  simp only [Bool.true_and, decide_eq_true_eq, ge_iff_le]
  split <;> omega

@[simp] theorem frz1_view (h : AH) (am : Bool) (k n off len : Nat) : frz1 h am (.sl k n off len) = (h.fams[k]?).bind fun f => if f.xs.length = n ∧ off + len ≤ n ∧ (am || !f.wr) = true then some (sl (false, true) f.sz ((f.xs.drop off).take len)) else none := by
  simp only [frz1]
  cases h.fams[k]? with
  | none => rfl
  | some f => simp only [Option.bind_some, sl_def]
@[simp] theorem frz_nil (h : AH) (am : Bool) : frz h am (.vs true 0 []) = some (sl (true, false) 1 []) := _root_.id rfl
@[simp] theorem frz1_nil (h : AH) (am : Bool) : frz1 h am (.vs true 0 []) = some (sl (true, false) 1 []) := _root_.id rfl
theorem sl_nil_any (m : Bool × Bool) (hm : m.2 = false) (a b : Nat) : sl m a [] = sl m b [] := by simp [sl, hm]
@[simp] theorem app_nil (c : Ctx) (h : AH) (sz bytes : Nat) (x : AV) : appendA c h sz bytes (.vs true 0 []) x = (elems h sz x).bind fun ys =>
    if ys.length = 0 then some (.vs true 0 [], h) else if ys.length * bytes ≤ roomA ∧ ys.length ≤ maxLen then some (.sl h.fams.length ys.length 0 ys.length, { h with fams := h.fams ++ [⟨ys, sz, c.mutApp⟩] }) else none := by
  simp only [appendA]
  cases elems h sz x with
  | none => rfl
  | some ys => simp
@[simp] theorem app_view (c : Ctx) (h : AH) (sz bytes k n off len : Nat) (x : AV) : appendA c h sz bytes (.sl k n off len) x = (elems h sz x).bind fun ys => (h.fams[k]?).bind fun f =>
    if f.xs.length = n ∧ f.sz = sz ∧ off + len = n ∧ (n + ys.length) * bytes ≤ roomA ∧ n + ys.length ≤ maxLen then some (.sl k (n + ys.length) off (len + ys.length), { h with fams := h.fams.set k { f with xs := f.xs ++ ys } }) else none := by
  simp only [appendA]
  cases elems h sz x with
  | none => rfl
  | some ys => cases h.fams[k]? <;> rfl
theorem app_sl (c : Ctx) (h : AH) (sz bytes : Nat) (b : Bool) (xs : List AV) (x : AV) : appendA c h sz bytes (sl (true, b) sz xs) x = (elems h sz x).bind fun ys =>
    if ys.length = 0 then some (sl (true, b) sz xs, h) else if (xs.length + ys.length) * bytes ≤ roomA ∧ xs.length + ys.length ≤ maxLen then some (.sl h.fams.length (xs.length + ys.length) 0 (xs.length + ys.length), { h with fams := h.fams ++ [⟨xs ++ ys, sz, c.mutApp⟩] }) else none := by
  simp only [appendA, sl]
  cases elems h sz x with
  | none => rfl
  | some ys =>
    simp only [Option.bind_some]
    cases xs <;> simp

/-! ### Terms -/
inductive Tm where
  | mk (kind : Int) (name : ByteArray) (sort : Int) (m : Bool × Bool) (kids : List Tm)

mutual
def tmV : Tm → AV
  | .mk k n s m l => .agg [.int .i64 k, .str n, .int .i64 s, sl m 4 (tmVs l)]
def tmVs : List Tm → List AV
  | [] => []
  | t :: l => tmV t :: tmVs l
end
theorem tmVs_map (l : List Tm) : tmVs l = l.map tmV := by
  induction l with
  | nil => rfl
  | cons t l ih => simp [tmVs, ih]

theorem nth_tmVs {l : List Tm} {i : Nat} {t : Tm} (h : l[i]? = some t) : nth (tmVs l) i = some (tmV t) := by rw [tmVs_map]; exact nth_map h
@[simp] theorem tmVs_length (l : List Tm) : (tmVs l).length = l.length := by simp [tmVs_map]

mutual
def Tm.size : Tm → Nat
  | .mk _ _ _ _ l => 1 + Tm.sizes l
def Tm.sizes : List Tm → Nat
  | [] => 0
  | t :: l => t.size + Tm.sizes l
end

theorem Tm.size_pos (t : Tm) : 0 < t.size := by cases t; simp [Tm.size]; omega

theorem Tm.sizes_append (l r : List Tm) : Tm.sizes (l ++ r) = Tm.sizes l + Tm.sizes r := by
  induction l with
  | nil => simp [Tm.sizes]
  | cons t l ih => simp [Tm.sizes, ih]; omega

theorem Tm.size_le {t : Tm} {l : List Tm} (h : t ∈ l) : t.size ≤ Tm.sizes l := by
  induction l with
  | nil => cases h
  | cons x l ih =>
    simp only [Tm.sizes]
    rcases List.mem_cons.1 h with rfl | h
    · omega
    · have := ih h; omega

theorem Tm.length_le (l : List Tm) : l.length ≤ Tm.sizes l := by
  induction l with
  | nil => simp
  | cons x l ih => have := x.size_pos; simp only [Tm.sizes, List.length_cons]; omega
end Go.Abs
