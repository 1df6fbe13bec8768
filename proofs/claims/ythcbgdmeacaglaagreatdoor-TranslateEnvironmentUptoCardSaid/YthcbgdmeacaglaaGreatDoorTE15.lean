/- A part of the proof. -/
import Derived.Test.YthcbgdmeacaglaaGreatDoorTE14
import Derived.KernelRfl
set_option linter.all false
set_option linter.unusedVariables false
namespace Go.Abs
inductive FT where
  | nil
  | node (l : FT) (v : AV) (r : FT)
def g_nil (_ : Nat) : AV := undefA
noncomputable def g_two (v : AV) (gl gr : Nat → AV) (n : Nat) : AV := (Nat.beq (Nat.mod n (nat_lit 2)) (nat_lit 1)).rec (gr (Nat.sub (Nat.div n (nat_lit 2)) (nat_lit 1))) (gl (Nat.div n (nat_lit 2)))
noncomputable def g_node (_ : FT) (v : AV) (_ : FT) (gl gr : Nat → AV) (n : Nat) : AV := (Nat.beq n (nat_lit 0)).rec (g_two v gl gr n) v
noncomputable def FT.get (t : FT) : Nat → AV := t.rec g_nil g_node
def p_nil (_ : Nat) (_ : AV) : FT := .nil
noncomputable def p_two (l : FT) (v : AV) (r : FT) (pl pr : Nat → AV → FT) (n : Nat) (x : AV) : FT := (Nat.beq (Nat.mod n (nat_lit 2)) (nat_lit 1)).rec (.node l v (pr (Nat.sub (Nat.div n (nat_lit 2)) (nat_lit 1)) x)) (.node (pl (Nat.div n (nat_lit 2)) x) v r)
noncomputable def p_node (l : FT) (v : AV) (r : FT) (pl pr : Nat → AV → FT) (n : Nat) (x : AV) : FT := (Nat.beq n (nat_lit 0)).rec (p_two l v r pl pr n x) (.node l x r)
noncomputable def FT.put (t : FT) : Nat → AV → FT := t.rec p_nil p_node
noncomputable def blank (k : Nat) : Nat → FT := k.rec (fun _ => .nil) (fun _ b n => (Nat.beq n (nat_lit 0)).rec (.node (b (Nat.div n (nat_lit 2))) undefA (b (Nat.div (Nat.sub n (nat_lit 1)) (nat_lit 2)))) .nil)
def buildG (g : Opd → AV) (len : Nat) : List (Nat × Nat × Opd) → Option (List (Nat × AV))
  | [] => some []
  | (off, n, x) :: rest =>
    if (g x).isTup = false ∧ (g x).cells.length = n ∧ off + n ≤ len then (buildG g len rest).map ((off, g x) :: ·) else none
def sliceG (g : Opd → AV) (h : AH) (xs : List AV) : List (Nat × Opd) → Option (List AV)
  | [] => some xs
  | (i, x) :: rest =>
    match xs[i]?, frz h false (g x) with
    | some z, some y => if y.cells.length = z.cells.length then sliceG g h (xs.set i y) rest else none
    | _, _ => none
def boundG (g : Opd → AV) : Option Opd → Option (Option Int)
  | none => some none
  | some x => match g x with | .int _ i => some (some i) | _ => none
def b_add (x y : AV) : Option AV :=
  match x, y with
  | .int k a, .int k' b => if k = k' then some (.int k (k.wrap (a + b))) else none
  | .str a, .str b => if ((a.size + b.size : Nat) : Int) > IntKind.i64.max then none else some (.str (a ++ b))
  | _, _ => none
def b_sub (x y : AV) : Option AV :=
  match x, y with
  | .int k a, .int k' b => if k = k' then some (.int k (k.wrap (a - b))) else none
  | _, _ => none
def b_mul (x y : AV) : Option AV :=
  match x, y with
  | .int k a, .int k' b => if k = k' then some (.int k (k.wrap (a * b))) else none
  | _, _ => none
def b_quo (x y : AV) : Option AV :=
  match x, y with
  | .int k a, .int k' b => if k = k' ∧ b ≠ 0 then some (.int k (k.wrap (a.tdiv b))) else none
  | _, _ => none
def b_rem (x y : AV) : Option AV :=
  match x, y with
  | .int k a, .int k' b => if k = k' ∧ b ≠ 0 then some (.int k (a.tmod b)) else none
  | _, _ => none
def b_and (x y : AV) : Option AV :=
  match x, y with
  | .int k a, .int k' b => if k = k' then some (.int k (k.wrap (BitVec.ofInt k.bits a &&& BitVec.ofInt k.bits b).toNat)) else none
  | _, _ => none
def b_or (x y : AV) : Option AV :=
  match x, y with
  | .int k a, .int k' b => if k = k' then some (.int k (k.wrap (BitVec.ofInt k.bits a ||| BitVec.ofInt k.bits b).toNat)) else none
  | _, _ => none
def b_xor (x y : AV) : Option AV :=
  match x, y with
  | .int k a, .int k' b => if k = k' then some (.int k (k.wrap (BitVec.ofInt k.bits a ^^^ BitVec.ofInt k.bits b).toNat)) else none
  | _, _ => none
def b_shl (x y : AV) : Option AV :=
  match x, y with
  | .int k a, .int k' b => if 0 ≤ b then some (.int k (k.wrap (a * 2 ^ (min b.toNat k.bits)))) else none
  | _, _ => none
def b_shr (x y : AV) : Option AV :=
  match x, y with
  | .int k a, .int k' b => if 0 ≤ b then some (.int k (a.fdiv (2 ^ (min b.toNat k.bits)))) else none
  | _, _ => none
def b_andNot (_ _ : AV) : Option AV := none
def b_eql (x y : AV) : Option AV :=
  match x, y with
  | .int k a, .int k' b => if k = k' then some (.bool (a == b)) else none
  | .str a, .str b => some (.bool (a.toList == b.toList))
  | _, _ => none
def b_neq (x y : AV) : Option AV :=
  match x, y with
  | .int k a, .int k' b => if k = k' then some (.bool (a != b)) else none
  | .str a, .str b => some (.bool !(a.toList == b.toList))
  | _, _ => none
def b_lss (x y : AV) : Option AV :=
  match x, y with
  | .int k a, .int k' b => if k = k' then some (.bool (decide (a < b))) else none
  | .str a, .str b => some (.bool (Op.bytesLess a.toList b.toList))
  | _, _ => none
def b_leq (x y : AV) : Option AV :=
  match x, y with
  | .int k a, .int k' b => if k = k' then some (.bool (decide (a ≤ b))) else none
  | .str a, .str b => some (.bool (Op.bytesLess a.toList b.toList || a.toList == b.toList))
  | _, _ => none
def b_gtr (x y : AV) : Option AV :=
  match x, y with
  | .int k a, .int k' b => if k = k' then some (.bool (decide (a > b))) else none
  | .str a, .str b => some (.bool !(Op.bytesLess a.toList b.toList || a.toList == b.toList))
  | _, _ => none
def b_geq (x y : AV) : Option AV :=
  match x, y with
  | .int k a, .int k' b => if k = k' then some (.bool (decide (a ≥ b))) else none
  | .str a, .str b => some (.bool !(Op.bytesLess a.toList b.toList))
  | _, _ => none
noncomputable def binG (op : BinOp) : AV → AV → Option AV := op.rec b_add b_sub b_mul b_quo b_rem b_and b_or b_xor b_shl b_shr b_andNot b_eql b_neq b_lss b_leq b_gtr b_geq
noncomputable def e_mov (x : Opd) (O : Orc) (c : Ctx) (g : Opd → AV) (h : AH) : Option (AV × AH) := some (g x, h)
noncomputable def e_pick (q : Opd) (a : Opd) (b : Opd) (O : Orc) (c : Ctx) (g : Opd → AV) (h : AH) : Option (AV × AH) := match g q with | .bool t => some (if t then g a else g b, h) | _ => none
noncomputable def e_box (x : Opd) (O : Orc) (c : Ctx) (g : Opd → AV) (h : AH) : Option (AV × AH) := if (g x).isTup then none else some (.ptr h.boxes.length 0, { h with boxes := h.boxes ++ [(g x).cells] })
noncomputable def e_mkmap  (O : Orc) (c : Ctx) (g : Opd → AV) (h : AH) : Option (AV × AH) := some (.mp h.boxes.length, { h with boxes := h.boxes ++ [[.mbox [] []]] })
noncomputable def e_mlook (str : Bool) (ok : Bool) (z : AV) (x : Opd) (k : Opd) (O : Orc) (c : Ctx) (g : Opd → AV) (h : AH) : Option (AV × AH) := mlookA str ok z h (g x) (g k)
noncomputable def e_mup (str : Bool) (x : Opd) (k : Opd) (v : Opd) (O : Orc) (c : Ctx) (g : Opd → AV) (h : AH) : Option (AV × AH) := mupA str h (g x) (g k) (g v)
noncomputable def e_mlookp (ok : Bool) (z : AV) (x : Opd) (k : Opd) (O : Orc) (c : Ctx) (g : Opd → AV) (h : AH) : Option (AV × AH) := mlookP ok z h (g x) (g k)
noncomputable def e_mupp (x : Opd) (k : Opd) (v : Opd) (O : Orc) (c : Ctx) (g : Opd → AV) (h : AH) : Option (AV × AH) := mupP h (g x) (g k) (g v)
noncomputable def e_alloc (z : AV) (O : Orc) (c : Ctx) (g : Opd → AV) (h : AH) : Option (AV × AH) := some (.ptr h.boxes.length 0, { h with boxes := h.boxes ++ [z.cells] })
noncomputable def e_allocAt (r : Nat) (z : AV) (O : Orc) (c : Ctx) (g : Opd → AV) (h : AH) : Option (AV × AH) := allocAtA h r z
noncomputable def e_build (z : AV) (parts : List (Nat × Nat × Opd)) (O : Orc) (c : Ctx) (g : Opd → AV) (h : AH) : Option (AV × AH) := match buildG g z.cells.length parts with | some ps => some (.agg (fillParts z.cells ps), h) | none => none
noncomputable def e_bslice (n : Nat) (z : AV) (parts : List (Nat × Opd)) (O : Orc) (c : Ctx) (g : Opd → AV) (h : AH) : Option (AV × AH) := match sliceG g h (List.replicate n z) parts with | some xs => some (.vs true z.cells.length xs, h) | none => none
noncomputable def e_bslicev (n : Nat) (z : AV) (parts : List (Nat × Opd)) (O : Orc) (c : Ctx) (g : Opd → AV) (h : AH) : Option (AV × AH) := if parts.all (fun p => flatA (g p.2)) then (match sliceG g h (List.replicate n z) parts with | some xs => some (.vs true z.cells.length xs, h) | none => none) else none
noncomputable def e_ld (agg : Bool) (n : Nat) (x : Opd) (O : Orc) (c : Ctx) (g : Opd → AV) (h : AH) : Option (AV × AH) := match loadA h agg n (g x) with | some v => some (v, h) | none => none
noncomputable def e_ldb (agg : Bool) (n : Nat) (x : Opd) (O : Orc) (c : Ctx) (g : Opd → AV) (h : AH) : Option (AV × AH) := match g x with | .ep .. => none | p => (match loadA h agg n p with | some v => some (v, h) | none => none)
noncomputable def e_st (n : Nat) (a : Opd) (x : Opd) (O : Orc) (c : Ctx) (g : Opd → AV) (h : AH) : Option (AV × AH) := match storeA h n (g x) (g a) with | some h' => some (undefA, layS c.lay h' (g x)) | none => none
noncomputable def e_ste (n : Nat) (a : Opd) (x : Opd) (O : Orc) (c : Ctx) (g : Opd → AV) (h : AH) : Option (AV × AH) := steA h n (g a) (g x)
noncomputable def e_stb (n : Nat) (a : Opd) (x : Opd) (O : Orc) (c : Ctx) (g : Opd → AV) (h : AH) : Option (AV × AH) := stbA h n (g a) (g x)
noncomputable def e_clr (z : AV) (x : Opd) (O : Orc) (c : Ctx) (g : Opd → AV) (h : AH) : Option (AV × AH) := clrA h z (g x)
noncomputable def e_nilck (x : Opd) (O : Orc) (c : Ctx) (g : Opd → AV) (h : AH) : Option (AV × AH) := match g x with | .pv cs => some (.pv cs, h) | .ptr b o => some (.ptr b o, h) | .ep k n i q s => some (.ep k n i q s, h) | .fn f cs => some (.fn f cs, h) | _ => none
noncomputable def e_bin (op : BinOp) (x : Opd) (y : Opd) (O : Orc) (c : Ctx) (g : Opd → AV) (h : AH) : Option (AV × AH) := match binG op (g x) (g y) with | some v => some (v, h) | none => none
noncomputable def e_beq (neg : Bool) (x : Opd) (y : Opd) (O : Orc) (c : Ctx) (g : Opd → AV) (h : AH) : Option (AV × AH) := match g x, g y with | .bool a, .bool b => some (.bool (if neg then !(a == b) else a == b), h) | _, _ => none
noncomputable def e_nileq (neg : Bool) (x : Opd) (O : Orc) (c : Ctx) (g : Opd → AV) (h : AH) : Option (AV × AH) := nqA neg h (g x)
noncomputable def e_un (op : UnOp) (x : Opd) (O : Orc) (c : Ctx) (g : Opd → AV) (h : AH) : Option (AV × AH) := match evalUn op (g x) with | some v => some (v, h) | none => none
noncomputable def e_conv (k : IntKind) (x : Opd) (O : Orc) (c : Ctx) (g : Opd → AV) (h : AH) : Option (AV × AH) := match g x with | .int _ n => some (.int k (k.wrap n), h) | _ => none
noncomputable def e_cstr (x : Opd) (O : Orc) (c : Ctx) (g : Opd → AV) (h : AH) : Option (AV × AH) := match g x with | .str s => some (.str s, h) | _ => none
noncomputable def e_bstr (x : Opd) (O : Orc) (c : Ctx) (g : Opd → AV) (h : AH) : Option (AV × AH) := bstrA h (g x)
noncomputable def e_clos (f : FuncId) (caps : List Opd) (O : Orc) (c : Ctx) (g : Opd → AV) (h : AH) : Option (AV × AH) := if c.ro then (roCaps h (caps.map g)).map fun p => (.fn f p.1, p.2) else some (.fn f (caps.map g), h)
noncomputable def e_mkslice (z : AV) (bytes : Nat) (l : Opd) (q : Opd) (O : Orc) (c : Ctx) (g : Opd → AV) (h : AH) : Option (AV × AH) := 
    match g l, g q with
    | .int _ a, .int _ b =>
      if 0 ≤ a ∧ a ≤ b ∧ b * bytes ≤ roomA ∧ b ≤ maxLen then
        some (.sl h.fams.length a.toNat 0 a.toNat, { h with fams := h.fams ++ [⟨List.replicate a.toNat z, z.cells.length, true⟩] })
      else none
    | _, _ => none
noncomputable def e_mkv (z : AV) (bytes : Nat) (l : Opd) (q : Opd) (O : Orc) (c : Ctx) (g : Opd → AV) (h : AH) : Option (AV × AH) := mkvA h z bytes (g l) (g q)
noncomputable def e_mkb (z : AV) (bytes : Nat) (l : Opd) (q : Opd) (O : Orc) (c : Ctx) (g : Opd → AV) (h : AH) : Option (AV × AH) := mkbA h z bytes (g l) (g q)
noncomputable def e_slc (sz : Nat) (x : Opd) (lo : Option Opd) (hi : Option Opd) (mx : Option Opd) (O : Orc) (c : Ctx) (g : Opd → AV) (h : AH) : Option (AV × AH) := 
    match boundG g lo, boundG g hi, boundG g mx with
    | some l, some u, some m => match sliceA h sz (g x) l u m with | some v => some (v, h) | none => none
    | _, _, _ => none
noncomputable def e_faddr (off : Nat) (x : Opd) (O : Orc) (c : Ctx) (g : Opd → AV) (h : AH) : Option (AV × AH) := match g x with | .pv cs => some (.pv (cs.drop off), h) | .ptr b o => some (.ptr b (o + off), h) | .ep k n i q s => some (.ep k n i (q + off) s, h) | _ => none
noncomputable def e_fld (agg : Bool) (off : Nat) (n : Nat) (x : Opd) (O : Orc) (c : Ctx) (g : Opd → AV) (h : AH) : Option (AV × AH) := match g x with | .agg cs => (match ofCells agg n (cs.drop off) with | some v => some (v, h) | none => none) | _ => none
noncomputable def e_iaddr (sz : Nat) (x : Opd) (i : Opd) (O : Orc) (c : Ctx) (g : Opd → AV) (h : AH) : Option (AV × AH) := 
    match g x, g i with
    | .vs _ z xs, .int _ j => if 0 ≤ j ∧ z = sz then (match xs[j.toNat]? with | some e => some (.pv e.cells, h) | none => none) else none
    | .sl k n off len, .int _ j => if 0 ≤ j ∧ j < len then some (.ep k n (off + j.toNat) 0 sz, h) else none
    | .bsl b s off len, .int _ j => if 0 ≤ j ∧ j < len ∧ s = sz then some (.ptr b (off + j.toNat * sz), h) else none
    | _, _ => none
noncomputable def e_iaddrv (sz : Nat) (x : Opd) (i : Opd) (O : Orc) (c : Ctx) (g : Opd → AV) (h : AH) : Option (AV × AH) := 
    match g x, g i with
    | .vs _ z xs, .int _ j => if 0 ≤ j ∧ z = sz then (match xs[j.toNat]? with | some e => some (.pv e.cells, h) | none => none) else none
    | _, _ => none
noncomputable def e_idx (x : Opd) (i : Opd) (O : Orc) (c : Ctx) (g : Opd → AV) (h : AH) : Option (AV × AH) := 
    match g x, g i with
    | .str s, .int _ j => if 0 ≤ j then (match s[j.toNat]? with | some b => some (.int .u8 b.toNat, h) | none => none) else none
    | _, _ => none
noncomputable def e_ext (x : Opd) (i : Nat) (O : Orc) (c : Ctx) (g : Opd → AV) (h : AH) : Option (AV × AH) := match g x with | .tup vs => (match vs[i]? with | some v => some (v, h) | none => none) | _ => none
def e_lenT (x : Opd) (O : Orc) (c : Ctx) (g : Opd → AV) (h : AH) : Option (AV × AH) := match g x with | .str s => some (.int .i64 s.size, h) | _ => none
def e_lenF (x : Opd) (O : Orc) (c : Ctx) (g : Opd → AV) (h : AH) : Option (AV × AH) := 
    match g x with
    | .vs _ _ xs => some (.int .i64 xs.length, h)
    | .sl _ _ _ len => some (.int .i64 len, h)
    | .bsl _ _ _ len => some (.int .i64 len, h)
    | _ => none
noncomputable def e_len (b : Bool) : Opd → Orc → Ctx → (Opd → AV) → AH → Option (AV × AH) := b.rec e_lenF e_lenT
noncomputable def e_app (sz : Nat) (bytes : Nat) (s : Opd) (x : Opd) (O : Orc) (c : Ctx) (g : Opd → AV) (h : AH) : Option (AV × AH) := appendA c h sz bytes (g s) (g x)
noncomputable def e_apps (bytes : Nat) (s : Opd) (x : Opd) (O : Orc) (c : Ctx) (g : Opd → AV) (h : AH) : Option (AV × AH) := appsA c h bytes (g s) (g x)
noncomputable def e_max (x : Opd) (y : Opd) (O : Orc) (c : Ctx) (g : Opd → AV) (h : AH) : Option (AV × AH) := match g x, g y with | .int k a, .int k' b => if k = k' then some (.int k (if b > a then b else a), h) else none | _, _ => none
noncomputable def e_min (x : Opd) (y : Opd) (O : Orc) (c : Ctx) (g : Opd → AV) (h : AH) : Option (AV × AH) := match g x, g y with | .int k a, .int k' b => if k = k' then some (.int k (if b < a then b else a), h) else none | _, _ => none
noncomputable def e_mlen (x : Opd) (O : Orc) (c : Ctx) (g : Opd → AV) (h : AH) : Option (AV × AH) := match mapEnts h (g x) with | some (ks, _) => some (.int .i64 ks.length, h) | none => none
noncomputable def e_call (f : FuncId) (args : List Opd) (O : Orc) (c : Ctx) (g : Opd → AV) (h : AH) : Option (AV × AH) := callA O c f (args.map g) h
noncomputable def e_callv (x : Opd) (args : List Opd) (O : Orc) (c : Ctx) (g : Opd → AV) (h : AH) : Option (AV × AH) := match g x with | .fn f caps => if c.raw f && !c.rawv then none else callA O c f (args.map g ++ caps) h | _ => none
noncomputable def evalOpG (o : ROp) : Orc → Ctx → (Opd → AV) → AH → Option (AV × AH) := o.rec e_mov e_pick e_box e_mkmap e_mlook e_mup e_mlookp e_mupp e_alloc e_allocAt e_build e_bslice e_bslicev e_ld e_ldb e_st e_ste e_stb e_clr e_nilck e_bin e_beq e_nileq e_un e_conv e_cstr e_bstr e_clos e_mkslice e_mkv e_mkb e_slc e_faddr e_fld e_iaddr e_iaddrv e_idx e_ext e_len e_app e_apps e_max e_min e_mlen e_call e_callv
def gT_t (n : Nat) (get : Nat → AV) : AV := get n
def gT_c (v : AV) (_ : Nat → AV) : AV := v
noncomputable def gT (get : Nat → AV) (x : Opd) : AV := (x.rec gT_t gT_c : (Nat → AV) → AV) get
noncomputable def putT (t : FT) (d : Option Nat) (v : AV) : FT := d.rec t (fun n => t.put n v)
def wantedS (t : Nat → AV) (p : Nat × Bool) : Option Bool :=
  match t p.1 with
  | .bool b => some (b == p.2)
  | .tup _ => some false
  | _ => none
noncomputable def wantedT (t : Nat → AV) (g : Option (Nat × Bool)) : Option Bool := g.rec (some true) (wantedS t)
abbrev StT := FT × AH
abbrev RunT := Option (Ex × StT)
def l_nil (_ : Orc) (_ : Ctx) (t : FT) (h : AH) : Option (FT × AH) := some (t, h)
noncomputable def l_one (o : RO) (ih : Orc → Ctx → FT → AH → Option (FT × AH)) (O : Orc) (c : Ctx) (t : FT) (r : Option (AV × AH)) : Option (FT × AH) :=
  r.rec none (fun p => ih O c (putT t o.dst p.1) p.2)
noncomputable def l_want (o : RO) (ih : Orc → Ctx → FT → AH → Option (FT × AH)) (O : Orc) (c : Ctx) (t : FT) (h : AH) (b : Bool) : Option (FT × AH) :=
  b.rec (ih O c (putT t o.dst undefA) h) (l_one o ih O c t (evalOpG o.op O c (gT t.get) h))
noncomputable def l_cons (o : RO) (_ : List RO) (ih : Orc → Ctx → FT → AH → Option (FT × AH)) (O : Orc) (c : Ctx) (t : FT) (h : AH) : Option (FT × AH) :=
  (wantedT t.get o.guard).rec none (l_want o ih O c t h)
noncomputable def opsT (l : List RO) : Orc → Ctx → FT → AH → Option (FT × AH) := l.rec l_nil l_cons
structure OrcT where
  pure : FuncId → List AV → Option AV
  raw : FuncId → List AV → AH → Option (AV × AH)
  loop : (StT → RunT) → StT → RunT
def OrcT.orc (O : OrcT) : Orc := ⟨O.pure, O.raw, fun _ _ => none⟩
abbrev CodT := OrcT → Ctx → StT → RunT
def c_skip (_ : OrcT) (_ : Ctx) (s : StT) : RunT := some (.normal, s)
def footQ (c : Ctx) (g : Opd → AV) (r : ROp) (h h1 : AH) : Foot := ⟨opRB c h.boxes.length g r, if r.writesB c then difB h.boxes h1.boxes else [], opRF c g r, if r.writesF c then difF h.fams h1.fams else []⟩
def d_nil (_ : Orc) (_ : Ctx) (t : FT) (h : AH) : Option (List Foot × FT × AH) := some ([], t, h)
noncomputable def d_cons (o : RO) (_ : List RO) (ih : Orc → Ctx → FT → AH → Option (List Foot × FT × AH)) (O : Orc) (c : Ctx) (t : FT) (h : AH) : Option (List Foot × FT × AH) :=
  match wantedT t.get o.guard with
  | some true => (match evalOpG o.op O c (gT t.get) h with | some (v, h') => (ih O c (putT t o.dst v) h').map fun p => (footQ c (gT t.get) o.op h h' :: p.1, p.2) | none => none)
  | some false => (ih O c (putT t o.dst undefA) h).map fun p => (footG c (some false) (gT t.get) o.op h h :: p.1, p.2)
  | none => none
noncomputable def opsDT (l : List RO) : Orc → Ctx → FT → AH → Option (List Foot × FT × AH) := l.rec d_nil d_cons
noncomputable def c_region (_ : Bool) (ops : List RO) (O : OrcT) (c : Ctx) (s : StT) : RunT := (opsT ops O.orc c s.1 s.2).rec none (fun s' => some (.normal, s'))
noncomputable def c_regd (bs : List Nat) (ops : List RO) (O : OrcT) (c : Ctx) (s : StT) : RunT := match opsDT ops O.orc c s.1 (s.2.holes (nAt ops)) with | some (fs, s') => if pairsOkD bs ops fs then some (.normal, s') else none | none => none
def c_seq (_ _ : RCode) (ea eb : CodT) (O : OrcT) (c : Ctx) (s : StT) : RunT := match ea O c s with | some (.normal, s') => eb O c s' | r => r
noncomputable def c_cond (q : Opd) (_ _ : RCode) (ea eb : CodT) (O : OrcT) (c : Ctx) (s : StT) : RunT := match gT s.1.get q with | .bool true => ea O c s | .bool false => eb O c s | _ => none
def c_block (id : Nat) (_ : RCode) (ea : CodT) (O : OrcT) (c : Ctx) (s : StT) : RunT := match ea O c s with | some (.exit id', s') => if id' = id then some (.normal, s') else some (.exit id', s') | r => r
def c_loop (_ : RCode) (ea : CodT) (O : OrcT) (c : Ctx) (s : StT) : RunT := O.loop (ea O c) s
def c_exit (id : Nat) (_ : OrcT) (_ : Ctx) (s : StT) : RunT := some (.exit id, s)
def c_ret (_ : OrcT) (_ : Ctx) (s : StT) : RunT := some (.ret, s)
def c_bad (_ : OrcT) (_ : Ctx) (_ : StT) : RunT := none
noncomputable def codeT (x : RCode) : CodT := x.rec c_skip c_region c_regd c_seq c_cond c_block c_loop c_exit c_ret c_bad
noncomputable def resT (t : FT) (h : AH) : List RRes → Option (List AV)
  | [] => some []
  | .tmp k :: rest => (resT t h rest).map (t.get k :: ·)
  | .cell a agg n :: rest => (loadA h agg n (t.get a)).bind fun v => (resT t h rest).map (v :: ·)
noncomputable def putsT (t : FT) (k : Nat) : List AV → FT
  | [] => t
  | v :: vs => putsT (t.put k v) (k + 1) vs
noncomputable def bodyT (O : OrcT) (c : Ctx) (rf : RFunc) (args : List AV) (h : AH) : Option (AV × AH) :=
  match codeT rf.body O c (putsT (blank (Nat.succ (Nat.max rf.ntmps args.length)) (Nat.max rf.ntmps args.length)) 0 args, h) with
  | some (.normal, s) => (resT s.1 s.2 rf.results).map fun vs => (tupled vs, s.2)
  | some (.ret, s) => (resT s.1 s.2 rf.results).map fun vs => (tupled vs, s.2)
  | _ => none
structure Know where
  pure : FuncId → List AV → Option AV := fun _ _ => none
  raw : FuncId → List AV → AH → Option (AV × AH) := fun _ _ _ => none
noncomputable def rawU (C : Cfg) (O : OrcT) (f : FuncId) (args : List AV) (h : AH) : Option (AV × AH) :=
  match C.code f with
  | some rf => bodyT O (C.ctx f) rf args h
  | none => match C.rspec f with | some s => s.run O.orc args h | none => none
noncomputable def rawT (C : Cfg) (K : Know) (O : OrcT) (f : FuncId) (args : List AV) (h : AH) : Option (AV × AH) :=
  (K.raw f args h).rec (rstP (C.ctx f).rst (rawU C O f args h)) some
noncomputable def pureU (C : Cfg) (K : Know) (O : OrcT) (f : FuncId) (args : List AV) : Option AV :=
  match C.spec f with
  | some s => s args
  | none => match rawU C O f args AH.empty with | some (r, h) => frzRes h r | none => none
noncomputable def pureT (C : Cfg) (K : Know) (O : OrcT) (f : FuncId) (args : List AV) : Option AV :=
  (K.pure f args).rec (pureU C K O f args) some
def i_zero (_ : StT → RunT) (_ : StT) : RunT := none
def i_succ (_ : Nat) (ih : (StT → RunT) → StT → RunT) (step : StT → RunT) (s : StT) : RunT := match step s with | some (.normal, s') => ih step s' | r => r
noncomputable def iterT (n : Nat) : (StT → RunT) → StT → RunT := n.rec i_zero i_succ
noncomputable def orcT (C : Cfg) (K : Know) (n : Nat) : OrcT :=
  n.rec ⟨fun _ _ => none, fun _ _ _ => none, fun _ _ => none⟩ (fun n O => ⟨pureT C K O, rawT C K O, iterT (n + 1)⟩)
end Go.Abs
namespace Go.Abs
theorem nbF {a b : Nat} (h : a ≠ b) : Nat.beq a b = false := by
  cases e : Nat.beq a b with
  | false => rfl
  | true => exact absurd (Nat.eq_of_beq_eq_true e) h
theorem nbT {a b : Nat} (h : a = b) : Nat.beq a b = true := by subst h; exact Nat.beq_refl a
def h_nil (_ : Nat) : Bool := false
def h_node (_ : FT) (_ : AV) (_ : FT) (hl hr : Nat → Bool) (n : Nat) : Bool := if n = 0 then true else if n % 2 = 1 then hl (n / 2) else hr (n / 2 - 1)
noncomputable def FT.has (t : FT) : Nat → Bool := t.rec h_nil h_node
theorem get_node (l : FT) (v : AV) (r : FT) (n : Nat) : (FT.node l v r).get n = if n = 0 then v else if n % 2 = 1 then l.get (n / 2) else r.get (n / 2 - 1) := by
  show g_node l v r l.get r.get n = _
  unfold g_node
  by_cases h : n = 0
  · subst h; rfl
  · rw [if_neg h, show Nat.beq n 0 = false from nbF h]
    show g_two v l.get r.get n = _
    unfold g_two
    by_cases h1 : n % 2 = 1
    · rw [if_pos h1, show Nat.beq (Nat.mod n 2) 1 = true from nbT h1]; rfl
    · rw [if_neg h1, show Nat.beq (Nat.mod n 2) 1 = false from nbF h1]; rfl
theorem put_node (l : FT) (v : AV) (r : FT) (n : Nat) (x : AV) : (FT.node l v r).put n x = if n = 0 then .node l x r else if n % 2 = 1 then .node (l.put (n / 2) x) v r else .node l v (r.put (n / 2 - 1) x) := by
  show p_node l v r l.put r.put n x = _
  unfold p_node
  by_cases h : n = 0
  · subst h; rfl
  · rw [if_neg h, show Nat.beq n 0 = false from nbF h]
    show p_two l v r l.put r.put n x = _
    unfold p_two
    by_cases h1 : n % 2 = 1
    · rw [if_pos h1, show Nat.beq (Nat.mod n 2) 1 = true from nbT h1]; rfl
    · rw [if_neg h1, show Nat.beq (Nat.mod n 2) 1 = false from nbF h1]; rfl
theorem has_node (l : FT) (v : AV) (r : FT) (n : Nat) : (FT.node l v r).has n = if n = 0 then true else if n % 2 = 1 then l.has (n / 2) else r.has (n / 2 - 1) := rfl
theorem get_put (t : FT) : ∀ (d : Nat) (v : AV) (n : Nat), (t.put d v).get n = if n = d ∧ t.has d = true then v else t.get n := by
  induction t with
  | nil => intro d v n; rw [if_neg (fun h => Bool.noConfusion h.2)]; rfl
  | node l x r il ir =>
    intro d v n
    rw [put_node, has_node]
    by_cases hd : d = 0
    · subst hd
      simp only [if_true, and_true]
      rw [get_node, get_node]
      by_cases hn : n = 0
      · simp [hn]
      · simp [hn]
    · rw [if_neg hd, if_neg hd]
      by_cases h1 : d % 2 = 1
      · rw [if_pos h1, if_pos h1, get_node, get_node]
        by_cases hn : n = 0
        · rw [if_pos hn, if_pos hn, if_neg (by omega)]
        · rw [if_neg hn, if_neg hn]
          by_cases h2 : n % 2 = 1
          · rw [if_pos h2, if_pos h2, il]
            by_cases he : n = d
            · subst he; simp only [true_and]
            · rw [if_neg (by omega), if_neg (by omega)]
          · rw [if_neg h2, if_neg h2, if_neg (by omega)]
      · rw [if_neg h1, if_neg h1, get_node, get_node]
        by_cases hn : n = 0
        · rw [if_pos hn, if_pos hn, if_neg (by omega)]
        · rw [if_neg hn, if_neg hn]
          by_cases h2 : n % 2 = 1
          · rw [if_pos h2, if_pos h2, if_neg (by omega)]
          · rw [if_neg h2, if_neg h2, ir]
            by_cases he : n = d
            · subst he; simp only [true_and]
            · rw [if_neg (by omega), if_neg (by omega)]
theorem has_put (t : FT) : ∀ (d : Nat) (v : AV) (n : Nat), (t.put d v).has n = t.has n := by
  induction t with
  | nil => intro d v n; rfl
  | node l x r il ir =>
    intro d v n
    rw [put_node]
    by_cases hd : d = 0
    · rw [if_pos hd]; rfl
    · rw [if_neg hd]
      by_cases h1 : d % 2 = 1
      · rw [if_pos h1, has_node, has_node, il]
      · rw [if_neg h1, has_node, has_node, ir]
theorem blank_succ (k n : Nat) : blank (k + 1) n = if n = 0 then .nil else .node (blank k (n / 2)) undefA (blank k ((n - 1) / 2)) := by
  show ((Nat.beq n 0).rec (.node (blank k (n / 2)) undefA (blank k ((n - 1) / 2))) .nil : FT) = _
  by_cases h : n = 0
  · subst h; rfl
  · rw [if_neg h, show Nat.beq n 0 = false from nbF h]
theorem get_blank : ∀ (k n i : Nat), (blank k n).get i = undefA
  | 0, _, _ => rfl
  | k + 1, n, i => by
    rw [blank_succ]
    by_cases h : n = 0
    · rw [if_pos h]; rfl
    · rw [if_neg h, get_node, get_blank, get_blank]
      simp
theorem has_blank : ∀ (k n i : Nat), n < k → (blank k n).has i = decide (i < n)
  | 0, _, _, h => absurd h (Nat.not_lt_zero _)
  | k + 1, n, i, hk => by
    rw [blank_succ]
    by_cases h : n = 0
    · subst h; rw [if_pos rfl]; simp [FT.has, h_nil]
    · rw [if_neg h, has_node]
      by_cases hi : i = 0
      · subst hi; rw [if_pos rfl]; simp; omega
      · rw [if_neg hi]
        by_cases h1 : i % 2 = 1
        · rw [if_pos h1, has_blank k _ _ (by omega)]
          apply decide_eq_decide.2; omega
        · rw [if_neg h1, has_blank k _ _ (by omega)]
          apply decide_eq_decide.2; omega
structure RepT (t : FT) (fr : Fr) : Prop where
  get : ∀ n, t.get n = fr.getD n undefA
  has : ∀ n, t.has n = decide (n < fr.length)
theorem getD_set (fr : Fr) (d n : Nat) (v : AV) : (fr.set d v).getD n undefA = if n = d ∧ d < fr.length then v else fr.getD n undefA := by
  simp only [List.getD_eq_getElem?_getD, List.getElem?_set]
  by_cases h : d = n
  · subst h
    by_cases hl : d < fr.length
    · simp [hl]
    · simp [hl]
  · rw [if_neg h, if_neg (fun k => h k.1.symm)]
theorem RepT.put {t : FT} {fr : Fr} (R : RepT t fr) (d : Nat) (v : AV) : RepT (t.put d v) (fr.set d v) := by
  constructor
  · intro n
    rw [get_put, getD_set, R.has, R.get]
    simp
  · intro n; rw [has_put, R.has, List.length_set]
theorem RepT.putO {t : FT} {fr : Fr} (R : RepT t fr) (d : Option Nat) (v : AV) : RepT (putT t d v) (Go.Abs.put fr d v) := by
  cases d with
  | none => exact R
  | some d => exact R.put d v
theorem RepT.gT {t : FT} {fr : Fr} (R : RepT t fr) : Go.Abs.gT t.get = Go.Abs.get fr := by
  funext x
  cases x with
  | t n => exact R.get n
  | c v => rfl
theorem RepT.puts : ∀ (args : List AV) {t : FT} {pre old : Fr}, RepT t (pre ++ old) → args.length ≤ old.length → RepT (putsT t pre.length args) (pre ++ args ++ old.drop args.length)
  | [], t, pre, old, R, _ => by simpa [putsT] using R
  | v :: vs, t, pre, old, R, h => by
    cases old with
    | nil => simp at h
    | cons o old =>
      have hs : (pre ++ o :: old).set pre.length v = (pre ++ [v]) ++ old := by simp
      have R1 := R.put pre.length v
      rw [hs] at R1
      have := RepT.puts vs R1 (by simpa using h)
      simpa [putsT] using this
theorem RepT.start (rf : RFunc) (args : List AV) : RepT (putsT (blank (Nat.succ (Nat.max rf.ntmps args.length)) (Nat.max rf.ntmps args.length)) 0 args) (startFr rf args) := by
  have h0 : RepT (blank (Nat.succ (Nat.max rf.ntmps args.length)) (Nat.max rf.ntmps args.length)) ([] ++ List.replicate (Nat.max rf.ntmps args.length) undefA) := by
    constructor
    · intro n
      rw [get_blank]
      simp only [List.nil_append, List.getD_eq_getElem?_getD, List.getElem?_replicate]
      split <;> rfl
    · intro n
      rw [has_blank _ _ _ (Nat.lt_succ_self _)]
      simp
  have h1 := RepT.puts args h0 (by simp; exact Nat.le_max_right _ _)
  have e : ([] : Fr) ++ args ++ (List.replicate (Nat.max rf.ntmps args.length) undefA).drop args.length = startFr rf args := by
    unfold startFr
    rw [List.drop_replicate, List.nil_append]
    congr 2
    show max rf.ntmps args.length - args.length = _
    omega
  rw [e] at h1
  exact h1
theorem buildG_eq (fr : Fr) (n : Nat) : ∀ l, buildG (get fr) n l = buildParts fr n l
  | [] => rfl
  | (a, b, x) :: l => by unfold buildG buildParts; rw [buildG_eq fr n l]
theorem sliceG_eq (fr : Fr) (h : AH) : ∀ (l : List (Nat × Opd)) (xs : List AV), sliceG (get fr) h xs l = sliceParts fr h xs l
  | [], _ => rfl
  | (i, x) :: l, xs => by
    unfold sliceG sliceParts
    cases xs[i]? with
    | none => rfl
    | some z =>
      cases frz h false (get fr x) with
      | none => rfl
      | some y => simp only [sliceG_eq fr h l]
theorem boundG_eq (fr : Fr) (x : Option Opd) : boundG (get fr) x = boundA fr x := by cases x <;> rfl
theorem binG_eq (op : BinOp) (x y : AV) : binG op x y = evalBin op x y := by
  cases x <;> cases op <;> first | rfl | (cases y <;> rfl)
theorem evalOpG_eq (O : Orc) (c : Ctx) (o : ROp) (fr : Fr) (h : AH) : evalOpG o O c (get fr) h = evalOp O c o fr h := by
  cases o with
  | build z parts => show e_build z parts O c (get fr) h = _; unfold e_build; rw [buildG_eq]; rfl
  | bslice n z parts => show e_bslice n z parts O c (get fr) h = _; unfold e_bslice; rw [sliceG_eq]; rfl
  | bslicev n z parts => show e_bslicev n z parts O c (get fr) h = _; unfold e_bslicev; rw [sliceG_eq]; rfl
  | slc sz x lo hi mx => show e_slc sz x lo hi mx O c (get fr) h = _; unfold e_slc; rw [boundG_eq, boundG_eq, boundG_eq]; rfl
  | bin op x y => show e_bin op x y O c (get fr) h = _; unfold e_bin; rw [binG_eq]; rfl
  | len b x => cases b <;> rfl
  | _ => rfl
theorem wantedT_eq {t : FT} {fr : Fr} (R : RepT t fr) (g : Option (Nat × Bool)) : wantedT t.get g = wantedA fr g := by
  cases g with
  | none => rfl
  | some p =>
    obtain ⟨s, w⟩ := p
    show wantedS t.get (s, w) = _
    unfold wantedS wantedA
    rw [R.get]
    rfl
def Sim (st : StT → RunT) (s : St → Option (Ex × St)) : Prop :=
  ∀ t fr h, RepT t fr → ∀ e t' h', st (t, h) = some (e, t', h') → ∃ fr', s (fr, h) = some (e, fr', h') ∧ RepT t' fr'
structure SimO (A : OrcT) (O : Orc) : Prop where
  pure : ∀ f args r, A.pure f args = some r → O.pure f args = some r
  raw : ∀ f args h r, A.raw f args h = some r → O.raw f args h = some r
  loop : ∀ st s, Sim st s → Sim (A.loop st) (O.loop s)
theorem SimO.le {A : OrcT} {O : Orc} (S : SimO A O) : Le A.orc O := ⟨S.pure, S.raw, fun _ _ _ _ _ h => by cases h⟩
theorem ops_sim {A : OrcT} {O : Orc} (S : SimO A O) (c : Ctx) : ∀ (l : List RO) (t : FT) (fr : Fr) (h : AH), RepT t fr → ∀ t' h', opsT l A.orc c t h = some (t', h') → ∃ fr', evalOps O c l fr h = some (fr', h') ∧ RepT t' fr'
  | [], t, fr, h, R, t', h', he => by
    have he : some (t, h) = some (t', h') := he
    cases he
    exact ⟨fr, rfl, R⟩
  | o :: l, t, fr, h, R, t', h', he => by
    have he : ((wantedT t.get o.guard).rec none (l_want o (opsT l) A.orc c t h) : Option (FT × AH)) = some (t', h') := he
    rw [wantedT_eq R] at he
    unfold evalOps
    cases hw : wantedA fr o.guard with
    | none => rw [hw] at he; cases he
    | some b =>
      rw [hw] at he
      cases b with
      | false => exact ops_sim S c l _ _ h (R.putO o.dst undefA) t' h' he
      | true =>
        have he : ((evalOpG o.op A.orc c (gT t.get) h).rec none (fun p => opsT l A.orc c (putT t o.dst p.1) p.2) : Option (FT × AH)) = some (t', h') := he
        rw [R.gT, evalOpG_eq] at he
        cases hp : evalOp A.orc c o.op fr h with
        | none => rw [hp] at he; cases he
        | some p =>
          rw [hp] at he
          have hp' := evalOp_mono S.le hp
          dsimp only
          rw [hp']
          exact ops_sim S c l _ _ p.2 (R.putO o.dst p.1) t' h' he
theorem difB_same {a b : List (List AV)} (e : b = a) : difB a b = [] := by
  subst e
  have : ∀ i : Nat, eqBox b[i]? b[i]? = true := fun i => by
    cases b[i]? with
    | none => rfl
    | some x => exact eqAVs_refl x
  simp [difB, this]
theorem difF_same {a b : List Fam} (e : b = a) : difF a b = [] := by
  subst e
  have : ∀ x : Option Fam, eqFam x x = true := fun x => by
    cases x with
    | none => rfl
    | some x => simp [eqFam, eqAVs_refl]
  simp [difF, this]
theorem footQ_eq {O : Orc} {c : Ctx} {r : ROp} {fr : Fr} {h h1 : AH} {v : AV} (he : evalOp O c r fr h = some (v, h1)) : footQ c (get fr) r h h1 = footG c (some true) (get fr) r h h1 := by
  obtain ⟨k1, k2⟩ := op_heap he
  simp only [footQ, footG]
  congr 1
  · split
    · rfl
    · rename_i hw; rw [difB_same (k1 (by simpa using hw))]
  · split
    · rfl
    · rename_i hw; rw [difF_same (k2 (by simpa using hw))]
theorem opsD_sim {A : OrcT} {O : Orc} (S : SimO A O) (c : Ctx) : ∀ (l : List RO) (t : FT) (fr : Fr) (h : AH), RepT t fr → ∀ fs t' h', opsDT l A.orc c t h = some (fs, t', h') → ∃ fr', evalOpsD O c l fr h = some (fs, fr', h') ∧ RepT t' fr'
  | [], t, fr, h, R, fs, t', h', he => by
    have he : some (([] : List Foot), t, h) = some (fs, t', h') := he
    cases he
    exact ⟨fr, rfl, R⟩
  | o :: l, t, fr, h, R, fs, t', h', he => by
    have he : (match wantedT t.get o.guard with
      | some true => (match evalOpG o.op A.orc c (gT t.get) h with | some (v, h') => (opsDT l A.orc c (putT t o.dst v) h').map fun p => (footQ c (gT t.get) o.op h h' :: p.1, p.2) | none => none)
      | some false => (opsDT l A.orc c (putT t o.dst undefA) h).map fun p => (footG c (some false) (gT t.get) o.op h h :: p.1, p.2)
      | none => none) = some (fs, t', h') := he
    rw [wantedT_eq R, R.gT, evalOpG_eq] at he
    unfold evalOpsD footOf
    cases hw : wantedA fr o.guard with
    | none => rw [hw] at he; cases he
    | some b =>
      rw [hw] at he
      cases b with
      | false =>
        dsimp only at he ⊢
        rw [Option.map_eq_some_iff] at he
        obtain ⟨⟨fs1, t1, h1⟩, hq, e⟩ := he
        cases e
        obtain ⟨fr', k1, k2⟩ := opsD_sim S c l _ _ h (R.putO o.dst undefA) _ _ _ hq
        exact ⟨fr', by rw [k1]; rfl, k2⟩
      | true =>
        dsimp only at he ⊢
        cases hp : evalOp A.orc c o.op fr h with
        | none => rw [hp] at he; cases he
        | some p =>
          rw [hp] at he
          rw [evalOp_mono S.le hp]
          dsimp only at he ⊢
          rw [footQ_eq hp] at he
          rw [Option.map_eq_some_iff] at he
          obtain ⟨⟨fs1, t1, h1⟩, hq, e⟩ := he
          cases e
          obtain ⟨fr', k1, k2⟩ := opsD_sim S c l _ _ p.2 (R.putO o.dst p.1) _ _ _ hq
          exact ⟨fr', by rw [k1]; rfl, k2⟩
theorem code_sim {A : OrcT} {O : Orc} (S : SimO A O) (c : Ctx) : ∀ (x : RCode), Sim (codeT x A c) (evalCode O c x)
  | .skip => fun t fr h R e t' h' he => by
    have he : some (Ex.normal, t, h) = some (e, t', h') := he
    cases he
    exact ⟨fr, rfl, R⟩
  | .region d ops => fun t fr h R e t' h' he => by
    have he : ((opsT ops A.orc c t h).rec none (fun s' => some (Ex.normal, s')) : RunT) = some (e, t', h') := he
    unfold evalCode
    cases ho : opsT ops A.orc c t h with
    | none => rw [ho] at he; cases he
    | some s =>
      rw [ho] at he
      cases he
      obtain ⟨fr', h1, h2⟩ := ops_sim S c ops t fr h R _ _ ho
      exact ⟨fr', by rw [h1], h2⟩
  | .regd bs ops => fun t fr h R e t' h' he => by
    have he : (match opsDT ops A.orc c t (h.holes (nAt ops)) with | some (fs, s') => if pairsOkD bs ops fs then some (Ex.normal, s') else none | none => none) = some (e, t', h') := he
    unfold evalCode
    cases ho : opsDT ops A.orc c t (h.holes (nAt ops)) with
    | none => rw [ho] at he; cases he
    | some s =>
      obtain ⟨fs, t1, h1⟩ := s
      rw [ho] at he
      dsimp only at he
      split at he
      · rename_i hp
        cases he
        obtain ⟨fr', k1, k2⟩ := opsD_sim S c ops t fr (h.holes (nAt ops)) R _ _ _ ho
        exact ⟨fr', by rw [k1]; dsimp only; rw [if_pos hp], k2⟩
      · cases he
  | .seq a b => fun t fr h R e t' h' he => by
    have he : (match codeT a A c (t, h) with | some (.normal, s') => codeT b A c s' | r => r) = some (e, t', h') := he
    unfold evalCode
    cases ha : codeT a A c (t, h) with
    | none => rw [ha] at he; cases he
    | some p =>
      obtain ⟨ea, ta, h1⟩ := p
      rw [ha] at he
      obtain ⟨fra, k1, k2⟩ := code_sim S c a t fr h R _ _ _ ha
      rw [k1]
      cases ea with
      | normal => exact code_sim S c b ta fra h1 k2 e t' h' he
      | exit id => cases he; exact ⟨fra, rfl, k2⟩
      | ret => cases he; exact ⟨fra, rfl, k2⟩
  | .cond q a b => fun t fr h R e t' h' he => by
    have he : (match gT t.get q with | .bool true => codeT a A c (t, h) | .bool false => codeT b A c (t, h) | _ => none) = some (e, t', h') := he
    rw [R.gT] at he
    unfold evalCode
    dsimp only
    generalize get fr q = v at he ⊢
    split at he
    · exact code_sim S c a t fr h R e t' h' he
    · exact code_sim S c b t fr h R e t' h' he
    · cases he
  | .block id a => fun t fr h R e t' h' he => by
    have he : (match codeT a A c (t, h) with | some (.exit id', s') => if id' = id then some (.normal, s') else some (.exit id', s') | r => r) = some (e, t', h') := he
    unfold evalCode
    cases ha : codeT a A c (t, h) with
    | none => rw [ha] at he; cases he
    | some p =>
      obtain ⟨ea, ta, h1⟩ := p
      rw [ha] at he
      obtain ⟨fra, k1, k2⟩ := code_sim S c a t fr h R _ _ _ ha
      rw [k1]
      cases ea with
      | normal => cases he; exact ⟨fra, rfl, k2⟩
      | ret => cases he; exact ⟨fra, rfl, k2⟩
      | exit id' =>
        dsimp only at he ⊢
        by_cases hi : id' = id
        · rw [if_pos hi] at he ⊢; cases he; exact ⟨fra, rfl, k2⟩
        · rw [if_neg hi] at he ⊢; cases he; exact ⟨fra, rfl, k2⟩
  | .loop a => fun t fr h R e t' h' he => S.loop _ _ (code_sim S c a) t fr h R e t' h' he
  | .exit id => fun t fr h R e t' h' he => by
    have he : some (Ex.exit id, t, h) = some (e, t', h') := he
    cases he
    exact ⟨fr, rfl, R⟩
  | .ret => fun t fr h R e t' h' he => by
    have he : some (Ex.ret, t, h) = some (e, t', h') := he
    cases he
    exact ⟨fr, rfl, R⟩
  | .bad => fun t fr h R e t' h' he => by
    have he : none = some (e, t', h') := he
    cases he
theorem resT_eq {t : FT} {fr : Fr} (R : RepT t fr) (h : AH) : ∀ l, resT t h l = resA fr h l
  | [] => rfl
  | .tmp k :: l => by unfold resT resA; rw [resT_eq R h l, R.get]
  | .cell a b n :: l => by unfold resT resA; rw [resT_eq R h l, R.get]
theorem body_sim {A : OrcT} {O : Orc} (S : SimO A O) (c : Ctx) (rf : RFunc) (args : List AV) (h : AH) {r : AV × AH} (he : bodyT A c rf args h = some r) : evalBody O c rf args h = some r := by
  unfold bodyT at he
  unfold evalBody
  cases hc : codeT rf.body A c (putsT (blank (Nat.succ (Nat.max rf.ntmps args.length)) (Nat.max rf.ntmps args.length)) 0 args, h) with
  | none => rw [hc] at he; cases he
  | some p =>
    obtain ⟨e, t', h'⟩ := p
    rw [hc] at he
    obtain ⟨fr', k1, k2⟩ := code_sim S c rf.body _ _ h (RepT.start rf args) _ _ _ hc
    rw [k1]
    cases e with
    | normal => dsimp only at he ⊢; rw [resT_eq k2] at he; exact he
    | ret => dsimp only at he ⊢; rw [resT_eq k2] at he; exact he
    | exit id => cases he
theorem rspec_mono {s : RSpec} {O O' : Orc} (hO : Le O O') {args : List AV} {h : AH} {x : AV × AH} (he : s.run O args h = some x) : s.run O' args h = some x := by
  obtain ⟨l, h1, h2⟩ := s.fin O args h x he
  exact h2 O' fun p hp => hO.pure _ _ _ (h1 p hp)
structure KnowOk (C : Cfg) (K : Know) : Prop where
  pure : ∀ f args r, K.pure f args = some r → pc C f args = some r
  raw : ∀ f args h r, K.raw f args h = some r → rc C f args h = some r
section
variable {C : Cfg} {K : Know}
theorem rawU_sim {A : OrcT} (S : SimO A (lim C)) {f : FuncId} {args : List AV} {h : AH} {r : AV × AH} (he : rawU C A f args h = some r) : rawA C (lim C) f args h = some r := by
  unfold rawU at he
  unfold rawA
  cases hc : C.code f with
  | some rf => rw [hc] at he; exact body_sim S _ rf args h he
  | none =>
    rw [hc] at he
    dsimp only at he ⊢
    cases hr : C.rspec f with
    | none => rw [hr] at he; cases he
    | some s => rw [hr] at he; exact rspec_mono S.le he
theorem raw_sim (hK : KnowOk C K) {A : OrcT} (S : SimO A (lim C)) {f : FuncId} {args : List AV} {h : AH} {r : AV × AH} (he : rawT C K A f args h = some r) : rc C f args h = some r := by
  unfold rawT at he
  cases hk : K.raw f args h with
  | some x => rw [hk] at he; cases he; exact hK.raw _ _ _ _ hk
  | none =>
    rw [hk] at he
    have he : rstP (C.ctx f).rst (rawU C A f args h) = some r := he
    cases hu : rawU C A f args h with
    | none => rw [hu] at he; unfold rstP at he; split at he <;> cases he
    | some x =>
      rw [hu, rstP_some] at he
      cases he
      exact rc_of C (rawU_sim S hu)
theorem pure_sim (hK : KnowOk C K) {A : OrcT} (S : SimO A (lim C)) {f : FuncId} {args : List AV} {r : AV} (he : pureT C K A f args = some r) : pc C f args = some r := by
  unfold pureT at he
  cases hk : K.pure f args with
  | some x => rw [hk] at he; cases he; exact hK.pure _ _ _ hk
  | none =>
    rw [hk] at he
    have he : pureU C K A f args = some r := he
    unfold pureU at he
    cases hs : C.spec f with
    | some s =>
      apply pc_of
      rw [hs] at he
      unfold pureA
      rw [hs]
      exact he
    | none =>
      rw [hs] at he
      dsimp only at he
      cases hr : rawU C A f args AH.empty with
      | none => rw [hr] at he; cases he
      | some p =>
        rw [hr] at he
        apply pc_of
        unfold pureA
        rw [hs]
        dsimp only
        rw [rawU_sim S hr]
        exact he
end
theorem iter_sim {st : StT → RunT} {s : St → Option (Ex × St)} (H : Sim st s) : ∀ n, Sim (iterT n st) (iter s n)
  | 0 => fun t fr h R e t' h' he => by
    have he : none = some (e, t', h') := he
    cases he
  | n + 1 => fun t fr h R e t' h' he => by
    have he : (match st (t, h) with | some (.normal, s') => iterT n st s' | r => r) = some (e, t', h') := he
    unfold iter
    cases ha : st (t, h) with
    | none => rw [ha] at he; cases he
    | some p =>
      obtain ⟨ea, ta, h1⟩ := p
      rw [ha] at he
      obtain ⟨fra, k1, k2⟩ := H t fr h R _ _ _ ha
      rw [k1]
      cases ea with
      | normal => exact iter_sim H n ta fra h1 k2 e t' h' he
      | exit id => cases he; exact ⟨fra, rfl, k2⟩
      | ret => cases he; exact ⟨fra, rfl, k2⟩
theorem orc_sim {C : Cfg} {K : Know} (hK : KnowOk C K) : ∀ n, SimO (orcT C K n) (lim C)
  | 0 => ⟨fun _ _ _ h => (nomatch (show none = some _ from h)), fun _ _ _ _ h => (nomatch (show none = some _ from h)), fun _ _ _ => fun t fr h R e t' h' he => nomatch (show none = some _ from he)⟩
  | n + 1 => ⟨fun _ _ _ h => pure_sim hK (orc_sim hK n) h, fun _ _ _ _ h => raw_sim hK (orc_sim hK n) h, fun _ _ H => fun t fr h R e t' h' he => by
      obtain ⟨fr', h1, h2⟩ := iter_sim H (n + 1) t fr h R e t' h' he
      exact ⟨fr', iter_lp h1, h2⟩⟩
theorem pc_told {C : Cfg} {K : Know} (hK : KnowOk C K) (n : Nat) {f : FuncId} {args : List AV} {r : AV} (h : (orcT C K n).pure f args = some r) : pc C f args = some r := (orc_sim hK n).pure f args r h
structure Told where
  f : FuncId
  args : List AV
  r : AV
def toldP (l : List Told) (g : FuncId → List AV → Option AV) (f : FuncId) (args : List AV) : Option AV :=
  match l.find? fun x => Nat.beq x.f f && eqAVs x.args args with
  | some x => some x.r
  | none => g f args
def knowL (l : List Told) (g : FuncId → List AV → Option AV) : Know := ⟨toldP l g, fun _ _ _ => none⟩
theorem knowL_ok {C : Cfg} {l : List Told} {g : FuncId → List AV → Option AV} (h : ∀ x ∈ l, pc C x.f x.args = some x.r) (hg : ∀ f args r, g f args = some r → pc C f args = some r) : KnowOk C (knowL l g) := by
  refine ⟨fun f args r he => ?_, fun _ _ _ _ he => by cases he⟩
  have he : toldP l g f args = some r := he
  unfold toldP at he
  split at he
  · rename_i x hx
    cases he
    have h1 := List.find?_some hx
    have h2 := List.mem_of_find?_eq_some hx
    rw [Bool.and_eq_true] at h1
    have e1 := Nat.eq_of_beq_eq_true h1.1
    have e2 := eqAVs_eq h1.2
    rw [← e1, ← e2]
    exact h x h2
  · exact hg f args r he
end Go.Abs
namespace Go.Abs.Q
open Go.Proofs
def I (n : Int) : AV := .int .i64 n
def S (l : List Nat) : AV := .str ⟨(l.map UInt8.ofNat).toArray⟩
mutual
def tmOf : AV → Option Tm
  | .agg [.int .i64 k, .str n, .int .i64 s, .vs f z xs] => if z = 4 ∨ (z = 0 ∧ xs.isEmpty = true) then (match tmsOf xs with | some l => some (.mk k n s (f, decide (z = 4)) l) | none => none) else none
  | _ => none
def tmsOf : List AV → Option (List Tm)
  | [] => some []
  | x :: xs => match tmOf x, tmsOf xs with | some t, some l => some (t :: l) | _, _ => none
end
mutual
theorem tmOf_ok : ∀ {a : AV} {t : Tm}, tmOf a = some t → tmV t = a
  | .agg [.int .i64 k, .str n, .int .i64 s, .vs f z xs], t, h => by
    simp only [tmOf] at h
    split at h
    · rename_i hz
      split at h
      · rename_i l hl
        cases h
        have := tmsOf_ok hl
        simp only [tmV, this, sl]
        rcases hz with rfl | ⟨rfl, hx⟩
        · simp
        · simp [hx]
      · cases h
    · cases h
theorem tmsOf_ok : ∀ {xs : List AV} {l : List Tm}, tmsOf xs = some l → tmVs l = xs
  | [], l, h => by
    simp only [tmsOf] at h
    cases h
    simp [tmVs]
  | x :: xs, l, h => by
    simp only [tmsOf] at h
    split at h
    · rename_i t l' h1 h2
      cases h
      simp only [tmVs, tmOf_ok h1, tmsOf_ok h2]
    · cases h
end
def cmpK (f : FuncId) (args : List AV) : Option AV :=
  if f = n_term_Compare then
    match args with
    | [a, b] =>
      match tmOf a, tmOf b with
      | some t, some t' => if t.size ≤ 1099511627776 ∧ t'.size ≤ 1099511627776 then some (.int .i64 (cmpT t t')) else none
      | _, _ => none
    | _ => none
  else none
theorem cmpK_ok (f : FuncId) (args : List AV) (r : AV) (h : cmpK f args = some r) : pc Q f args = some r := by
  unfold cmpK at h
  split at h
  · rename_i hf
    subst hf
    split at h
    · rename_i a b
      split at h
      · rename_i t t' h1 h2
        split at h
        · rename_i hs
          cases h
          rw [← tmOf_ok h1, ← tmOf_ok h2]
          exact pc_Compare t.size t t' (Nat.le_refl _) hs.1 hs.2
        · cases h
      · cases h
    · cases h
  · cases h
end Go.Abs.Q
set_option maxRecDepth 100000
namespace Go.Abs.Q
open Go.Proofs
abbrev vaT (b : ByteArray) (s : Int) : Tm := .mk 1 b s (true, false) []
abbrev atT (b : ByteArray) (s : Int) : Tm := .mk 2 b s (true, false) []
abbrev apT (m : Bool × Bool) (b : ByteArray) (l : List Tm) : Tm := .mk 3 b 0 m l
def vaX : Tm := vaT (bs [120]) 0
def vaY : Tm := vaT (bs [121]) 0
def vaW : Tm := vaT (bs [120]) 1
theorem know0 : KnowOk Q (knowL [] cmpK) := knowL_ok (by intro x hx; cases hx) cmpK_ok
theorem pa_x : pc Q n_ref47_parse [.str (bs [63, 120])] = some (tmV (vaX)) := pc_told know0 3000 (by kernel_rfl)
theorem pa_y : pc Q n_ref47_parse [.str (bs [63, 121])] = some (tmV (vaY)) := pc_told know0 3000 (by kernel_rfl)
theorem pa_pair : pc Q n_ref47_parse [.str (bs [112, 97, 105, 114, 40, 63, 120, 44, 32, 63, 121, 41])] = some (tmV (apT (false, false) (bs [112, 97, 105, 114]) [vaX, vaY])) := pc_told know0 3000 (by kernel_rfl)
theorem pa_enc : pc Q n_ref47_parse [.str (bs [101, 110, 99, 40, 63, 120, 44, 32, 63, 121, 41])] = some (tmV (apT (false, false) (bs [101, 110, 99]) [vaX, vaY])) := pc_told know0 3000 (by kernel_rfl)
theorem pa_aenc : pc Q n_ref47_parse [.str (bs [97, 101, 110, 99, 40, 63, 120, 44, 32, 63, 121, 41])] = some (tmV (apT (false, false) (bs [97, 101, 110, 99]) [vaX, vaY])) := pc_told know0 3000 (by kernel_rfl)
theorem pa_pk : pc Q n_ref47_parse [.str (bs [112, 107, 40, 63, 120, 41])] = some (tmV (apT (false, false) (bs [112, 107]) [vaX])) := pc_told know0 3000 (by kernel_rfl)
theorem pa_sign : pc Q n_ref47_parse [.str (bs [115, 105, 103, 110, 40, 63, 120, 44, 32, 63, 121, 41])] = some (tmV (apT (false, false) (bs [115, 105, 103, 110]) [vaX, vaY])) := pc_told know0 3000 (by kernel_rfl)
theorem pa_hash : pc Q n_ref47_parse [.str (bs [104, 97, 115, 104, 40, 63, 120, 41])] = some (tmV (apT (false, false) (bs [104, 97, 115, 104]) [vaX])) := pc_told know0 3000 (by kernel_rfl)
theorem pa_apk : pc Q n_ref47_parse [.str (bs [97, 101, 110, 99, 40, 63, 120, 44, 32, 112, 107, 40, 63, 121, 41, 41])] = some (tmV (apT (false, false) (bs [97, 101, 110, 99]) [vaX, apT (false, false) (bs [112, 107]) [vaY]])) := pc_told know0 3000 (by kernel_rfl)
theorem pa_who : pc Q n_ref47_parse [.str (bs [63, 120, 58, 97, 103, 101, 110, 116])] = some (tmV (vaW)) := pc_told know0 3000 (by kernel_rfl)
theorem pa_tag : pc Q n_ref47_parse [.str (bs [63, 120, 58, 116, 97, 103])] = some (tmV (vaT (bs [120]) 5)) := pc_told know0 3000 (by kernel_rfl)
theorem pa_g : pc Q n_ref47_parse [.str (bs [103, 58, 100, 97, 116, 97])] = some (tmV (atT (bs [103]) 4)) := pc_told know0 3000 (by kernel_rfl)
theorem pa_own : pc Q n_ref47_parse [.str (bs [110, 101, 119, 40, 111, 119, 110, 58, 97, 110, 121, 44, 32, 63, 120, 41])] = some (tmV (apT (false, false) (bs [110, 101, 119]) [atT (bs [111, 119, 110]) 0, vaX])) := pc_told know0 3000 (by kernel_rfl)
theorem pa_psk : pc Q n_ref47_parse [.str (bs [112, 107, 40, 115, 107, 40, 63, 120, 58, 97, 103, 101, 110, 116, 41, 41])] = some (tmV (apT (false, false) (bs [112, 107]) [apT (false, false) (bs [115, 107]) [vaW]])) := pc_told know0 3000 (by kernel_rfl)
end Go.Abs.Q
namespace Go.Abs.Q
open Go.Proofs
attribute [local simp] look_set_ne look_set_eq fin tupled code_loop toL_iff buildParts fillParts splice sliceParts
def cE (l : List Tm) (t : Tm) : Cl := ⟨(false, false), l.map fun u => erF (attF u), erF (attF t)⟩
theorem erC_att (m : Bool × Bool) (l : List Tm) (t : Tm) : erC ⟨m, l.map attF, attF t⟩ = cE l t := by
  simp [erC, cE]
theorem pc_fromC (t : Tm) (m : Bool × Bool) (l : List Tm) (hlen : l.length ≤ 1048576) : ∃ c, pc Q n_translate_from [tmV t, sl m 4 (tmVs l)] = some (clV c) ∧ erC c = cE l t := by
  obtain ⟨m', h⟩ := pc_from t m l hlen
  exact ⟨_, h, erC_att m' l t⟩
theorem app_cls {f : FuncId} (hm : mutF f = false) (C : List Cl) (D : List Cl) (w : AV) (h : AH) (hg : Lsa false 4 (C.map clV) w h) (hC : C.length + D.length ≤ 1099511627776) :
    ∃ w' F', (∀ m, appendA (ctxF f) h 4 64 w (sl m 4 (D.map clV)) = some (w', ⟨h.boxes, F'⟩)) ∧ Lsa false 4 ((C ++ D).map clV) w' ⟨h.boxes, F'⟩ := by
  have hr : ((C.map clV).length + (D.map clV).length) * 64 ≤ roomA ∧ (C.map clV).length + (D.map clV).length ≤ maxLen := by
    simp only [roomA, maxLen, List.length_map]
    omega
  have hm' : (ctxF f).mutApp = false := hm
  obtain ⟨w', F', q1, q2⟩ := Lsa_app (c := ctxF f) (sz := 4) (bytes := 64) (h := h) (x := sl (true, true) 4 (D.map clV)) (by rw [hm']; exact hg) (elems_sl _ _ _ _) hr
  refine ⟨w', F', fun m => ?_, by rw [hm', ← List.map_append] at q2; exact q2⟩
  rw [← q1]
  unfold appendA
  rw [elems_sl, elems_sl]
theorem Lsa_appB {c : Ctx} {sz bytes : Nat} {xs ys : List AV} {v : AV} {h : AH} (hg : Lsa c.mutApp sz xs v h) (hb : (xs.length + ys.length) * bytes ≤ roomA ∧ xs.length + ys.length ≤ maxLen) :
    ∃ v' F', (∀ (B : List (List AV)) m, appendA c ⟨B, h.fams⟩ sz bytes v (sl m sz ys) = some (v', ⟨B, F'⟩)) ∧ ∀ B, Lsa c.mutApp sz (xs ++ ys) v' ⟨B, F'⟩ := by
  rcases hg with ⟨b, rfl⟩ | ⟨hne, k, rfl, hk⟩
  · by_cases hy : ys.length = 0
    · have : ys = [] := List.eq_nil_of_length_eq_zero hy
      subst this
      refine ⟨_, h.fams, fun B m => ?_, fun B => .inl ⟨b, rfl⟩⟩
      simp only [appendA, elems_sl]
      simp only [sl, appendY]
      simp
    · have hc : ((if (xs.isEmpty && !b) = true then 0 else sz) = sz ∨ xs.length = 0) ∧ (xs.length + ys.length) * bytes ≤ roomA ∧ xs.length + ys.length ≤ maxLen := by
        refine ⟨?_, hb⟩
        cases xs with
        | nil => exact .inr rfl
        | cons a l => exact .inl rfl
      refine ⟨.sl h.fams.length (xs.length + ys.length) 0 (xs.length + ys.length), h.fams ++ [⟨xs ++ ys, sz, c.mutApp⟩], fun B m => ?_, fun B => .inr ⟨by intro e; rw [List.append_eq_nil_iff] at e; rw [e.2] at hy; exact hy rfl, h.fams.length, by rw [List.length_append], by simp⟩⟩
      simp only [appendA, elems_sl]
      simp only [sl, appendY]
      rw [if_neg hy, if_pos hc]
  · have hlt := (List.getElem?_eq_some_iff.1 hk).1
    refine ⟨.sl k (xs.length + ys.length) 0 (xs.length + ys.length), h.fams.set k ⟨xs ++ ys, sz, c.mutApp⟩, fun B m => ?_, fun B => .inr ⟨fun e => hne (List.append_eq_nil_iff.1 e).1, k, by rw [List.length_append], by simp [hlt]⟩⟩
    simp only [appendA, elems_sl, appendY, hk]
    rw [if_pos ⟨trivial, trivial, by omega, hb.1, hb.2⟩]
theorem app_clsB {f : FuncId} (hm : mutF f = false) (C : List Cl) (D : List Cl) (w : AV) (h : AH) (hg : Lsa false 4 (C.map clV) w h) (hC : C.length + D.length ≤ 1099511627776) :
    ∃ w' F', (∀ B m, appendA (ctxF f) ⟨B, h.fams⟩ 4 64 w (sl m 4 (D.map clV)) = some (w', ⟨B, F'⟩)) ∧ ∀ B, Lsa false 4 ((C ++ D).map clV) w' ⟨B, F'⟩ := by
  have hr : ((C.map clV).length + (D.map clV).length) * 64 ≤ roomA ∧ (C.map clV).length + (D.map clV).length ≤ maxLen := by
    simp only [roomA, maxLen, List.length_map]
    omega
  have hm' : (ctxF f).mutApp = false := hm
  obtain ⟨w', F', q1, q2⟩ := Lsa_appB (c := ctxF f) (sz := 4) (bytes := 64) (h := h) (by rw [hm']; exact hg) hr
  exact ⟨w', F', q1, fun B => by have := q2 B; rw [hm', ← List.map_append] at this; exact this⟩
theorem loop_env2 (m : Bool × Bool) (l : List Tm) (hlen : l.length ≤ 1000) (hk : ∀ t ∈ l, t.kids.length ≤ 1000) (b0 b1 b2 b3 : List AV) (C0 : List Cl) (hC : C0.length ≤ 1048576) (fr : Fr) (h : AH) (B0 : List (List AV)) (hbx : h.boxes = b0 :: b1 :: b2 :: b3 :: B0) (hg0 : Lsa false 4 (C0.map clV) (look fr 8) h) (hl : fr.length = 153) (h47 : look fr 47 = sl m 4 (tmVs l)) (h48 : look fr 48 = .int .i64 l.length) (h49 : look fr 49 = .int .i64 0) :
    Ends (lp (evalCode (lim Q) (ctxF n_translate_Environment) x_translate_Environment_2) (fr, h)) fun e fr' h' => Kp x_translate_Environment_2.wr fr fr' ∧ e = .exit 0 ∧ ∃ (B : List (List AV)) (C : List Cl), h'.boxes = b0 :: b1 :: b2 :: b3 :: B ∧ Lsa false 4 ((C0 ++ C).map clV) (look fr' 8) h' ∧ C.map erC = l.map fun t => cE t.kids t := by
  refine Ends_lpw rfl fr (fun n fr h' => ∃ (i : Nat), i + n = l.length ∧ look fr 49 = .int .i64 (i : Nat) ∧ (∃ (B : List (List AV)) (C : List Cl), h'.boxes = b0 :: b1 :: b2 :: b3 :: B ∧ Lsa false 4 ((C0 ++ C).map clV) (look fr 8) h' ∧ C.map erC = (l.take i).map fun t => cE t.kids t)) ?_ l.length h ⟨0, by omega, h49, ⟨B0, [], hbx, by simpa using hg0, rfl⟩⟩
  rintro J Φ hJ hΦ n fr1 H1 K ⟨i, hi, k49, hr⟩
  have hl1 : fr1.length = 153 := K.1.trans hl
  have k47 := (K.2 47 (by decide)).trans h47
  have k48 := (K.2 48 (by decide)).trans h48
  clear K
  by_cases hlt : i < l.length
  · have hwp : IntKind.i64.wrap ((i : Int) + 1) = (i : Int) + 1 := wrap_id (by omega) (by omega)
    obtain ⟨B, C, hB, hg, hC1⟩ := hr
    obtain ⟨bx, F⟩ := H1
    simp only at hB
    subst hB
    have hx : nth (tmVs l) i = some (tmV l[i]) := nth_tmVs (by simp [hlt])
    obtain ⟨c, hA, hc⟩ := pc_fromC l[i] l[i].cm l[i].kids (by have := hk _ (List.getElem_mem hlt); omega)
    have hCl : C.length = i := by
      have := congrArg List.length hC1
      simpa [Nat.min_eq_left (Nat.le_of_lt hlt)] using this
    obtain ⟨w', F', q1, q2⟩ := app_cls (f := n_translate_Environment) rfl (C0 ++ C) [c] (look fr1 8) ⟨b0 :: b1 :: b2 :: b3 :: (B ++ [(tmV l[i]).cells]), F⟩ (Lsa_fams hg rfl) (by simp only [List.length_append, List.length_cons, List.length_nil]; omega)
    have e2 : (C ++ [c]).map erC = (l.take (i + 1)).map fun t => cE t.kids t := by
      rw [List.take_succ_eq_append_getElem hlt, List.map_append, hC1, List.map_append, List.map_cons, List.map_nil, List.map_cons, List.map_nil, hc]
    obtain ⟨c1, c2, c3, c4⟩ := Lsa_cells hg
    rw [List.append_assoc] at q2
    simp only [List.map_cons, List.map_nil] at q1
    generalize l[i] = t at *
    simp only [tm_cells] at q1
    generalize hw8 : look fr1 8 = w8 at *
    simp [x_translate_Environment_2, hl1, k47, k48, k49, hlt, hwp, hx, hA, hw8, c1, c2, c3, c4, q1]
    exact ⟨n - 1, by omega, hJ _ _ _ ⟨i + 1, by omega, by simp [hl1], _, C ++ [c], rfl, by simpa [hl1] using q2, e2⟩⟩
  · obtain ⟨B, C, hB, hg, hC1⟩ := hr
    rw [List.take_of_length_le (by omega)] at hC1
    simp [x_translate_Environment_2, hl1, k47, k48, k49, hlt]
    exact hΦ _ _ _ ⟨rfl, B, C, hB, by simpa [hl1] using hg, hC1⟩
theorem loop_env1 (m : Bool × Bool) (l : List Tm) (hlen : l.length ≤ 1000) (b0 b1 b2 b3 : List AV) (C0 : List Cl) (hC : C0.length ≤ 1048576) (fr : Fr) (h : AH) (B0 : List (List AV)) (hbx : h.boxes = b0 :: b1 :: b2 :: b3 :: B0) (hg0 : Lsa false 4 (C0.map clV) (look fr 8) h) (hl : fr.length = 153) (h113 : look fr 113 = sl m 4 (tmVs l)) (h114 : look fr 114 = .int .i64 l.length) (h115 : look fr 115 = .int .i64 0) :
    Ends (lp (evalCode (lim Q) (ctxF n_translate_Environment) x_translate_Environment_1) (fr, h)) fun e fr' h' => Kp x_translate_Environment_1.wr fr fr' ∧ e = .exit 2 ∧ ∃ (B : List (List AV)) (C : List Cl), h'.boxes = b0 :: b1 :: b2 :: b3 :: B ∧ Lsa false 4 ((C0 ++ C).map clV) (look fr' 8) h' ∧ C.map erC = l.map fun t => cE [] t := by
  refine Ends_lpw rfl fr (fun n fr h' => ∃ (i : Nat), i + n = l.length ∧ look fr 115 = .int .i64 (i : Nat) ∧ (∃ (B : List (List AV)) (C : List Cl), h'.boxes = b0 :: b1 :: b2 :: b3 :: B ∧ Lsa false 4 ((C0 ++ C).map clV) (look fr 8) h' ∧ C.map erC = (l.take i).map fun t => cE [] t)) ?_ l.length h ⟨0, by omega, h115, ⟨B0, [], hbx, by simpa using hg0, rfl⟩⟩
  rintro J Φ hJ hΦ n fr1 H1 K ⟨i, hi, k115, hr⟩
  have hl1 : fr1.length = 153 := K.1.trans hl
  have k113 := (K.2 113 (by decide)).trans h113
  have k114 := (K.2 114 (by decide)).trans h114
  clear K
  by_cases hlt : i < l.length
  · have hwp : IntKind.i64.wrap ((i : Int) + 1) = (i : Int) + 1 := wrap_id (by omega) (by omega)
    obtain ⟨B, C, hB, hg, hC1⟩ := hr
    obtain ⟨bx, F⟩ := H1
    simp only at hB
    subst hB
    have hx : nth (tmVs l) i = some (tmV l[i]) := nth_tmVs (by simp [hlt])
    obtain ⟨c, hA, hc⟩ := pc_fromC l[i] (true, false) [] (by simp)
    have hA : pc Q n_translate_from [tmV l[i], sl (true, false) 1 []] = some (clV c) := hA
    have hCl : C.length = i := by
      have := congrArg List.length hC1
      simpa [Nat.min_eq_left (Nat.le_of_lt hlt)] using this
    obtain ⟨w', F', q1, q2⟩ := app_cls (f := n_translate_Environment) rfl (C0 ++ C) [c] (look fr1 8) ⟨b0 :: b1 :: b2 :: b3 :: (B ++ [(tmV l[i]).cells]), F⟩ (Lsa_fams hg rfl) (by simp only [List.length_append, List.length_cons, List.length_nil]; omega)
    have e2 : (C ++ [c]).map erC = (l.take (i + 1)).map fun t => cE [] t := by
      rw [List.take_succ_eq_append_getElem hlt, List.map_append, hC1, List.map_append, List.map_cons, List.map_nil, List.map_cons, List.map_nil, hc]
    obtain ⟨c1, c2, c3, c4⟩ := Lsa_cells hg
    rw [List.append_assoc] at q2
    simp only [List.map_cons, List.map_nil] at q1
    generalize l[i] = t at *
    simp only [tm_cells] at q1
    generalize hw8 : look fr1 8 = w8 at *
    simp [x_translate_Environment_1, hl1, k113, k114, k115, hlt, hwp, hx, hA, hw8, c1, c2, c3, c4, q1]
    exact ⟨n - 1, by omega, hJ _ _ _ ⟨i + 1, by omega, by simp [hl1], _, C ++ [c], rfl, by simpa [hl1] using q2, e2⟩⟩
  · obtain ⟨B, C, hB, hg, hC1⟩ := hr
    rw [List.take_of_length_le (by omega)] at hC1
    simp [x_translate_Environment_1, hl1, k113, k114, k115, hlt]
    exact hΦ _ _ _ ⟨rfl, B, C, hB, by simpa [hl1] using hg, hC1⟩
def badC (W : Tm) (b : ByteArray) : List Cl := [cE [] (apT (true, true) (bs [115, 107]) [atT b 1]), cE [] (apT (true, true) (bs [115, 104, 107]) [atT b 1, W]), cE [] (apT (true, true) (bs [115, 104, 107]) [W, atT b 1])]
theorem loop_env0 (m : Bool × Bool) (l : List ByteArray) (hlen : l.length ≤ 8388608) (b0 b1 b2 : List AV) (W : Tm) (C0 : List Cl) (hC : C0.length ≤ 1000) (fr : Fr) (h : AH) (B0 : List (List AV)) (hbx : h.boxes = b0 :: b1 :: b2 :: (tmV W).cells :: B0) (hg0 : Lsa false 4 (C0.map clV) (look fr 8) h) (hl : fr.length = 153) (h7 : look fr 7 = .ptr 3 0) (h126 : look fr 126 = sl m 1 (l.map .str)) (h127 : look fr 127 = .int .i64 l.length) (h128 : look fr 128 = .int .i64 0) :
    Ends (lp (evalCode (lim Q) (ctxF n_translate_Environment) x_translate_Environment_0) (fr, h)) fun e fr' h' => Kp x_translate_Environment_0.wr fr fr' ∧ e = .exit 4 ∧ ∃ (B : List (List AV)) (C : List Cl), Lsa false 4 ((C0 ++ C).map clV) (look fr' 8) h' ∧ C.map erC = l.flatMap (badC W) := by
  refine Ends_lpw rfl fr (fun n fr h' => ∃ (i : Nat), i + n = l.length ∧ look fr 128 = .int .i64 (i : Nat) ∧ (∃ (B : List (List AV)) (C : List Cl), h'.boxes = b0 :: b1 :: b2 :: (tmV W).cells :: B ∧ Lsa false 4 ((C0 ++ C).map clV) (look fr 8) h' ∧ C.map erC = (l.take i).flatMap (badC W) ∧ C.length = 3 * i)) ?_ l.length h ⟨0, by omega, h128, ⟨B0, [], hbx, by simpa using hg0, by simp, rfl⟩⟩
  rintro J Φ hJ hΦ n fr1 H1 K ⟨i, hi, k128, hr⟩
  have hl1 : fr1.length = 153 := K.1.trans hl
  have k7 := (K.2 7 (by decide)).trans h7
  have k126 := (K.2 126 (by decide)).trans h126
  have k127 := (K.2 127 (by decide)).trans h127
  clear K
  by_cases hlt : i < l.length
  · have hwp : IntKind.i64.wrap ((i : Int) + 1) = (i : Int) + 1 := wrap_id (by omega) (by omega)
    obtain ⟨B, C, hB, hg, hC1, hC2⟩ := hr
    obtain ⟨bx, F⟩ := H1
    simp only at hB
    subst hB
    have hx := nth_map (f := AV.str) (List.getElem?_eq_getElem hlt)
    obtain ⟨A, hAe⟩ : ∃ A, A = atT l[i] 1 := ⟨_, rfl⟩
    have hA : pc Q n_translate_atom [.str l[i], .int .i64 1] = some (tmV A) := by rw [hAe]; exact pc_atom _ _
    have h1 : pc Q n_translate_app [.str (bs [115, 107]), sl (true, true) 4 [tmV A]] = some (tmV (apT (true, true) (bs [115, 107]) [A])) := pc_app _ _ [A]
    have h2 : pc Q n_translate_app [.str (bs [115, 104, 107]), sl (true, true) 4 [tmV A, tmV W]] = some (tmV (apT (true, true) (bs [115, 104, 107]) [A, W])) := pc_app _ _ [A, W]
    have h3 : pc Q n_translate_app [.str (bs [115, 104, 107]), sl (true, true) 4 [tmV W, tmV A]] = some (tmV (apT (true, true) (bs [115, 104, 107]) [W, A])) := pc_app _ _ [W, A]
    obtain ⟨d1, f1, g1⟩ := pc_fromC (apT (true, true) (bs [115, 107]) [A]) (true, false) [] (by simp)
    obtain ⟨d2, f2, g2⟩ := pc_fromC (apT (true, true) (bs [115, 104, 107]) [A, W]) (true, false) [] (by simp)
    obtain ⟨d3, f3, g3⟩ := pc_fromC (apT (true, true) (bs [115, 104, 107]) [W, A]) (true, false) [] (by simp)
    have e2 : (C ++ [d1, d2, d3]).map erC = (l.take (i + 1)).flatMap (badC W) := by
      rw [List.take_succ_eq_append_getElem hlt, List.flatMap_append, List.map_append, hC1, List.flatMap_singleton]
      simp only [List.map_cons, List.map_nil, g1, g2, g3, badC, hAe]
    obtain ⟨w', F', q1, q2⟩ := app_cls (f := n_translate_Environment) rfl (C0 ++ C) [d1, d2, d3] (look fr1 8) ⟨b0 :: b1 :: b2 :: (tmV W).cells :: (B ++ [(tmV A).cells]), F⟩ (Lsa_fams hg rfl) (by simp only [List.length_append, List.length_cons, List.length_nil]; omega)
    obtain ⟨c1, c2, c3, c4⟩ := Lsa_cells hg
    rw [List.append_assoc] at q2
    simp only [List.map_cons, List.map_nil] at q1
    have f1 : pc Q n_translate_from [tmV (apT (true, true) (bs [115, 107]) [A]), sl (true, false) 1 []] = some (clV d1) := f1
    have f2 : pc Q n_translate_from [tmV (apT (true, true) (bs [115, 104, 107]) [A, W]), sl (true, false) 1 []] = some (clV d2) := f2
    have f3 : pc Q n_translate_from [tmV (apT (true, true) (bs [115, 104, 107]) [W, A]), sl (true, false) 1 []] = some (clV d3) := f3
    clear g1 g2 g3 hAe
    generalize apT (true, true) (bs [115, 107]) [A] = S1 at *
    generalize apT (true, true) (bs [115, 104, 107]) [A, W] = S2 at *
    generalize apT (true, true) (bs [115, 104, 107]) [W, A] = S3 at *
    generalize l[i] = b at *
    simp only [tm_cells] at q1
    generalize hw8 : look fr1 8 = w8 at *
    simp [x_translate_Environment_0, hl1, k7, k126, k127, k128, hlt, hwp, hx, hA, h1, h2, h3, f1, f2, f3, hw8, c1, c2, c3, c4, q1]
    exact ⟨n - 1, by omega, hJ _ _ _ ⟨i + 1, by omega, by simp [hl1], B ++ [(tmV A).cells], C ++ [d1, d2, d3], by simp, by simpa [hl1] using q2, e2, by simp; omega⟩⟩
  · obtain ⟨B, C, hB, hg, hC1, hC2⟩ := hr
    rw [List.take_of_length_le (by omega)] at hC1
    simp [x_translate_Environment_0, hl1, k7, k126, k127, k128, hlt]
    exact hΦ _ _ _ ⟨rfl, B, C, by simpa [hl1] using hg, hC1⟩
end Go.Abs.Q
