/- How abstract values stand to the model's values and memory. -/
import Derived.WalkKit
/- An abstract interpreter for resolved code: pure immutable slices as lists, boxes and growable rows as an abstract heap, calls by an oracle. Definitions only. -/
namespace Go.Abs

/-- Abstract values. `vs`: an immutable slice (its elements are pure, of sz cells each; `full`: no spare capacity); `sl k n off len`: a view of row k, valid while the row has n elements; `pv`: the address of immutable cells; `ep k n i c`: cell c of element i of row k; `ptr b off`: cell of box b.  `mp b`: a map that may be written to, kept in box b, which holds `mbox`; `vm`: a map that stays. -/
inductive AV where
  | junk
  | bool (b : Bool)
  | int (k : IntKind) (n : Int)
  | str (s : ByteArray)
  | agg (cs : List AV)
  | tup (vs : List AV)
  | vs (full : Bool) (sz : Nat) (xs : List AV)
  | sl (k n off len : Nat)
  | pv (cs : List AV)
  | ep (k n i c sz : Nat)
  | ptr (b off : Nat)
  | nilp
  | fn (f : FuncId) (caps : List AV)
  | nilf
  | mp (b : Nat)
  | vm (ks vs : List AV)
  | nilm
  | mbox (ks vs : List AV)
  | rbox (cs : List AV)
  deriving Inhabited

def AV.cells : AV → List AV
  | .agg cs => cs
  | v => [v]

def undefA : AV := .tup []

/-- A value of several results, or none. -/
def AV.isTup : AV → Bool
  | .tup _ => true
  | _ => false

structure Fam where
  xs : List AV
  sz : Nat
  wr : Bool

structure AH where
  boxes : List (List AV)
  fams : List Fam

def AH.empty : AH := ⟨[], []⟩

inductive Opd where
  | t (n : Nat)
  | c (v : AV)

inductive ROp where
  | mov (x : Opd)
  | pick (c a b : Opd)
  | box (x : Opd)
  | mkmap
  | mlook (str ok : Bool) (z : AV) (x k : Opd)
  | mup (str : Bool) (x k v : Opd)
  | alloc (z : AV)
  | build (z : AV) (parts : List (Nat × Nat × Opd))
  | bslice (n : Nat) (z : AV) (parts : List (Nat × Opd))
  | bslicev (n : Nat) (z : AV) (parts : List (Nat × Opd))
  | ld (agg : Bool) (n : Nat) (x : Opd)
  | ldb (agg : Bool) (n : Nat) (x : Opd)
  | st (n : Nat) (a x : Opd)
  | nilck (x : Opd)
  | bin (op : BinOp) (x y : Opd)
  | beq (neg : Bool) (x y : Opd)
  | nileq (neg : Bool) (x : Opd)
  | un (op : UnOp) (x : Opd)
  | conv (k : IntKind) (x : Opd)
  | cstr (x : Opd)
  | bstr (x : Opd)
  | clos (f : FuncId) (caps : List Opd)
  | mkslice (z : AV) (bytes : Nat) (len cap : Opd)
  | slc (sz : Nat) (x : Opd) (lo hi mx : Option Opd)
  | faddr (off : Nat) (x : Opd)
  | fld (agg : Bool) (off n : Nat) (x : Opd)
  | iaddr (sz : Nat) (x i : Opd)
  | iaddrv (sz : Nat) (x i : Opd)
  | idx (x i : Opd)
  | ext (x : Opd) (i : Nat)
  | len (str : Bool) (x : Opd)
  | app (sz bytes : Nat) (s x : Opd)
  | max (x y : Opd)
  | call (f : FuncId) (args : List Opd)
  | callv (x : Opd) (args : List Opd)

structure RO where
  dst : Option Nat
  op : ROp
  guard : Option (Nat × Bool)

inductive RCode where
  | skip
  | region (draw : Bool) (ops : List RO)
  | seq (a b : RCode)
  | cond (c : Opd) (a b : RCode)
  | block (id : Nat) (a : RCode)
  | loop (a : RCode)
  | exit (id : Nat)
  | ret

inductive RRes where
  | tmp (t : Nat)
  | cell (a : Nat) (agg : Bool) (n : Nat)

structure RFunc where
  ntmps : Nat
  results : List RRes
  body : RCode

inductive Ex where
  | normal
  | exit (id : Nat)
  | ret

abbrev Fr := List AV
abbrev St := Fr × AH

/-- What evaluation asks for: calls of pure functions, calls that share the heap, loops. -/
structure Orc where
  pure : FuncId → List AV → Option AV
  raw : FuncId → List AV → AH → Option (AV × AH)
  loop : (St → Option (Ex × St)) → St → Option (Ex × St)

/-- Settings of one function: which callees share the heap; whether rows that its appends begin may be written to. -/
structure Ctx where
  raw : FuncId → Bool
  mutApp : Bool
  rawv : Bool := true
  ro : Bool := false
  noB : FuncId → Bool := fun _ => false

def get (fr : Fr) : Opd → AV
  | .t n => fr.getD n undefA
  | .c v => v

def put (fr : Fr) (dst : Option Nat) (v : AV) : Fr :=
  match dst with
  | some d => fr.set d v
  | none => fr

def ofCells (agg : Bool) (n : Nat) (cs : List AV) : Option AV :=
  match agg with
  | true => if n ≤ cs.length then some (.agg (cs.take n)) else none
  | false => cs.head?

def AV.reform (x : AV) (cs : List AV) : Option AV :=
  match x with
  | .agg _ => some (.agg cs)
  | _ => cs.head?

/-- The elements of a slice that can be read. -/
def elems (h : AH) (sz : Nat) : AV → Option (List AV)
  | .vs _ z xs => if z = sz ∨ xs.length = 0 then some xs else none
  | .sl k n off len =>
    match h.fams[k]? with
    | some f => if f.xs.length = n ∧ f.sz = sz ∧ off + len ≤ n then some ((f.xs.drop off).take len) else none
    | none => none
  | _ => none

/-- A value (of one cell) laid to rest: a view of a row becomes its elements. `am`: views of rows that may be written to are let. -/
def AV.flat : AV → Bool
  | .sl .. | .ep .. | .ptr .. | .agg _ | .tup _ | .mp _ | .mbox .. | .rbox _ => false
  | .fn _ cs => cs.isEmpty
  | _ => true

/-- A value that needs no heap to be laid to rest. -/
def flatA : AV → Bool
  | .agg cs => cs.all AV.flat
  | .tup _ => false
  | x => x.flat

def frz1 (h : AH) (am : Bool) : AV → Option AV
  | .sl k n off len =>
    match h.fams[k]? with
    | some f => if f.xs.length = n ∧ off + len ≤ n ∧ (am || !f.wr) = true then some (.vs false f.sz ((f.xs.drop off).take len)) else none
    | none => none
  | .ep .. => none
  | .ptr .. => none
  | .agg _ => none
  | .tup _ => none
  | .mbox .. => none
  | .rbox _ => none
  | .mp b => match h.boxes[b]? with | some [.mbox ks vs] => if am then some (.vm ks vs) else none | _ => none
  | .fn f caps => if caps.all AV.flat then some (.fn f caps) else none
  | x => some x

def frzL (h : AH) (am : Bool) : List AV → Option (List AV)
  | [] => some []
  | x :: xs => (frz1 h am x).bind fun y => (frzL h am xs).map (y :: ·)

def frz (h : AH) (am : Bool) : AV → Option AV
  | .agg cs => (frzL h am cs).map .agg
  | x => frz1 h am x

def frzAll (h : AH) (am : Bool) : List AV → Option (List AV)
  | [] => some []
  | x :: xs => (frz h am x).bind fun y => (frzAll h am xs).map (y :: ·)

/-- A result laid to rest. -/
def frzRes (h : AH) : AV → Option AV
  | .tup vs => (frzAll h true vs).map .tup
  | x => frz h true x

def AV.scalar1 : AV → Bool
  | .bool _ | .int .. | .str _ | .nilp | .nilf => true
  | _ => false

def AV.scalar0 : AV → Bool
  | .agg cs => cs.all AV.scalar1
  | v => v.scalar1

def AV.scalar : AV → Bool
  | .tup us => us.all AV.scalar0
  | v => v.scalar0

/-- No view of a row that may be written to. -/
def tame1 (h : AH) : AV → Bool
  | .sl k _ _ _ => match h.fams[k]? with | some f => !f.wr | none => false
  | .mp _ => false
  | _ => true

def tame (h : AH) : AV → Bool
  | .agg cs => cs.all (tame1 h)
  | v => tame1 h v

/-- Is a box that of a map, or one that is only read? -/
def isMB : List AV → Bool
  | [.mbox ..] => true
  | [.rbox _] => true
  | _ => false

def loadA (h : AH) (agg : Bool) (n : Nat) : AV → Option AV
  | .pv cs => ofCells agg n cs
  | .ptr b off =>
    match h.boxes[b]? with
    | some cs => if isMB cs then none else ofCells agg n (cs.drop off)
    | none => none
  | .ep k m i c sz =>
    match h.fams[k]? with
    | some f => if f.xs.length = m ∧ f.sz = sz then (match f.xs[i]? with | some x => ofCells agg n (x.cells.drop c) | none => none) else none
    | none => none
  | _ => none

def splice (cs : List AV) (off : Nat) (new : List AV) : List AV := cs.take off ++ new ++ cs.drop (off + new.length)

/-- A store into an element of a row. -/
def storeE (h : AH) (n : Nat) (v : AV) (k m i c sz : Nat) : Option AH :=
  match h.fams[k]? with
  | some f =>
    if f.xs.length = m ∧ f.sz = sz ∧ f.wr = true then
      match f.xs[i]?, frz h false v with
      | some x, some u =>
        if u.cells.length = n ∧ c + n ≤ x.cells.length then
          (x.reform (splice x.cells c u.cells)).map fun y => { h with fams := h.fams.set k { f with xs := f.xs.set i y } }
        else none
      | _, _ => none
    else none
  | none => none

/-- A row that is only read from now on. -/
def rstF (h : AH) : AV → Option AH
  | .sl k _ _ _ =>
    match h.fams[k]? with
    | some f => some { h with fams := h.fams.set k { f with wr := false } }
    | none => none
  | _ => none

/-- The heap in which a value can be laid to rest for good. -/
def layH (h : AH) (v : AV) : Option AH := match frz h false v with | some _ => some h | none => rstF h v

def storeA (h : AH) (n : Nat) (v : AV) : AV → Option AH
  | .ptr b off =>
    match h.boxes[b]? with
    | some cs => if isMB cs = false ∧ v.isTup = false ∧ v.cells.length = n ∧ off + n ≤ cs.length then some { h with boxes := h.boxes.set b (splice cs off v.cells) } else none
    | none => none
  | .ep k m i c sz => match layH h v with | some h1 => storeE h1 n v k m i c sz | none => none
  | _ => none

def evalBin (op : BinOp) : AV → AV → Option AV
  | .int k a, .int k' b =>
    match op with
    | .add => if k = k' then some (.int k (k.wrap (a + b))) else none
    | .sub => if k = k' then some (.int k (k.wrap (a - b))) else none
    | .mul => if k = k' then some (.int k (k.wrap (a * b))) else none
    | .quo => if k = k' ∧ b ≠ 0 then some (.int k (k.wrap (a.tdiv b))) else none
    | .rem => if k = k' ∧ b ≠ 0 then some (.int k (a.tmod b)) else none
    | .eql => if k = k' then some (.bool (a == b)) else none
    | .neq => if k = k' then some (.bool (a != b)) else none
    | .lss => if k = k' then some (.bool (decide (a < b))) else none
    | .leq => if k = k' then some (.bool (decide (a ≤ b))) else none
    | .gtr => if k = k' then some (.bool (decide (a > b))) else none
    | .geq => if k = k' then some (.bool (decide (a ≥ b))) else none
    | .shl => if 0 ≤ b then some (.int k (k.wrap (a * 2 ^ (min b.toNat k.bits)))) else none
    | .shr => if 0 ≤ b then some (.int k (a.fdiv (2 ^ (min b.toNat k.bits)))) else none
    | .and => if k = k' then some (.int k (k.wrap (BitVec.ofInt k.bits a &&& BitVec.ofInt k.bits b).toNat)) else none
    | .or => if k = k' then some (.int k (k.wrap (BitVec.ofInt k.bits a ||| BitVec.ofInt k.bits b).toNat)) else none
    | .xor => if k = k' then some (.int k (k.wrap (BitVec.ofInt k.bits a ^^^ BitVec.ofInt k.bits b).toNat)) else none
    | _ => none
  | .str a, .str b =>
    match op with
    | .add => if ((a.size + b.size : Nat) : Int) > IntKind.i64.max then none else some (.str (a ++ b))
    | .eql => some (.bool (a.toList == b.toList))
    | .neq => some (.bool !(a.toList == b.toList))
    | .lss => some (.bool (Op.bytesLess a.toList b.toList))
    | .leq => some (.bool (Op.bytesLess a.toList b.toList || a.toList == b.toList))
    | .gtr => some (.bool !(Op.bytesLess a.toList b.toList || a.toList == b.toList))
    | .geq => some (.bool !(Op.bytesLess a.toList b.toList))
    | _ => none
  | _, _ => none

def evalUn (op : UnOp) : AV → Option AV
  | .bool b => match op with | .not => some (.bool !b) | _ => none
  | .int k n => match op with | .neg => some (.int k (k.wrap (0 - n))) | _ => none
  | _ => none

def fillParts (cs : List AV) : List (Nat × AV) → List AV
  | [] => cs
  | (off, v) :: rest => fillParts (splice cs off v.cells) rest

/-- The parts of a struct that is built: offset, size, value. -/
def buildParts (fr : Fr) (len : Nat) : List (Nat × Nat × Opd) → Option (List (Nat × AV))
  | [] => some []
  | (off, n, x) :: rest =>
    if (get fr x).isTup = false ∧ (get fr x).cells.length = n ∧ off + n ≤ len then (buildParts fr len rest).map ((off, get fr x) :: ·) else none

def sliceParts (fr : Fr) (h : AH) (xs : List AV) : List (Nat × Opd) → Option (List AV)
  | [] => some xs
  | (i, x) :: rest =>
    match xs[i]?, frz h false (get fr x) with
    | some z, some y => if y.cells.length = z.cells.length then sliceParts fr h (xs.set i y) rest else none
    | _, _ => none

def boundA (fr : Fr) : Option Opd → Option (Option Int)
  | none => some none
  | some x => match get fr x with | .int _ i => some (some i) | _ => none

def sliceA (H : AH) (sz : Nat) (x : AV) (lo hi mx : Option Int) : Option AV :=
  match x with
  | .str s =>
    let l := lo.getD 0
    let h := hi.getD s.size
    if sz = 0 ∧ mx = none ∧ 0 ≤ l ∧ l ≤ h ∧ h ≤ s.size then some (.str (s.extract l.toNat h.toNat)) else none
  | .vs full z xs =>
    let l := lo.getD 0
    let h := hi.getD xs.length
    if 0 < sz ∧ (z = sz ∨ xs.length = 0) then
      match mx with
      | none =>
        if 0 ≤ l ∧ l ≤ h ∧ h ≤ xs.length then some (.vs (full && decide (h = xs.length)) z ((xs.drop l.toNat).take (h - l).toNat)) else none
      | some m =>
        if hi.isSome ∧ 0 ≤ l ∧ l ≤ h ∧ h ≤ m ∧ m ≤ xs.length then some (.vs (decide (m = h)) z ((xs.drop l.toNat).take (h - l).toNat)) else none
    else none
  | .sl k n off len =>
    let l := lo.getD 0
    let h := hi.getD len
    match H.fams[k]? with
    | some f =>
      if 0 < sz ∧ f.sz = sz ∧ f.xs.length = n then
        match mx with
        | none => if 0 ≤ l ∧ l ≤ h ∧ h ≤ len then some (.sl k n (off + l.toNat) (h - l).toNat) else none
        | some m => if hi.isSome ∧ l = 0 ∧ h = 0 ∧ m = 0 then some (.vs true sz []) else none
      else none
    | none => none
  | _ => none

def roomA : Nat := 140737488355328

def appendA (c : Ctx) (h : AH) (sz bytes : Nat) (s x : AV) : Option (AV × AH) :=
  match elems h sz x with
  | none => none
  | some ys =>
    match s with
    | .vs true z xs =>
      if ys.length = 0 then some (.vs true z xs, h)
      else if (z = sz ∨ xs.length = 0) ∧ (xs.length + ys.length) * bytes ≤ roomA ∧ xs.length + ys.length ≤ maxLen then
        some (.sl h.fams.length (xs.length + ys.length) 0 (xs.length + ys.length), { h with fams := h.fams ++ [⟨xs ++ ys, sz, c.mutApp⟩] })
      else none
    | .sl k n off len =>
      match h.fams[k]? with
      | some f =>
        if f.xs.length = n ∧ f.sz = sz ∧ off + len = n ∧ (n + ys.length) * bytes ≤ roomA ∧ n + ys.length ≤ maxLen then
          some (.sl k (n + ys.length) off (len + ys.length), { h with fams := h.fams.set k { f with xs := f.xs ++ ys } })
        else none
      | none => none
    | _ => none

/-- The boxes that a closure holds are only read from now on. -/
def roCaps : AH → List AV → Option (List AV × AH)
  | h, [] => some ([], h)
  | h, .ptr b off :: xs =>
    if off = 0 then
      match h.boxes[b]? with
      | some cs => if isMB cs = false ∧ cs.all AV.flat = true then (roCaps { h with boxes := h.boxes.set b [.rbox cs] } xs).map fun p => (.pv cs :: p.1, p.2) else none
      | none => none
    else none
  | h, x :: xs => (roCaps h xs).map fun p => (x :: p.1, p.2)

/-- Bytes. -/
def bytesOfA : List AV → Option (List Int)
  | [] => some []
  | .int .u8 n :: xs => (bytesOfA xs).map (n :: ·)
  | _ => none
def strOf (ns : List Int) : ByteArray := ⟨(ns.map fun n => UInt8.ofNat n.toNat).toArray⟩
def bstrA (h : AH) (x : AV) : Option (AV × AH) :=
  match elems h 1 x with
  | some ys => (match bytesOfA ys with | some ns => some (.str (strOf ns), h) | none => none)
  | none => none

/-- Are two keys the same? -/
def eqKey (str : Bool) : AV → AV → Option Bool
  | .str a, .str b => if str then some (a == b) else none
  | .int k a, .int k' b => if !str ∧ k = k' then some (a == b) else none
  | _, _ => none

def findK (str : Bool) (k : AV) : List AV → Nat → Option (Option Nat)
  | [], _ => some none
  | x :: xs, i =>
    match eqKey str k x with
    | some true => some (some i)
    | some false => findK str k xs (i + 1)
    | none => none

/-- The entries of a map that can be read. -/
def mapEnts (h : AH) : AV → Option (List AV × List AV)
  | .vm ks vs => some (ks, vs)
  | .mp b => match h.boxes[b]? with | some [.mbox ks vs] => some (ks, vs) | _ => none
  | .nilm => some ([], [])
  | _ => none

def keyOk (str : Bool) : AV → Bool
  | .str _ => str
  | .int .. => !str
  | _ => false

def mlookA (str ok : Bool) (z : AV) (h : AH) (x k : AV) : Option (AV × AH) :=
  if keyOk str k then
    match mapEnts h x with
    | some (ks, vs) =>
      match findK str k ks 0 with
      | some (some i) => match vs[i]? with | some v => some (if ok then .tup [v, .bool true] else v, h) | none => none
      | some none => some (if ok then .tup [z, .bool false] else z, h)
      | none => none
    | none => none
  else none

def mupA (str : Bool) (h : AH) (x k v : AV) : Option (AV × AH) :=
  match x with
  | .mp b =>
    match h.boxes[b]?, frz h false v with
    | some [.mbox ks vs], some u =>
      if keyOk str k ∧ u.isTup = false then
        match findK str k ks 0 with
        | some (some i) => some (undefA, { h with boxes := h.boxes.set b [.mbox ks (vs.set i u)] })
        | some none => some (undefA, { h with boxes := h.boxes.set b [.mbox (ks ++ [k]) (vs ++ [u])] })
        | none => none
      else none
    | _, _ => none
  | _ => none

mutual
/-- Are two values the same? -/
def eqAV : AV → AV → Bool
  | .junk, .junk | .nilp, .nilp | .nilf, .nilf | .nilm, .nilm => true
  | .bool a, .bool b => decide (a = b)
  | .int k n, .int k' n' => decide (k = k' ∧ n = n')
  | .str a, .str b => decide (a = b)
  | .agg a, .agg b | .tup a, .tup b | .pv a, .pv b | .rbox a, .rbox b => eqAVs a b
  | .vs f s a, .vs f' s' b => decide (f = f' ∧ s = s') && eqAVs a b
  | .sl k n o l, .sl k' n' o' l' => decide (k = k' ∧ n = n' ∧ o = o' ∧ l = l')
  | .ep k n i c s, .ep k' n' i' c' s' => decide (k = k' ∧ n = n' ∧ i = i' ∧ c = c' ∧ s = s')
  | .ptr b o, .ptr b' o' => decide (b = b' ∧ o = o')
  | .fn f a, .fn g b => decide (f = g) && eqAVs a b
  | .mp a, .mp b => decide (a = b)
  | .vm a b, .vm a' b' | .mbox a b, .mbox a' b' => eqAVs a a' && eqAVs b b'
  | _, _ => false
def eqAVs : List AV → List AV → Bool
  | [], [] => true
  | x :: xs, y :: ys => eqAV x y && eqAVs xs ys
  | _, _ => false
end
mutual
theorem eqAV_eq : ∀ {x y : AV}, eqAV x y = true → x = y
  | .agg a, .agg b, h => by simp only [eqAV] at h; rw [eqAVs_eq h]
  | .tup a, .tup b, h => by simp only [eqAV] at h; rw [eqAVs_eq h]
  | .pv a, .pv b, h => by simp only [eqAV] at h; rw [eqAVs_eq h]
  | .rbox a, .rbox b, h => by simp only [eqAV] at h; rw [eqAVs_eq h]
  | .vs f s a, .vs f' s' b, h => by simp only [eqAV, Bool.and_eq_true, decide_eq_true_eq] at h; obtain ⟨⟨rfl, rfl⟩, h⟩ := h; rw [eqAVs_eq h]
  | .fn f a, .fn g b, h => by simp only [eqAV, Bool.and_eq_true, decide_eq_true_eq] at h; obtain ⟨rfl, h⟩ := h; rw [eqAVs_eq h]
  | .vm a b, .vm a' b', h => by simp only [eqAV, Bool.and_eq_true] at h; rw [eqAVs_eq h.1, eqAVs_eq h.2]
  | .mbox a b, .mbox a' b', h => by simp only [eqAV, Bool.and_eq_true] at h; rw [eqAVs_eq h.1, eqAVs_eq h.2]
  | .junk, y, h | .nilp, y, h | .nilf, y, h | .nilm, y, h | .bool _, y, h | .int _ _, y, h | .str _, y, h | .sl _ _ _ _, y, h | .ep _ _ _ _ _, y, h | .ptr _ _, y, h | .mp _, y, h => by
    cases y <;> simp_all [eqAV]
theorem eqAVs_eq : ∀ {x y : List AV}, eqAVs x y = true → x = y
  | [], [], _ => rfl
  | x :: xs, y :: ys, h => by simp only [eqAVs, Bool.and_eq_true] at h; rw [eqAV_eq h.1, eqAVs_eq h.2]
end
mutual
theorem eqAV_refl : ∀ x : AV, eqAV x x = true
  | .agg a => eqAVs_refl a
  | .tup a => eqAVs_refl a
  | .pv a => eqAVs_refl a
  | .rbox a => eqAVs_refl a
  | .vs f s a => by simp only [eqAV, eqAVs_refl a]; simp
  | .fn f a => by simp only [eqAV, eqAVs_refl a]; simp
  | .vm a b => by simp only [eqAV, eqAVs_refl a, eqAVs_refl b]; simp
  | .mbox a b => by simp only [eqAV, eqAVs_refl a, eqAVs_refl b]; simp
  | .junk | .nilp | .nilf | .nilm | .bool _ | .int _ _ | .str _ | .sl _ _ _ _ | .ep _ _ _ _ _ | .ptr _ _ | .mp _ => by simp [eqAV]
theorem eqAVs_refl : ∀ x : List AV, eqAVs x x = true
  | [] => rfl
  | x :: xs => by simp only [eqAVs, eqAV_refl x, eqAVs_refl xs]; rfl
end
def eqBoxes : List (List AV) → List (List AV) → Bool
  | [], [] => true
  | x :: xs, y :: ys => eqAVs x y && eqBoxes xs ys
  | _, _ => false
theorem eqBoxes_eq : ∀ {x y : List (List AV)}, eqBoxes x y = true → x = y
  | [], [], _ => rfl
  | x :: xs, y :: ys, h => by simp only [eqBoxes, Bool.and_eq_true] at h; rw [eqAVs_eq h.1, eqBoxes_eq h.2]
theorem eqBoxes_refl : ∀ x : List (List AV), eqBoxes x x = true
  | [] => rfl
  | x :: xs => by simp only [eqBoxes, eqAVs_refl x, eqBoxes_refl xs]; rfl
/-- A call that shares the heap; b: it must leave the boxes as they are. -/
def kpB (b : Bool) (h : AH) (r : Option (AV × AH)) : Option (AV × AH) :=
  if b then (match r with | some (v, h') => if eqBoxes h'.boxes h.boxes then some (v, ⟨h.boxes, h'.fams⟩) else none | none => none) else r
theorem kpB_some {b : Bool} {h : AH} {r : Option (AV × AH)} {x : AV × AH} (he : kpB b h r = some x) : r = some x := by
  unfold kpB at he
  split at he
  · split at he
    · split at he
      · rename_i v h' hq
        cases he
        rw [← eqBoxes_eq hq]
      · cases he
    · cases he
  · exact he
theorem kpB_boxes {h h' : AH} {r : Option (AV × AH)} {v : AV} (he : kpB true h r = some (v, h')) : h'.boxes = h.boxes := by
  unfold kpB at he
  rw [if_pos rfl] at he
  split at he
  · split at he
    · cases he; rfl
    · cases he
  · cases he

def callA (O : Orc) (c : Ctx) (f : FuncId) (args : List AV) (h : AH) : Option (AV × AH) :=
  if c.raw f then kpB (c.noB f) h (O.raw f args h)
  else
    match frzAll h true args with
    | none => none
    | some aas =>
      match O.pure f aas with
      | none => none
      | some r => if r.scalar || args.all (tame h) then some (r, h) else none

def evalOp (O : Orc) (c : Ctx) (o : ROp) (fr : Fr) (h : AH) : Option (AV × AH) :=
  match o with
  | .mov x => some (get fr x, h)
  | .pick q a b => match get fr q with | .bool t => some (if t then get fr a else get fr b, h) | _ => none
  | .box x => if (get fr x).isTup then none else some (.ptr h.boxes.length 0, { h with boxes := h.boxes ++ [(get fr x).cells] })
  | .mkmap => some (.mp h.boxes.length, { h with boxes := h.boxes ++ [[.mbox [] []]] })
  | .mlook str ok z x k => mlookA str ok z h (get fr x) (get fr k)
  | .mup str x k v => mupA str h (get fr x) (get fr k) (get fr v)
  | .alloc z => some (.ptr h.boxes.length 0, { h with boxes := h.boxes ++ [z.cells] })
  | .build z parts => match buildParts fr z.cells.length parts with | some ps => some (.agg (fillParts z.cells ps), h) | none => none
  | .bslice n z parts => match sliceParts fr h (List.replicate n z) parts with | some xs => some (.vs true z.cells.length xs, h) | none => none
  | .bslicev n z parts => if parts.all (fun p => flatA (get fr p.2)) then (match sliceParts fr h (List.replicate n z) parts with | some xs => some (.vs true z.cells.length xs, h) | none => none) else none
  | .ldb agg n x => match get fr x with | .ep .. => none | p => (match loadA h agg n p with | some v => some (v, h) | none => none)
  | .ld agg n x => match loadA h agg n (get fr x) with | some v => some (v, h) | none => none
  | .st n a x => match storeA h n (get fr x) (get fr a) with | some h' => some (undefA, h') | none => none
  | .nilck x => match get fr x with | .pv cs => some (.pv cs, h) | .ptr b o => some (.ptr b o, h) | .ep k n i q s => some (.ep k n i q s, h) | .fn f cs => some (.fn f cs, h) | _ => none
  | .bin op x y => match evalBin op (get fr x) (get fr y) with | some v => some (v, h) | none => none
  | .beq neg x y => match get fr x, get fr y with | .bool a, .bool b => some (.bool (if neg then !(a == b) else a == b), h) | _, _ => none
  | .nileq neg x => match get fr x with | .vs _ z _ => some (.bool (if neg then !(z == 0) else z == 0), h) | _ => none
  | .un op x => match evalUn op (get fr x) with | some v => some (v, h) | none => none
  | .conv k x => match get fr x with | .int _ n => some (.int k (k.wrap n), h) | _ => none
  | .cstr x => match get fr x with | .str s => some (.str s, h) | _ => none
  | .bstr x => bstrA h (get fr x)
  | .clos f caps => if c.ro then (roCaps h (caps.map (get fr))).map fun p => (.fn f p.1, p.2) else some (.fn f (caps.map (get fr)), h)
  | .mkslice z bytes l q =>
    match get fr l, get fr q with
    | .int _ a, .int _ b =>
      if 0 ≤ a ∧ a ≤ b ∧ b * bytes ≤ roomA ∧ b ≤ maxLen then
        some (.sl h.fams.length a.toNat 0 a.toNat, { h with fams := h.fams ++ [⟨List.replicate a.toNat z, z.cells.length, true⟩] })
      else none
    | _, _ => none
  | .slc sz x lo hi mx =>
    match boundA fr lo, boundA fr hi, boundA fr mx with
    | some l, some u, some m => match sliceA h sz (get fr x) l u m with | some v => some (v, h) | none => none
    | _, _, _ => none
  | .faddr off x => match get fr x with | .pv cs => some (.pv (cs.drop off), h) | .ptr b o => some (.ptr b (o + off), h) | .ep k n i q s => some (.ep k n i (q + off) s, h) | _ => none
  | .fld agg off n x => match get fr x with | .agg cs => (match ofCells agg n (cs.drop off) with | some v => some (v, h) | none => none) | _ => none
  | .iaddr sz x i =>
    match get fr x, get fr i with
    | .vs _ z xs, .int _ j => if 0 ≤ j ∧ z = sz then (match xs[j.toNat]? with | some e => some (.pv e.cells, h) | none => none) else none
    | .sl k n off len, .int _ j => if 0 ≤ j ∧ j < len then some (.ep k n (off + j.toNat) 0 sz, h) else none
    | _, _ => none
  | .iaddrv sz x i =>
    match get fr x, get fr i with
    | .vs _ z xs, .int _ j => if 0 ≤ j ∧ z = sz then (match xs[j.toNat]? with | some e => some (.pv e.cells, h) | none => none) else none
    | _, _ => none
  | .idx x i =>
    match get fr x, get fr i with
    | .str s, .int _ j => if 0 ≤ j then (match s[j.toNat]? with | some b => some (.int .u8 b.toNat, h) | none => none) else none
    | _, _ => none
  | .ext x i => match get fr x with | .tup vs => (match vs[i]? with | some v => some (v, h) | none => none) | _ => none
  | .len true x => match get fr x with | .str s => some (.int .i64 s.size, h) | _ => none
  | .len false x =>
    match get fr x with
    | .vs _ _ xs => some (.int .i64 xs.length, h)
    | .sl _ _ _ len => some (.int .i64 len, h)
    | _ => none
  | .app sz bytes s x => appendA c h sz bytes (get fr s) (get fr x)
  | .max x y => match get fr x, get fr y with | .int k a, .int k' b => if k = k' then some (.int k (if b > a then b else a), h) else none | _, _ => none
  | .call f args => callA O c f (args.map (get fr)) h
  | .callv x args => match get fr x with | .fn f caps => if c.raw f && !c.rawv then none else callA O c f (args.map (get fr) ++ caps) h | _ => none

/-- Is an operation to be carried out? (`none`: it can't be told.) -/
def wantedA (fr : Fr) : Option (Nat × Bool) → Option Bool
  | none => some true
  | some (s, want) =>
    match fr.getD s undefA with
    | .bool b => some (b == want)
    | .tup _ => some false
    | _ => none

def evalOps (O : Orc) (c : Ctx) : List RO → Fr → AH → Option (Fr × AH)
  | [], fr, h => some (fr, h)
  | o :: rest, fr, h =>
    match wantedA fr o.guard with
    | some true =>
      match evalOp O c o.op fr h with
      | some (v, h') => evalOps O c rest (put fr o.dst v) h'
      | none => none
    | some false => evalOps O c rest (put fr o.dst undefA) h
    | none => none

def evalCode (O : Orc) (c : Ctx) : RCode → St → Option (Ex × St)
  | .skip, s => some (.normal, s)
  | .region _ ops, s =>
    match evalOps O c ops s.1 s.2 with
    | some s' => some (.normal, s')
    | none => none
  | .seq a b, s =>
    match evalCode O c a s with
    | some (.normal, s') => evalCode O c b s'
    | r => r
  | .cond q a b, s =>
    match get s.1 q with
    | .bool true => evalCode O c a s
    | .bool false => evalCode O c b s
    | _ => none
  | .block id a, s =>
    match evalCode O c a s with
    | some (.exit id', s') => if id' = id then some (.normal, s') else some (.exit id', s')
    | r => r
  | .loop a, s => O.loop (evalCode O c a) s
  | .exit id, s => some (.exit id, s)
  | .ret, s => some (.ret, s)

def resA (fr : Fr) (h : AH) : List RRes → Option (List AV)
  | [] => some []
  | .tmp t :: rest => (resA fr h rest).map (fr.getD t undefA :: ·)
  | .cell a agg n :: rest => (loadA h agg n (fr.getD a undefA)).bind fun v => (resA fr h rest).map (v :: ·)

def tupled : List AV → AV
  | [v] => v
  | vs => .tup vs

/-- What a program's functions are, and their settings. `spec`: functions taken by a contract. -/
structure Cfg where
  code : FuncId → Option RFunc
  ctx : FuncId → Ctx
  spec : FuncId → Option (List AV → Option AV)

def startFr (rf : RFunc) (args : List AV) : Fr := args ++ List.replicate (rf.ntmps - args.length) undefA

def evalBody (O : Orc) (c : Ctx) (rf : RFunc) (args : List AV) (h : AH) : Option (AV × AH) :=
  match evalCode O c rf.body (startFr rf args, h) with
  | some (.normal, s) => (resA s.1 s.2 rf.results).map fun vs => (tupled vs, s.2)
  | some (.ret, s) => (resA s.1 s.2 rf.results).map fun vs => (tupled vs, s.2)
  | _ => none

def rawA (C : Cfg) (O : Orc) (f : FuncId) (args : List AV) (h : AH) : Option (AV × AH) :=
  match C.code f with
  | some rf => evalBody O (C.ctx f) rf args h
  | none => none

def pureA (C : Cfg) (O : Orc) (f : FuncId) (args : List AV) : Option AV :=
  match C.spec f with
  | some s => s args
  | none =>
    match rawA C O f args AH.empty with
    | some (r, h) => frzRes h r
    | none => none

def iter (step : St → Option (Ex × St)) : Nat → St → Option (Ex × St)
  | 0, _ => none
  | n + 1, s =>
    match step s with
    | some (.normal, s') => iter step n s'
    | r => r

def orc (C : Cfg) : Nat → Orc
  | 0 => ⟨fun _ _ => none, fun _ _ _ => none, fun _ _ => none⟩
  | n + 1 => ⟨pureA C (orc C n), rawA C (orc C n), fun step s => iter step (n + 1) s⟩

end Go.Abs

/- The resolved form of a program's functions: types looked up, operands laid out; a statement whose order is open is let only where each pair of operations that could disturb each other is ordered. -/
namespace Go.Abs

def constAV1 : Value → Option AV
  | .bool b => some (.bool b)
  | .int k n => some (.int k n)
  | .string s => some (.str s)
  | .slice none 0 0 => some (.vs true 0 [])
  | .pointer none => some .nilp
  | .map none => some .nilm
  | .nilFunc => some .nilf
  | .func (.func f) a b => if a.size = 0 ∧ b.size = 0 then some (.fn f []) else none
  | _ => none

def mapO {α β : Type} (f : α → Option β) : List α → Option (List β)
  | [] => some []
  | x :: xs => match f x, mapO f xs with | some y, some ys => some (y :: ys) | _, _ => none

def constAV : Value → Option AV
  | .agg cs => (mapO constAV1 cs.toList).map .agg
  | .tuple vs => if vs.size = 0 then some (.tup []) else none
  | v => constAV1 v

def resOpd : Operand → Option Opd
  | .tmp t => some (.t t)
  | .const v => (constAV v).map .c
  | .func f => some (.c (.fn f []))
  | .global _ => none

def resOpt : Option Operand → Option (Option Opd)
  | none => some none
  | some x => (resOpd x).map some

def Program.agg? (P : Program) (t : TypeId) : Option Bool :=
  match P.underlying t with
  | some (.struct _) | some (.array _ _) => some true
  | some _ => some false
  | none => none

def Program.size? (P : Program) (t : TypeId) : Option Nat := (P.info? t).map (·.size)

/-- The zero value, where its number of cells is the type's. -/
def Program.zeroA (P : Program) (t : TypeId) : Option AV :=
  match P.info? t with
  | some i =>
    match i.zero with
    | some z =>
      match constAV z with
      | some x => if z.cells.size = i.size ∧ x.isTup = false then some x else none
      | none => none
    | none => none
  | none => none

def Program.enterable (P : Program) (f : FuncId) : Bool :=
  match P.funcs[f]? with
  | some fn => fn.body.isSome && !(fn.name == "runtime.NumGoroutine")
  | none => false

def resPart (P : Program) (fs : Array Field) (p : Nat × Operand) : Option (Nat × Nat × Opd) :=
  match fs[p.1]?, resOpd p.2 with
  | some f, some x => match Program.size? P f.type with | some n => some (f.offset, n, x) | none => none
  | _, _ => none

def resElem (p : Nat × Operand) : Option (Nat × Opd) := (resOpd p.2).map fun x => (p.1, x)

/-- The keys of a map: strings or numbers? -/
def keyStr (P : Program) (kt : TypeId) : Option Bool :=
  match P.underlying kt with
  | some .string => some true
  | some (.int _) => some false
  | _ => none

def resOp (P : Program) : Op → Option ROp
  | .makeMap t none => match P.underlying t with | some (.map _ _) => some .mkmap | _ => none
  | .lookup t x k ok =>
    match P.underlying t with
    | some (.map kt et) =>
      match keyStr P kt, Program.zeroA P et, resOpd x, resOpd k with
      | some b, some z, some x, some k => some (.mlook b ok z x k)
      | _, _, _, _ => none
    | _ => none
  | .mapUpdate t m k x | .insert t m k x =>
    match P.underlying t with
    | some (.map kt _) =>
      match keyStr P kt, resOpd m, resOpd k, resOpd x with
      | some b, some m, some k, some x => some (.mup b m k x)
      | _, _, _, _ => none
    | _ => none
  | .move x => (resOpd x).map .mov
  | .assign x => (resOpd x).map .mov
  | .pick c a b => match resOpd c, resOpd a, resOpd b with | some c, some a, some b => some (.pick c a b) | _, _, _ => none
  | .alloc t => (Program.zeroA P t).map .alloc
  | .box _ x => (resOpd x).map .box
  | .build t parts =>
    match P.underlying t, Program.zeroA P t with
    | some (.struct fs), some (.agg zs) =>
      if (fs.toList.mapM fun f => (P.info? f.type).map fun i => (f.offset, i.size)).isSome then (mapO (resPart P fs) parts.toList).map (.build (.agg zs)) else none
    | _, _ => none
  | .buildSlice t len parts =>
    match P.underlying t with
    | some (.slice e) =>
      match Program.zeroA P e, Program.size? P e, mapO resElem parts.toList with
      | some z, some n, some ps => if 0 < n ∧ len * n ≤ 2 ^ 24 then some (.bslice len z ps) else none
      | _, _, _ => none
    | _ => none
  | .load t x => match Program.agg? P t, Program.size? P t, resOpd x with | some b, some n, some x => some (.ld b n x) | _, _, _ => none
  | .store t a x => match Program.size? P t, resOpd a, resOpd x with | some n, some a, some x => some (.st n a x) | _, _, _ => none
  | .nilCheck x => (resOpd x).map .nilck
  | .binOp op t x y _ =>
    match resOpd x, resOpd y with
    | some x, some y =>
      match P.underlying t, op with
      | some .bool, .eql => some (.beq false x y)
      | some .bool, .neq => some (.beq true x y)
      | some (.slice _), .eql => match y with | .c (.vs true 0 []) => some (.nileq false x) | _ => none
      | some (.slice _), .neq => match y with | .c (.vs true 0 []) => some (.nileq true x) | _ => none
      | _, _ => some (.bin op x y)
    | _, _ => none
  | .unOp op _ x => (resOpd x).map (.un op)
  | .convert s d x =>
    match P.underlying s, P.underlying d with
    | some (.int _), some (.int k) => (resOpd x).map (.conv k)
    | some .string, some .string => (resOpd x).map .cstr
    | some (.slice e), some .string => match P.underlying e with | some (.int .u8) => (resOpd x).map .bstr | _ => none
    | _, _ => none
  | .makeFunc (.func f) first caps => if first.size = 0 then (mapO resOpd caps.toList).map (.clos f) else none
  | .makeSlice t l c =>
    match P.underlying t with
    | some (.slice e) =>
      match P.info? e, Program.zeroA P e, resOpd l, resOpd c with
      | some i, some z, some l, some c => if 0 < i.size then some (.mkslice z i.bytes l c) else none
      | _, _, _, _ => none
    | _ => none
  | .slice t x lo hi mx =>
    match P.underlying t, resOpd x, resOpt lo, resOpt hi, resOpt mx with
    | some .string, some x, some lo, some hi, some none => some (.slc 0 x lo hi none)
    | some (.slice e), some x, some lo, some hi, some mx => match Program.size? P e with | some n => if 0 < n then some (.slc n x lo hi mx) else none | none => none
    | _, _, _, _, _ => none
  | .fieldAddr s x i =>
    match P.underlying s, resOpd x with
    | some (.struct fs), some x =>
      match fs[i]? with
      | some f => match Program.size? P f.type with | some n => if 0 < n then some (.faddr f.offset x) else none | none => none
      | none => none
    | _, _ => none
  | .field s x i =>
    match P.underlying s, resOpd x with
    | some (.struct fs), some x =>
      match fs[i]? with
      | some f => match Program.agg? P f.type, Program.size? P f.type with | some b, some n => some (.fld b f.offset n x) | _, _ => none
      | none => none
    | _, _ => none
  | .indexAddr t x i =>
    match P.underlying t, resOpd x, resOpd i with
    | some (.slice e), some x, some i => match Program.size? P e with | some n => if 0 < n then some (.iaddr n x i) else none | none => none
    | _, _, _ => none
  | .index t x i => match P.underlying t, resOpd x, resOpd i with | some .string, some x, some i => some (.idx x i) | _, _, _ => none
  | .extract x i => (resOpd x).map fun x => .ext x i
  | .call { callee := .builtin .len, args, argTypes } =>
    match args.toList, argTypes.toList with
    | [x], [t] =>
      match P.underlying t with
      | some .string => (resOpd x).map (.len true)
      | some (.slice _) => (resOpd x).map (.len false)
      | _ => none
    | _, _ => none
  | .call { callee := .builtin .append, args, argTypes } =>
    match args.toList, argTypes.toList with
    | [s, x], [t, u] =>
      match P.underlying t with
      | some (.slice e) =>
        match P.info? e, Program.zeroA P e, resOpd s, resOpd x with
        | some i, some _, some s, some x => if 0 < i.size ∧ t = u then some (.app i.size i.bytes s x) else none
        | _, _, _, _ => none
      | _ => none
    | _, _ => none
  | .call { callee := .builtin .max, args, argTypes := _ } =>
    match args.toList with
    | [x, y] => match resOpd x, resOpd y with | some x, some y => some (.max x y) | _, _ => none
    | _ => none
  | .call { callee := .value (.func f), args, argTypes := _ } => if Program.enterable P f then (mapO resOpd args.toList).map (.call f) else none
  | .call { callee := .value (.tmp t), args, argTypes := _ } => (mapO resOpd args.toList).map (.callv (.t t))
  | _ => none

/-- The slot of the operation that a guard names. -/
def resGuard (ops : List Oper) : Option (Nat × Bool) → Option (Option (Nat × Bool))
  | none => some none
  | some (j, want) =>
    match ops[j]? with
    | some o => match o.dst with | some d => some (some (d, want)) | none => none
    | none => none

def resRO (P : Program) (ops : List Oper) (o : Oper) : Option RO :=
  match resOp P o.op, resGuard ops o.guard with
  | some r, some g => some ⟨o.dst, r, g⟩
  | _, _ => none

/-! ### Which orders matter -/

def Opd.slots : Opd → List Nat
  | .t n => [n]
  | .c _ => []

def optSlots : Option Opd → List Nat
  | some x => x.slots
  | none => []

def ROp.slots : ROp → List Nat
  | .mov x | .box x | .ld _ _ x | .ldb _ _ x | .nilck x | .un _ x | .nileq _ x | .conv _ x | .cstr x | .bstr x | .faddr _ x | .fld _ _ _ x | .ext x _ | .len _ x => x.slots
  | .pick c a b => c.slots ++ a.slots ++ b.slots
  | .alloc _ | .mkmap => []
  | .mlook _ _ _ x k => x.slots ++ k.slots
  | .mup _ x k v => x.slots ++ k.slots ++ v.slots
  | .build _ ps => ps.flatMap fun p => p.2.2.slots
  | .bslice _ _ ps | .bslicev _ _ ps => ps.flatMap fun p => p.2.slots
  | .st _ a x | .bin _ a x | .beq _ a x | .mkslice _ _ a x | .iaddr _ a x | .iaddrv _ a x | .idx a x | .app _ _ a x | .max a x => a.slots ++ x.slots
  | .clos _ cs => cs.flatMap Opd.slots
  | .slc _ x a b c => x.slots ++ optSlots a ++ optSlots b ++ optSlots c
  | .call _ aas => aas.flatMap Opd.slots
  | .callv x aas => x.slots ++ aas.flatMap Opd.slots

def RO.slots (o : RO) : List Nat := o.op.slots ++ (match o.guard with | some (s, _) => [s] | none => [])

/-- Operations that may turn the boxes. -/
def ROp.writesB (c : Ctx) : ROp → Bool
  | .box _ | .alloc _ | .st .. | .mkmap | .mup .. => true
  | .callv .. => c.rawv
  | .clos .. => c.ro
  | .call f _ => c.raw f && !c.noB f
  | _ => false

/-- Operations that may turn the rows. -/
def ROp.writesF (c : Ctx) : ROp → Bool
  | .st .. | .mkslice .. | .app .. => true
  | .callv .. => c.rawv
  | .call f _ => c.raw f
  | _ => false

/-- Operations that look at the boxes. -/
def ROp.looksB : ROp → Bool
  | .box _ | .alloc _ | .st .. | .callv .. | .ld .. | .ldb .. | .call .. | .mkmap | .mlook .. | .mup .. | .bslice .. | .clos .. => true
  | _ => false

/-- Operations that look at the rows. -/
def ROp.looksF : ROp → Bool
  | .st .. | .mkslice .. | .app .. | .callv .. | .call .. | .ld .. | .bslice .. | .slc .. | .mup .. | .bstr .. | .clos .. => true
  | _ => false

def ROp.lax : ROp → ROp
  | .ld b n x => .ldb b n x
  | .bslice n z ps => .bslicev n z ps
  | o => o

def RO.lax (o : RO) : RO := { o with op := o.op.lax }

/-- For each operation the set (as a number's bits) of those that surely come before it. -/
def before : List Oper → List Nat → List Nat
  | [], acc => acc
  | o :: rest, acc => before rest (acc ++ [o.after.toList.foldl (fun s e => if Region.binds .any e then s ||| 2 ^ e.on ||| acc.getD e.on 0 else s) 0])

def pairOk (c : Ctx) (bj : Nat) (i : Nat) (oi oj : RO) : Bool :=
  bj.testBit i ||
    ((match oi.dst with | some d => !oj.slots.contains d && oj.dst != some d | none => true) &&
     (match oj.dst with | some d => !oi.slots.contains d | none => true) &&
     !(oi.op.writesB c && oj.op.looksB) && !(oi.op.looksB && oj.op.writesB c) && !(oi.op.writesF c && oj.op.looksF) && !(oi.op.looksF && oj.op.writesF c))

def edgesOk : List Oper → Nat → Bool
  | [], _ => true
  | o :: rest, i => o.after.toList.all (fun e => !Region.binds .any e || decide (e.on < i)) && edgesOk rest (i + 1)

def pairsOk (c : Ctx) (bs : List Nat) (ros : List RO) : Bool :=
  (List.range ros.length).all fun j => (List.range j).all fun i =>
    match ros[i]?, ros[j]? with
    | some oi, some oj => pairOk c (bs.getD j 0) i oi oj && (match oi.dst, oj.dst with | some d, some e => d != e | _, _ => true)
    | _, _ => false

def orderOk (c : Ctx) (ops : List Oper) (ros : List RO) : Bool := edgesOk ops 0 && pairsOk c (before ops []) ros

def resCode (P : Program) (c : Ctx) : Code → Option RCode
  | .skip => some .skip
  | .region _ ops draw =>
    match mapO (resRO P ops.toList) ops.toList with
    | some ros =>
      if !draw || orderOk c ops.toList ros then some (.region draw ros)
      else if orderOk c ops.toList (ros.map RO.lax) then some (.region true (ros.map RO.lax)) else none
    | none => none
  | .seq a b => match resCode P c a, resCode P c b with | some a, some b => some (.seq a b) | _, _ => none
  | .cond q a b => match resOpd q, resCode P c a, resCode P c b with | some q, some a, some b => some (.cond q a b) | _, _, _ => none
  | .block id a => (resCode P c a).map (.block id)
  | .loop a => (resCode P c a).map .loop
  | .exit id => some (.exit id)
  | .ret => some .ret
  | _ => none

def resRes (P : Program) : ResultVar → Option RRes
  | .tmp t => some (.tmp t)
  | .cell a t => match Program.agg? P t, Program.size? P t with | some b, some n => some (.cell a b n) | _, _ => none

def resFunc (P : Program) (ctx : FuncId → Ctx) (f : FuncId) : Option RFunc :=
  if Program.enterable P f then
    match P.funcs[f]? with
    | some fn =>
      match fn.body with
      | some b =>
        match mapO (resRes P) fn.results.toList, resCode P (ctx f) b with
        | some rs, some rb => some ⟨fn.ntmps, rs, rb⟩
        | _, _ => none
      | none => none
    | none => none
  else none

end Go.Abs

namespace Go.Abs

/-- What is leant on stays: the cell; a whole map. -/
def Stay (w w' : World) (b o : Nat) : Prop := w'.cell? ⟨b, o, none⟩ = w.cell? ⟨b, o, none⟩ ∧ ∀ es clk, w.heap[b]? = some (.map es clk) → w'.heap[b]? = some (.map es clk)

theorem Stay.refl (w : World) (b o : Nat) : Stay w w b o := ⟨rfl, fun _ _ h => h⟩
theorem Stay.trans {w w' w'' : World} {b o : Nat} (h : Stay w w' b o) (k : Stay w' w'' b o) : Stay w w'' b o := ⟨k.1.trans h.1, fun es clk e => k.2 es clk (h.2 es clk e)⟩

mutual
/-- A pure value: `ok b o`: cell o of block b may be leant on. -/
def PV (w : World) (ok : Nat → Nat → Prop) : AV → Value → Prop
  | .junk, v => v.oneCell' = true
  | .bool b, v => v = .bool b
  | .int k n, v => v = .int k n
  | .str s, v => v = .string s
  | .agg cs, v => ∃ us : Array Value, v = .agg us ∧ (∀ u ∈ us.toList, u.oneCell' = true) ∧ PVs w ok cs us.toList
  | .tup cs, v => ∃ us : Array Value, v = .tuple us ∧ PVs w ok cs us.toList
  | .vs full sz xs, v => ∃ a len cap, v = .slice a len cap ∧ len = xs.length ∧ len ≤ cap ∧ cap ≤ maxLen ∧ (full = true → cap = len) ∧ ((a = none → cap = 0) ∧ (a = none ↔ sz = 0)) ∧ (xs ≠ [] → ∃ b o, a = some ⟨b, o, none⟩ ∧ 0 < sz ∧ PEls w ok sz b o xs)
  | .pv cs, v => ∃ b o, v = .pointer (some ⟨b, o, none⟩) ∧ PCells w ok b o cs
  | .nilp, v => v = .pointer none
  | .fn f caps, v => ∃ us : Array Value, v = .func (.func f) #[] us ∧ PVs w ok caps us.toList
  | .nilf, v => v = .nilFunc
  | .sl .., _ => False
  | .ep .., _ => False
  | .ptr .., _ => False
  | .mp _, _ => False
  | .mbox .., _ => False
  | .rbox _, _ => False
  | .nilm, v => v = .map none
  | .vm ks vs, v => ∃ b es clk, v = .map (some b) ∧ ok b 0 ∧ w.heap[b]? = some (.map es clk) ∧ PVs w ok ks (es.toList.map (·.key)) ∧ PVs w ok vs (es.toList.map (·.val))
def PVs (w : World) (ok : Nat → Nat → Prop) : List AV → List Value → Prop
  | [], us => us = []
  | c :: cs, us => ∃ u us', us = u :: us' ∧ PV w ok c u ∧ PVs w ok cs us'
def PCells (w : World) (ok : Nat → Nat → Prop) (b o : Nat) : List AV → Prop
  | [] => True
  | c :: cs => (∃ u, ok b o ∧ w.cell? ⟨b, o, none⟩ = some u ∧ u.oneCell' = true ∧ PV w ok c u) ∧ PCells w ok b (o + 1) cs
def PEls (w : World) (ok : Nat → Nat → Prop) (sz b o : Nat) : List AV → Prop
  | [] => True
  | .agg cs :: xs => cs.length = sz ∧ PCells w ok b o cs ∧ PEls w ok sz b (o + sz) xs
  | x :: xs => sz = 1 ∧ (∃ u, ok b o ∧ w.cell? ⟨b, o, none⟩ = some u ∧ u.oneCell' = true ∧ PV w ok x u) ∧ PEls w ok sz b (o + sz) xs
end

/-- One element in memory. -/
def PElem (w : World) (ok : Nat → Nat → Prop) (sz b o : Nat) (x : AV) : Prop := x.cells.length = sz ∧ PCells w ok b o x.cells

theorem PEls_cons {w : World} {ok : Nat → Nat → Prop} {sz b o : Nat} {x : AV} {xs : List AV} :
    PEls w ok sz b o (x :: xs) ↔ PElem w ok sz b o x ∧ PEls w ok sz b (o + sz) xs := by
  cases x with
  | agg cs => simp only [PEls, PElem, AV.cells, and_assoc]
  | _ =>
    simp only [PEls, PElem, AV.cells, PCells, and_true, List.length_cons, List.length_nil, Nat.zero_add]
    exact ⟨fun h => ⟨⟨h.1.symm, h.2.1⟩, h.2.2⟩, fun h => ⟨h.1.1.symm, h.1.2, h.2⟩⟩

theorem PEls_get {w : World} {ok : Nat → Nat → Prop} {sz b : Nat} {xs : List AV} : ∀ {o : Nat}, PEls w ok sz b o xs → ∀ {j : Nat} {x : AV}, xs[j]? = some x → PElem w ok sz b (o + j * sz) x := by
  induction xs with
  | nil => intro o _ j x h; simp at h
  | cons y ys ih =>
    intro o h j x hj
    rw [PEls_cons] at h
    cases j with
    | zero => simp at hj; subst hj; simpa using h.1
    | succ j =>
      have := ih h.2 (j := j) (x := x) (by simpa using hj)
      rwa [show o + sz + j * sz = o + (j + 1) * sz from by rw [Nat.succ_mul]; omega] at this

theorem PEls_of {w : World} {ok : Nat → Nat → Prop} {sz b : Nat} {xs : List AV} : ∀ {o : Nat}, (∀ j x, xs[j]? = some x → PElem w ok sz b (o + j * sz) x) → PEls w ok sz b o xs := by
  induction xs with
  | nil => intro o _; simp [PEls]
  | cons y ys ih =>
    intro o h
    rw [PEls_cons]
    refine ⟨by simpa using h 0 y rfl, ih fun j x hj => ?_⟩
    have := h (j + 1) x (by simpa using hj)
    rwa [show o + (j + 1) * sz = o + sz + j * sz from by rw [Nat.succ_mul]; omega] at this

theorem PCells_get {w : World} {ok : Nat → Nat → Prop} {b : Nat} {cs : List AV} : ∀ {o : Nat}, PCells w ok b o cs → ∀ {j : Nat} {c : AV}, cs[j]? = some c →
    ∃ u, ok b (o + j) ∧ w.cell? ⟨b, o + j, none⟩ = some u ∧ u.oneCell' = true ∧ PV w ok c u := by
  induction cs with
  | nil => intro o _ j c h; simp at h
  | cons y ys ih =>
    intro o h j c hj
    simp only [PCells] at h
    cases j with
    | zero => simp at hj; subst hj; simpa using h.1
    | succ j =>
      have := ih h.2 (j := j) (c := c) (by simpa using hj)
      rwa [show o + 1 + j = o + (j + 1) from by omega] at this

theorem PCells_of {w : World} {ok : Nat → Nat → Prop} {b : Nat} {cs : List AV} : ∀ {o : Nat}, (∀ j c, cs[j]? = some c → ∃ u, ok b (o + j) ∧ w.cell? ⟨b, o + j, none⟩ = some u ∧ u.oneCell' = true ∧ PV w ok c u) → PCells w ok b o cs := by
  induction cs with
  | nil => intro o _; simp [PCells]
  | cons y ys ih =>
    intro o h
    simp only [PCells]
    refine ⟨by simpa using h 0 y rfl, ih fun j c hj => ?_⟩
    have := h (j + 1) c (by simpa using hj)
    rwa [show o + (j + 1) = o + 1 + j from by omega] at this

theorem PVs_get {w : World} {ok : Nat → Nat → Prop} {cs : List AV} : ∀ {us : List Value}, PVs w ok cs us → us.length = cs.length ∧ ∀ {j : Nat} {c : AV}, cs[j]? = some c → ∃ u, us[j]? = some u ∧ PV w ok c u := by
  induction cs with
  | nil => intro us h; simp [PVs] at h; subst h; simp
  | cons y ys ih =>
    intro us h
    simp only [PVs] at h
    obtain ⟨u, us', rfl, h1, h2⟩ := h
    obtain ⟨hl, hg⟩ := ih h2
    refine ⟨by simp [hl], fun {j c} hj => ?_⟩
    cases j with
    | zero => simp at hj; subst hj; exact ⟨u, rfl, h1⟩
    | succ j => simpa using hg (j := j) (c := c) (by simpa using hj)

theorem PVs_of {w : World} {ok : Nat → Nat → Prop} {cs : List AV} : ∀ {us : List Value}, us.length = cs.length → (∀ (j : Nat) (c : AV) (u : Value), cs[j]? = some c → us[j]? = some u → PV w ok c u) → PVs w ok cs us := by
  induction cs with
  | nil => intro us hl _; simp [PVs]; simpa using hl
  | cons y ys ih =>
    intro us hl h
    cases us with
    | nil => simp at hl
    | cons u us' =>
      simp only [PVs]
      exact ⟨u, us', rfl, h 0 y u rfl rfl, ih (by simpa using hl) fun j c v hc hv => h (j + 1) c v (by simpa using hc) (by simpa using hv)⟩

/-! ### Pure values stay what they are while the cells that they lean on stay -/

mutual
theorem PV_mono {w w' : World} {ok ok' : Nat → Nat → Prop} (h : ∀ b o, ok b o → ok' b o ∧ Stay w w' b o) : ∀ (x : AV) (v : Value), PV w ok x v → PV w' ok' x v
  | .junk, v, hx => by simpa [PV] using hx
  | .bool b, v, hx => by simpa [PV] using hx
  | .int k n, v, hx => by simpa [PV] using hx
  | .str s, v, hx => by simpa [PV] using hx
  | .agg cs, v, hx => by
    simp only [PV] at hx ⊢
    obtain ⟨us, rfl, h1, hu⟩ := hx
    exact ⟨us, rfl, h1, PVs_mono h cs us.toList hu⟩
  | .tup cs, v, hx => by
    simp only [PV] at hx ⊢
    obtain ⟨us, rfl, hu⟩ := hx
    exact ⟨us, rfl, PVs_mono h cs us.toList hu⟩
  | .vs full sz xs, v, hx => by
    simp only [PV] at hx ⊢
    obtain ⟨a, len, cap, rfl, h1, h2, h3, h4, h5, h6⟩ := hx
    refine ⟨a, len, cap, rfl, h1, h2, h3, h4, h5, fun hne => ?_⟩
    obtain ⟨b, o, ha, hs, he⟩ := h6 hne
    exact ⟨b, o, ha, hs, PEls_mono h sz b o xs he⟩
  | .pv cs, v, hx => by
    simp only [PV] at hx ⊢
    obtain ⟨b, o, rfl, hc⟩ := hx
    exact ⟨b, o, rfl, PCells_mono h b o cs hc⟩
  | .nilp, v, hx => by simpa [PV] using hx
  | .fn f caps, v, hx => by
    simp only [PV] at hx ⊢
    obtain ⟨us, rfl, hu⟩ := hx
    exact ⟨us, rfl, PVs_mono h caps us.toList hu⟩
  | .nilf, v, hx => by simpa [PV] using hx
  | .sl .., _, hx => by simp [PV] at hx
  | .ep .., _, hx => by simp [PV] at hx
  | .ptr .., _, hx => by simp [PV] at hx
  | .mp _, _, hx => by simp [PV] at hx
  | .mbox .., _, hx => by simp [PV] at hx
  | .rbox _, _, hx => by simp [PV] at hx
  | .nilm, v, hx => by simpa [PV] using hx
  | .vm ks vs, v, hx => by
    simp only [PV] at hx ⊢
    obtain ⟨b, es, clk, rfl, h1, h2, h3, h4⟩ := hx
    exact ⟨b, es, clk, rfl, (h b 0 h1).1, (h b 0 h1).2.2 es clk h2, PVs_mono h ks _ h3, PVs_mono h vs _ h4⟩
theorem PVs_mono {w w' : World} {ok ok' : Nat → Nat → Prop} (h : ∀ b o, ok b o → ok' b o ∧ Stay w w' b o) : ∀ (cs : List AV) (us : List Value), PVs w ok cs us → PVs w' ok' cs us
  | [], us, hx => by simpa [PVs] using hx
  | c :: cs, us, hx => by
    simp only [PVs] at hx ⊢
    obtain ⟨u, us', rfl, h1, h2⟩ := hx
    exact ⟨u, us', rfl, PV_mono h c u h1, PVs_mono h cs us' h2⟩
theorem PCells_mono {w w' : World} {ok ok' : Nat → Nat → Prop} (h : ∀ b o, ok b o → ok' b o ∧ Stay w w' b o) (b o : Nat) : ∀ (cs : List AV), PCells w ok b o cs → PCells w' ok' b o cs
  | [], _ => by simp [PCells]
  | c :: cs, hx => by
    simp only [PCells] at hx ⊢
    obtain ⟨⟨u, h1, h2, h3, h4⟩, h5⟩ := hx
    exact ⟨⟨u, (h b o h1).1, by rw [(h b o h1).2.1]; exact h2, h3, PV_mono h c u h4⟩, PCells_mono h b (o + 1) cs h5⟩
theorem PEls_mono {w w' : World} {ok ok' : Nat → Nat → Prop} (h : ∀ b o, ok b o → ok' b o ∧ Stay w w' b o) (sz b o : Nat) : ∀ (xs : List AV), PEls w ok sz b o xs → PEls w' ok' sz b o xs
  | [], _ => by simp [PEls]
  | .agg cs :: xs, hx => by
    simp only [PEls] at hx ⊢
    exact ⟨hx.1, PCells_mono h b o cs hx.2.1, PEls_mono h sz b (o + sz) xs hx.2.2⟩
  | x :: xs, hx => by
    rw [PEls_cons] at hx ⊢
    refine ⟨?_, PEls_mono h sz b (o + sz) xs hx.2⟩
    cases x with
    | agg cs => exact ⟨hx.1.1, PCells_mono h b o cs hx.1.2⟩
    | _ =>
      refine ⟨hx.1.1, ?_⟩
      have hc := hx.1.2
      simp only [AV.cells, PCells] at hc ⊢
      obtain ⟨⟨u, h1, h2, h3, h4⟩, h5⟩ := hc
      exact ⟨⟨u, (h b o h1).1, by rw [(h b o h1).2.1]; exact h2, h3, PV_mono h _ u h4⟩, trivial⟩
end

/-! ### A whole state -/

/-- Where a row lies: element i (from `lo` on) at cell `o + (i - lo) * sz` of block b; room for `cap` elements from `lo` on. -/
structure Img where
  b : Nat
  o : Nat
  cap : Nat
  lo : Nat

structure Env where
  w : World
  base : Nat
  ok0 : Nat → Nat → Prop
  nb : Nat → Nat
  im : Nat → Img
  h : AH

/-- The cells that pure values may lean on. -/
def Env.ok (E : Env) (b o : Nat) : Prop :=
  (b < E.base ∧ E.ok0 b o) ∨
  (E.base ≤ b ∧ b < E.w.heap.size ∧ (∀ i, i < E.h.boxes.length → E.nb i = b → ∃ cs, E.h.boxes[i]? = some [.rbox cs]) ∧
    ∀ k f, E.h.fams[k]? = some f → (E.im k).b = b → f.wr = false ∧ o < (E.im k).o + (f.xs.length - (E.im k).lo) * f.sz)

mutual
def VR (E : Env) : AV → Value → Prop
  | .agg cs, v => ∃ us : Array Value, v = .agg us ∧ (∀ u ∈ us.toList, u.oneCell' = true) ∧ VRs E cs us.toList
  | .tup cs, v => ∃ us : Array Value, v = .tuple us ∧ VRs E cs us.toList
  | .fn f caps, v => ∃ us : Array Value, v = .func (.func f) #[] us ∧ VRs E caps us.toList
  | .sl k n off len, v => ∃ a cap f, v = .slice a len cap ∧ E.h.fams[k]? = some f ∧ (n ≤ f.xs.length ∧ (len ≠ 0 → ∃ b o, a = some ⟨b, o, none⟩)) ∧ (f.xs.length = n →
      (E.im k).lo ≤ off ∧ off + len ≤ n ∧ cap + (off - (E.im k).lo) = (E.im k).cap ∧ a ≠ none ∧
      (cap ≠ 0 → a = some ⟨(E.im k).b, (E.im k).o + (off - (E.im k).lo) * f.sz, none⟩))
  | .ep k n i c sz, v => ∃ b o f, v = .pointer (some ⟨b, o, none⟩) ∧ E.h.fams[k]? = some f ∧ n ≤ f.xs.length ∧ (f.xs.length = n ∧ f.sz = sz →
      (E.im k).lo ≤ i ∧ (⟨b, o, none⟩ : Addr) = ⟨(E.im k).b, (E.im k).o + (i - (E.im k).lo) * f.sz + c, none⟩)
  | .ptr b off, v => b < E.h.boxes.length ∧ v = .pointer (some ⟨E.nb b, off, none⟩)
  | .mp b, v => b < E.h.boxes.length ∧ v = .map (some (E.nb b))
  | .mbox .., _ => False
  | .rbox _, _ => False
  | .nilm, v => v = .map none
  | .vm ks vs, v => PV E.w E.ok (.vm ks vs) v
  | .junk, v => v.oneCell' = true
  | .bool b, v => v = .bool b
  | .int k n, v => v = .int k n
  | .str s, v => v = .string s
  | .vs full sz xs, v => PV E.w E.ok (.vs full sz xs) v
  | .pv cs, v => PV E.w E.ok (.pv cs) v
  | .nilp, v => v = .pointer none
  | .nilf, v => v = .nilFunc
def VRs (E : Env) : List AV → List Value → Prop
  | [], us => us = []
  | c :: cs, us => ∃ u us', us = u :: us' ∧ VR E c u ∧ VRs E cs us'
end

theorem VRs_get {E : Env} {cs : List AV} : ∀ {us : List Value}, VRs E cs us → us.length = cs.length ∧ ∀ {j : Nat} {c : AV}, cs[j]? = some c → ∃ u, us[j]? = some u ∧ VR E c u := by
  induction cs with
  | nil => intro us h; simp [VRs] at h; subst h; simp
  | cons y ys ih =>
    intro us h
    simp only [VRs] at h
    obtain ⟨u, us', rfl, h1, h2⟩ := h
    obtain ⟨hl, hg⟩ := ih h2
    refine ⟨by simp [hl], fun {j c} hj => ?_⟩
    cases j with
    | zero => simp at hj; subst hj; exact ⟨u, rfl, h1⟩
    | succ j => simpa using hg (j := j) (c := c) (by simpa using hj)

theorem VRs_of {E : Env} {cs : List AV} : ∀ {us : List Value}, us.length = cs.length → (∀ (j : Nat) (c : AV) (u : Value), cs[j]? = some c → us[j]? = some u → VR E c u) → VRs E cs us := by
  induction cs with
  | nil => intro us hl _; simp [VRs]; simpa using hl
  | cons y ys ih =>
    intro us hl h
    cases us with
    | nil => simp at hl
    | cons u us' =>
      simp only [VRs]
      exact ⟨u, us', rfl, h 0 y u rfl rfl, ih (by simpa using hl) fun j c v hc hv => h (j + 1) c v (by simpa using hc) (by simpa using hv)⟩

mutual
theorem VR_of_PV {E : Env} : ∀ (x : AV) (v : Value), PV E.w E.ok x v → VR E x v
  | .junk, v, hx => by simpa [VR, PV] using hx
  | .bool b, v, hx => by simpa [PV, VR] using hx
  | .int k n, v, hx => by simpa [PV, VR] using hx
  | .str s, v, hx => by simpa [PV, VR] using hx
  | .agg cs, v, hx => by
    simp only [PV, VR] at hx ⊢
    obtain ⟨us, rfl, h1, hu⟩ := hx
    exact ⟨us, rfl, h1, VRs_of_PVs cs us.toList hu⟩
  | .tup cs, v, hx => by
    simp only [PV, VR] at hx ⊢
    obtain ⟨us, rfl, hu⟩ := hx
    exact ⟨us, rfl, VRs_of_PVs cs us.toList hu⟩
  | .vs full sz xs, v, hx => by simp only [VR]; exact hx
  | .pv cs, v, hx => by simp only [VR]; exact hx
  | .nilp, v, hx => by simpa [PV, VR] using hx
  | .fn f caps, v, hx => by
    simp only [PV, VR] at hx ⊢
    obtain ⟨us, rfl, hu⟩ := hx
    exact ⟨us, rfl, VRs_of_PVs caps us.toList hu⟩
  | .nilf, v, hx => by simpa [PV, VR] using hx
  | .sl .., _, hx => by simp [PV] at hx
  | .ep .., _, hx => by simp [PV] at hx
  | .ptr .., _, hx => by simp [PV] at hx
  | .mp _, _, hx => by simp [PV] at hx
  | .mbox .., _, hx => by simp [PV] at hx
  | .rbox _, _, hx => by simp [PV] at hx
  | .nilm, v, hx => by simpa [PV, VR] using hx
  | .vm ks vs, v, hx => by simp only [VR]; exact hx
theorem VRs_of_PVs {E : Env} : ∀ (cs : List AV) (us : List Value), PVs E.w E.ok cs us → VRs E cs us
  | [], us, hx => by simpa [PVs, VRs] using hx
  | c :: cs, us, hx => by
    simp only [PVs, VRs] at hx ⊢
    obtain ⟨u, us', rfl, h1, h2⟩ := hx
    exact ⟨u, us', rfl, VR_of_PV c u h1, VRs_of_PVs cs us' h2⟩
end

/-- What one state hands on to a later one: what pure values lean on stays; boxes keep their places; a row that has kept its length has kept its place. -/
structure Ext (E E' : Env) : Prop where
  cells : ∀ b o, E.ok b o → E'.ok b o ∧ Stay E.w E'.w b o
  boxes : E.h.boxes.length ≤ E'.h.boxes.length
  nb : ∀ i, i < E.h.boxes.length → E'.nb i = E.nb i
  fams : E.h.fams.length ≤ E'.h.fams.length
  im : ∀ k f f', E.h.fams[k]? = some f → E'.h.fams[k]? = some f' → f'.sz = f.sz ∧ f.xs.length ≤ f'.xs.length ∧ (f'.xs.length = f.xs.length → E'.im k = E.im k)
  base : E'.base = E.base
  ok0 : E'.ok0 = E.ok0
  below : Go.RowKit.Below E.base E.w E'.w

theorem Ext.refl (E : Env) : Ext E E :=
  ⟨fun _ _ h => ⟨h, Stay.refl _ _ _⟩, Nat.le_refl _, fun _ _ => rfl, Nat.le_refl _, fun k f f' h h' => by rw [h] at h'; cases h'; exact ⟨rfl, Nat.le_refl _, fun _ => rfl⟩, rfl, rfl, Go.RowKit.Below.refl _ _⟩

theorem Ext.trans {E E' E'' : Env} (h : Ext E E') (k : Ext E' E'') : Ext E E'' := by
  refine ⟨fun b o ho => ?_, Nat.le_trans h.boxes k.boxes, fun i hi => (k.nb i (Nat.lt_of_lt_of_le hi h.boxes)).trans (h.nb i hi), Nat.le_trans h.fams k.fams, fun j f f'' hf hf'' => ?_, k.base.trans h.base, k.ok0.trans h.ok0, ?_⟩
  · obtain ⟨h1, h2⟩ := h.cells b o ho
    obtain ⟨h3, h4⟩ := k.cells b o h1
    exact ⟨h3, h2.trans h4⟩
  · have hlt : j < E'.h.fams.length := Nat.lt_of_lt_of_le (List.getElem?_eq_some_iff.1 hf).1 h.fams
    obtain ⟨a1, a2, a3⟩ := h.im j f _ hf (List.getElem?_eq_getElem hlt)
    obtain ⟨b1, b2, b3⟩ := k.im j _ f'' (List.getElem?_eq_getElem hlt) hf''
    refine ⟨b1.trans a1, Nat.le_trans a2 b2, fun he => ?_⟩
    rw [b3 (by omega), a3 (by omega)]
  · have hk := k.below
    rw [h.base] at hk
    exact h.below.trans hk

mutual
theorem VR_ext {E E' : Env} (h : Ext E E') : ∀ (x : AV) (v : Value), VR E x v → VR E' x v
  | .junk, v, hx => by simpa [VR] using hx
  | .bool b, v, hx => by simpa [VR] using hx
  | .int k n, v, hx => by simpa [VR] using hx
  | .str s, v, hx => by simpa [VR] using hx
  | .agg cs, v, hx => by
    simp only [VR] at hx ⊢
    obtain ⟨us, rfl, h1, hu⟩ := hx
    exact ⟨us, rfl, h1, VRs_ext h cs us.toList hu⟩
  | .tup cs, v, hx => by
    simp only [VR] at hx ⊢
    obtain ⟨us, rfl, hu⟩ := hx
    exact ⟨us, rfl, VRs_ext h cs us.toList hu⟩
  | .vs full sz xs, v, hx => by
    simp only [VR] at hx ⊢
    exact PV_mono h.cells _ _ hx
  | .pv cs, v, hx => by
    simp only [VR] at hx ⊢
    exact PV_mono h.cells _ _ hx
  | .nilp, v, hx => by simpa [VR] using hx
  | .fn f caps, v, hx => by
    simp only [VR] at hx ⊢
    obtain ⟨us, rfl, hu⟩ := hx
    exact ⟨us, rfl, VRs_ext h caps us.toList hu⟩
  | .nilf, v, hx => by simpa [VR] using hx
  | .sl k n off len, v, hx => by
    simp only [VR] at hx ⊢
    obtain ⟨a, cap, f, rfl, hf, hn, hc⟩ := hx
    have hlt : k < E'.h.fams.length := Nat.lt_of_lt_of_le (List.getElem?_eq_some_iff.1 hf).1 h.fams
    obtain ⟨h1, h2, h3⟩ := h.im k f _ hf (List.getElem?_eq_getElem hlt)
    refine ⟨a, cap, _, rfl, List.getElem?_eq_getElem hlt, ⟨by omega, hn.2⟩, fun he => ?_⟩
    rw [h3 (by omega), h1]
    exact hc (by omega)
  | .ep k n i c sz, v, hx => by
    simp only [VR] at hx ⊢
    obtain ⟨b, o, f, rfl, hf, hn, hc⟩ := hx
    have hlt : k < E'.h.fams.length := Nat.lt_of_lt_of_le (List.getElem?_eq_some_iff.1 hf).1 h.fams
    obtain ⟨h1, h2, h3⟩ := h.im k f _ hf (List.getElem?_eq_getElem hlt)
    refine ⟨b, o, _, rfl, List.getElem?_eq_getElem hlt, by omega, fun he => ?_⟩
    rw [h3 (by omega), h1]
    exact hc ⟨by omega, by rw [← h1]; exact he.2⟩
  | .ptr b off, v, hx => by
    simp only [VR] at hx ⊢
    exact ⟨Nat.lt_of_lt_of_le hx.1 h.boxes, by rw [h.nb b hx.1]; exact hx.2⟩
  | .mp b, v, hx => by
    simp only [VR] at hx ⊢
    exact ⟨Nat.lt_of_lt_of_le hx.1 h.boxes, by rw [h.nb b hx.1]; exact hx.2⟩
  | .mbox .., _, hx => by simp [VR] at hx
  | .rbox _, _, hx => by simp [VR] at hx
  | .nilm, v, hx => by simpa [VR] using hx
  | .vm ks vs, v, hx => by
    simp only [VR] at hx ⊢
    exact PV_mono h.cells _ _ hx
theorem VRs_ext {E E' : Env} (h : Ext E E') : ∀ (cs : List AV) (us : List Value), VRs E cs us → VRs E' cs us
  | [], us, hx => by simpa [VRs] using hx
  | c :: cs, us, hx => by
    simp only [VRs] at hx ⊢
    obtain ⟨u, us', rfl, h1, h2⟩ := hx
    exact ⟨u, us', rfl, VR_ext h c u h1, VRs_ext h cs us' h2⟩
end

end Go.Abs
