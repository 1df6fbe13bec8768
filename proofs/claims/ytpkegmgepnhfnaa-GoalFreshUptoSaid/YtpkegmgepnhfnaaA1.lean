/- An abstract interpreter for resolved code: pure immutable slices as lists, boxes and growable rows as an abstract heap, calls by an oracle. Definitions only. -/
import Derived.WalkKit
namespace Go.Abs

/-- Abstract values. `vs`: an immutable slice (its elements are pure, of sz cells each; `full`: no spare capacity); `sl k n off len`: a view of row k, valid while the row has n elements; `pv`: the address of immutable cells; `ep k n i c`: cell c of element i of row k; `ptr b off`: cell of box b. -/
inductive AV where
  | junk
  | bool (b : Bool)
  | int (k : IntKind) (n : Int)
  | str (s : ByteArray)
  | agg (cs : List AV)
  | tup (vs : List AV)
  | vs (full : Bool) (sz : Nat) (xs : List AV)
  | sl (k n off len : Nat)
  | pv (cs : List AV)
  | ep (k n i c : Nat)
  | ptr (b off : Nat)
  | nilp
  | fn (f : FuncId) (caps : List AV)
  | nilf
  deriving Inhabited

def AV.cells : AV → List AV
  | .agg cs => cs
  | v => [v]

def undefA : AV := .tup []

/-- A value of several results, or none. -/
def AV.isTup : AV → Bool
  | .tup _ => true
  | _ => false

structure Fam where
  xs : List AV
  sz : Nat
  wr : Bool

structure AH where
  boxes : List (List AV)
  fams : List Fam

def AH.empty : AH := ⟨[], []⟩

inductive Opd where
  | t (n : Nat)
  | c (v : AV)

inductive ROp where
  | mov (x : Opd)
  | pick (c a b : Opd)
  | box (x : Opd)
  | alloc (z : AV)
  | build (z : AV) (parts : List (Nat × Nat × Opd))
  | bslice (n : Nat) (z : AV) (parts : List (Nat × Opd))
  | ld (agg : Bool) (n : Nat) (x : Opd)
  | ldb (agg : Bool) (n : Nat) (x : Opd)
  | st (n : Nat) (a x : Opd)
  | nilck (x : Opd)
  | bin (op : BinOp) (x y : Opd)
  | beq (neg : Bool) (x y : Opd)
  | nileq (neg : Bool) (x : Opd)
  | un (op : UnOp) (x : Opd)
  | conv (k : IntKind) (x : Opd)
  | cstr (x : Opd)
  | clos (f : FuncId) (caps : List Opd)
  | mkslice (z : AV) (bytes : Nat) (len cap : Opd)
  | slc (sz : Nat) (x : Opd) (lo hi mx : Option Opd)
  | faddr (off : Nat) (x : Opd)
  | fld (agg : Bool) (off n : Nat) (x : Opd)
  | iaddr (sz : Nat) (x i : Opd)
  | idx (x i : Opd)
  | ext (x : Opd) (i : Nat)
  | len (str : Bool) (x : Opd)
  | app (sz bytes : Nat) (s x : Opd)
  | max (x y : Opd)
  | call (f : FuncId) (args : List Opd)
  | callv (x : Opd) (args : List Opd)

structure RO where
  dst : Option Nat
  op : ROp
  guard : Option (Nat × Bool)

inductive RCode where
  | skip
  | region (draw : Bool) (ops : List RO)
  | seq (a b : RCode)
  | cond (c : Opd) (a b : RCode)
  | block (id : Nat) (a : RCode)
  | loop (a : RCode)
  | exit (id : Nat)
  | ret

inductive RRes where
  | tmp (t : Nat)
  | cell (a : Nat) (agg : Bool) (n : Nat)

structure RFunc where
  ntmps : Nat
  results : List RRes
  body : RCode

inductive Ex where
  | normal
  | exit (id : Nat)
  | ret

abbrev Fr := List AV
abbrev St := Fr × AH

/-- What evaluation asks for: calls of pure functions, calls that share the heap, loops. -/
structure Orc where
  pure : FuncId → List AV → Option AV
  raw : FuncId → List AV → AH → Option (AV × AH)
  loop : (St → Option (Ex × St)) → St → Option (Ex × St)

/-- Settings of one function: which callees share the heap; whether rows that its appends begin may be written to. -/
structure Ctx where
  raw : FuncId → Bool
  mutApp : Bool

def get (fr : Fr) : Opd → AV
  | .t n => fr.getD n undefA
  | .c v => v

def put (fr : Fr) (dst : Option Nat) (v : AV) : Fr :=
  match dst with
  | some d => fr.set d v
  | none => fr

def ofCells (agg : Bool) (n : Nat) (cs : List AV) : Option AV :=
  match agg with
  | true => if n ≤ cs.length then some (.agg (cs.take n)) else none
  | false => cs.head?

def AV.reform (x : AV) (cs : List AV) : Option AV :=
  match x with
  | .agg _ => some (.agg cs)
  | _ => cs.head?

/-- The elements of a slice that can be read. -/
def elems (h : AH) (sz : Nat) : AV → Option (List AV)
  | .vs _ z xs => if z = sz ∨ xs.length = 0 then some xs else none
  | .sl k n off len =>
    match h.fams[k]? with
    | some f => if f.xs.length = n ∧ f.sz = sz ∧ off + len ≤ n then some ((f.xs.drop off).take len) else none
    | none => none
  | _ => none

/-- A value (of one cell) laid to rest: a view of a row becomes its elements. `am`: views of rows that may be written to are let. -/
def AV.flat : AV → Bool
  | .sl .. | .ep .. | .ptr .. | .agg _ | .tup _ => false
  | .fn _ cs => cs.isEmpty
  | _ => true

def frz1 (h : AH) (am : Bool) : AV → Option AV
  | .sl k n off len =>
    match h.fams[k]? with
    | some f => if f.xs.length = n ∧ off + len ≤ n ∧ (am || !f.wr) = true then some (.vs false f.sz ((f.xs.drop off).take len)) else none
    | none => none
  | .ep .. => none
  | .ptr .. => none
  | .agg _ => none
  | .tup _ => none
  | .fn f caps => if caps.all AV.flat then some (.fn f caps) else none
  | x => some x

def frzL (h : AH) (am : Bool) : List AV → Option (List AV)
  | [] => some []
  | x :: xs => (frz1 h am x).bind fun y => (frzL h am xs).map (y :: ·)

def frz (h : AH) (am : Bool) : AV → Option AV
  | .agg cs => (frzL h am cs).map .agg
  | x => frz1 h am x

def frzAll (h : AH) (am : Bool) : List AV → Option (List AV)
  | [] => some []
  | x :: xs => (frz h am x).bind fun y => (frzAll h am xs).map (y :: ·)

/-- A result laid to rest. -/
def frzRes (h : AH) : AV → Option AV
  | .tup vs => (frzAll h true vs).map .tup
  | x => frz h true x

def AV.scalar1 : AV → Bool
  | .bool _ | .int .. | .str _ | .nilp | .nilf => true
  | _ => false

def AV.scalar0 : AV → Bool
  | .agg cs => cs.all AV.scalar1
  | v => v.scalar1

def AV.scalar : AV → Bool
  | .tup us => us.all AV.scalar0
  | v => v.scalar0

/-- No view of a row that may be written to. -/
def tame1 (h : AH) : AV → Bool
  | .sl k _ _ _ => match h.fams[k]? with | some f => !f.wr | none => false
  | _ => true

def tame (h : AH) : AV → Bool
  | .agg cs => cs.all (tame1 h)
  | v => tame1 h v

def loadA (h : AH) (agg : Bool) (n : Nat) : AV → Option AV
  | .pv cs => ofCells agg n cs
  | .ptr b off =>
    match h.boxes[b]? with
    | some cs => ofCells agg n (cs.drop off)
    | none => none
  | .ep k m i c =>
    match h.fams[k]? with
    | some f => if f.xs.length = m then (match f.xs[i]? with | some x => ofCells agg n (x.cells.drop c) | none => none) else none
    | none => none
  | _ => none

def splice (cs : List AV) (off : Nat) (new : List AV) : List AV := cs.take off ++ new ++ cs.drop (off + new.length)

def storeA (h : AH) (n : Nat) (v : AV) : AV → Option AH
  | .ptr b off =>
    match h.boxes[b]? with
    | some cs => if v.isTup = false ∧ v.cells.length = n ∧ off + n ≤ cs.length then some { h with boxes := h.boxes.set b (splice cs off v.cells) } else none
    | none => none
  | .ep k m i c =>
    match h.fams[k]? with
    | some f =>
      if f.xs.length = m ∧ f.wr = true then
        match f.xs[i]?, frz h false v with
        | some x, some u =>
          if u.cells.length = n ∧ c + n ≤ x.cells.length then
            (x.reform (splice x.cells c u.cells)).map fun y => { h with fams := h.fams.set k { f with xs := f.xs.set i y } }
          else none
        | _, _ => none
      else none
    | none => none
  | _ => none

def evalBin (op : BinOp) : AV → AV → Option AV
  | .int k a, .int k' b =>
    match op with
    | .add => if k = k' then some (.int k (k.wrap (a + b))) else none
    | .sub => if k = k' then some (.int k (k.wrap (a - b))) else none
    | .mul => if k = k' then some (.int k (k.wrap (a * b))) else none
    | .quo => if k = k' ∧ b ≠ 0 then some (.int k (k.wrap (a.tdiv b))) else none
    | .rem => if k = k' ∧ b ≠ 0 then some (.int k (a.tmod b)) else none
    | .eql => if k = k' then some (.bool (a == b)) else none
    | .neq => if k = k' then some (.bool (a != b)) else none
    | .lss => if k = k' then some (.bool (decide (a < b))) else none
    | .leq => if k = k' then some (.bool (decide (a ≤ b))) else none
    | .gtr => if k = k' then some (.bool (decide (a > b))) else none
    | .geq => if k = k' then some (.bool (decide (a ≥ b))) else none
    | .shl => if 0 ≤ b then some (.int k (k.wrap (a * 2 ^ (min b.toNat k.bits)))) else none
    | .shr => if 0 ≤ b then some (.int k (a.fdiv (2 ^ (min b.toNat k.bits)))) else none
    | .and => if k = k' then some (.int k (k.wrap (BitVec.ofInt k.bits a &&& BitVec.ofInt k.bits b).toNat)) else none
    | .or => if k = k' then some (.int k (k.wrap (BitVec.ofInt k.bits a ||| BitVec.ofInt k.bits b).toNat)) else none
    | .xor => if k = k' then some (.int k (k.wrap (BitVec.ofInt k.bits a ^^^ BitVec.ofInt k.bits b).toNat)) else none
    | _ => none
  | .str a, .str b =>
    match op with
    | .add => if ((a.size + b.size : Nat) : Int) > IntKind.i64.max then none else some (.str (a ++ b))
    | .eql => some (.bool (a.toList == b.toList))
    | .neq => some (.bool !(a.toList == b.toList))
    | .lss => some (.bool (Op.bytesLess a.toList b.toList))
    | .leq => some (.bool (Op.bytesLess a.toList b.toList || a.toList == b.toList))
    | .gtr => some (.bool !(Op.bytesLess a.toList b.toList || a.toList == b.toList))
    | .geq => some (.bool !(Op.bytesLess a.toList b.toList))
    | _ => none
  | _, _ => none

def evalUn (op : UnOp) : AV → Option AV
  | .bool b => match op with | .not => some (.bool !b) | _ => none
  | .int k n => match op with | .neg => some (.int k (k.wrap (0 - n))) | _ => none
  | _ => none

def fillParts (cs : List AV) : List (Nat × AV) → List AV
  | [] => cs
  | (off, v) :: rest => fillParts (splice cs off v.cells) rest

/-- The parts of a struct that is built: offset, size, value. -/
def buildParts (fr : Fr) (len : Nat) : List (Nat × Nat × Opd) → Option (List (Nat × AV))
  | [] => some []
  | (off, n, x) :: rest =>
    if (get fr x).isTup = false ∧ (get fr x).cells.length = n ∧ off + n ≤ len then (buildParts fr len rest).map ((off, get fr x) :: ·) else none

def sliceParts (fr : Fr) (h : AH) (xs : List AV) : List (Nat × Opd) → Option (List AV)
  | [] => some xs
  | (i, x) :: rest =>
    match xs[i]?, frz h false (get fr x) with
    | some z, some y => if y.cells.length = z.cells.length then sliceParts fr h (xs.set i y) rest else none
    | _, _ => none

def boundA (fr : Fr) : Option Opd → Option (Option Int)
  | none => some none
  | some x => match get fr x with | .int _ i => some (some i) | _ => none

def sliceA (H : AH) (sz : Nat) (x : AV) (lo hi mx : Option Int) : Option AV :=
  match x with
  | .str s =>
    let l := lo.getD 0
    let h := hi.getD s.size
    if sz = 0 ∧ mx = none ∧ 0 ≤ l ∧ l ≤ h ∧ h ≤ s.size then some (.str (s.extract l.toNat h.toNat)) else none
  | .vs full z xs =>
    let l := lo.getD 0
    let h := hi.getD xs.length
    if 0 < sz ∧ (z = sz ∨ xs.length = 0) then
      match mx with
      | none =>
        if 0 ≤ l ∧ l ≤ h ∧ h ≤ xs.length then some (.vs (full && decide (h = xs.length)) z ((xs.drop l.toNat).take (h - l).toNat)) else none
      | some m =>
        if hi.isSome ∧ 0 ≤ l ∧ l ≤ h ∧ h ≤ m ∧ m ≤ xs.length then some (.vs (decide (m = h)) z ((xs.drop l.toNat).take (h - l).toNat)) else none
    else none
  | .sl k n off len =>
    let l := lo.getD 0
    let h := hi.getD len
    match H.fams[k]? with
    | some f =>
      if 0 < sz ∧ f.sz = sz ∧ f.xs.length = n then
        match mx with
        | none => if 0 ≤ l ∧ l ≤ h ∧ h ≤ len then some (.sl k n (off + l.toNat) (h - l).toNat) else none
        | some m => if hi.isSome ∧ l = 0 ∧ h = 0 ∧ m = 0 then some (.vs true sz []) else none
      else none
    | none => none
  | _ => none

def roomA : Nat := 140737488355328

def appendA (c : Ctx) (h : AH) (sz bytes : Nat) (s x : AV) : Option (AV × AH) :=
  match elems h sz x with
  | none => none
  | some ys =>
    match s with
    | .vs true z xs =>
      if ys.length = 0 then some (.vs true z xs, h)
      else if (z = sz ∨ xs.length = 0) ∧ (xs.length + ys.length) * bytes ≤ roomA ∧ xs.length + ys.length ≤ maxLen then
        some (.sl h.fams.length (xs.length + ys.length) 0 (xs.length + ys.length), { h with fams := h.fams ++ [⟨xs ++ ys, sz, c.mutApp⟩] })
      else none
    | .sl k n off len =>
      match h.fams[k]? with
      | some f =>
        if f.xs.length = n ∧ f.sz = sz ∧ off + len = n ∧ (n + ys.length) * bytes ≤ roomA ∧ n + ys.length ≤ maxLen then
          some (.sl k (n + ys.length) off (len + ys.length), { h with fams := h.fams.set k { f with xs := f.xs ++ ys } })
        else none
      | none => none
    | _ => none

def callA (O : Orc) (c : Ctx) (f : FuncId) (args : List AV) (h : AH) : Option (AV × AH) :=
  if c.raw f then O.raw f args h
  else
    match frzAll h true args with
    | none => none
    | some as =>
      match O.pure f as with
      | none => none
      | some r => if r.scalar || args.all (tame h) then some (r, h) else none

def evalOp (O : Orc) (c : Ctx) (o : ROp) (fr : Fr) (h : AH) : Option (AV × AH) :=
  match o with
  | .mov x => some (get fr x, h)
  | .pick q a b => match get fr q with | .bool t => some (if t then get fr a else get fr b, h) | _ => none
  | .box x => if (get fr x).isTup then none else some (.ptr h.boxes.length 0, { h with boxes := h.boxes ++ [(get fr x).cells] })
  | .alloc z => some (.ptr h.boxes.length 0, { h with boxes := h.boxes ++ [z.cells] })
  | .build z parts => match buildParts fr z.cells.length parts with | some ps => some (.agg (fillParts z.cells ps), h) | none => none
  | .bslice n z parts => match sliceParts fr h (List.replicate n z) parts with | some xs => some (.vs true z.cells.length xs, h) | none => none
  | .ldb agg n x => match get fr x with | .ep .. => none | p => (match loadA h agg n p with | some v => some (v, h) | none => none)
  | .ld agg n x => match loadA h agg n (get fr x) with | some v => some (v, h) | none => none
  | .st n a x => match storeA h n (get fr x) (get fr a) with | some h' => some (undefA, h') | none => none
  | .nilck x => match get fr x with | .pv cs => some (.pv cs, h) | .ptr b o => some (.ptr b o, h) | .ep k n i q => some (.ep k n i q, h) | .fn f cs => some (.fn f cs, h) | _ => none
  | .bin op x y => match evalBin op (get fr x) (get fr y) with | some v => some (v, h) | none => none
  | .beq neg x y => match get fr x, get fr y with | .bool a, .bool b => some (.bool (if neg then !(a == b) else a == b), h) | _, _ => none
  | .nileq neg x => match get fr x with | .vs _ z _ => some (.bool (if neg then !(z == 0) else z == 0), h) | _ => none
  | .un op x => match evalUn op (get fr x) with | some v => some (v, h) | none => none
  | .conv k x => match get fr x with | .int _ n => some (.int k (k.wrap n), h) | _ => none
  | .cstr x => match get fr x with | .str s => some (.str s, h) | _ => none
  | .clos f caps => some (.fn f (caps.map (get fr)), h)
  | .mkslice z bytes l q =>
    match get fr l, get fr q with
    | .int _ a, .int _ b =>
      if 0 ≤ a ∧ a ≤ b ∧ b * bytes ≤ roomA ∧ b ≤ maxLen then
        some (.sl h.fams.length a.toNat 0 a.toNat, { h with fams := h.fams ++ [⟨List.replicate a.toNat z, z.cells.length, true⟩] })
      else none
    | _, _ => none
  | .slc sz x lo hi mx =>
    match boundA fr lo, boundA fr hi, boundA fr mx with
    | some l, some u, some m => match sliceA h sz (get fr x) l u m with | some v => some (v, h) | none => none
    | _, _, _ => none
  | .faddr off x => match get fr x with | .pv cs => some (.pv (cs.drop off), h) | .ptr b o => some (.ptr b (o + off), h) | .ep k n i q => some (.ep k n i (q + off), h) | _ => none
  | .fld agg off n x => match get fr x with | .agg cs => (match ofCells agg n (cs.drop off) with | some v => some (v, h) | none => none) | _ => none
  | .iaddr sz x i =>
    match get fr x, get fr i with
    | .vs _ z xs, .int _ j => if 0 ≤ j ∧ z = sz then (match xs[j.toNat]? with | some e => some (.pv e.cells, h) | none => none) else none
    | .sl k n off len, .int _ j =>
      match h.fams[k]? with
      | some f => if 0 ≤ j ∧ j < len ∧ f.sz = sz ∧ f.xs.length = n then some (.ep k n (off + j.toNat) 0, h) else none
      | none => none
    | _, _ => none
  | .idx x i =>
    match get fr x, get fr i with
    | .str s, .int _ j => if 0 ≤ j then (match s[j.toNat]? with | some b => some (.int .u8 b.toNat, h) | none => none) else none
    | _, _ => none
  | .ext x i => match get fr x with | .tup vs => (match vs[i]? with | some v => some (v, h) | none => none) | _ => none
  | .len true x => match get fr x with | .str s => some (.int .i64 s.size, h) | _ => none
  | .len false x =>
    match get fr x with
    | .vs _ _ xs => some (.int .i64 xs.length, h)
    | .sl _ _ _ len => some (.int .i64 len, h)
    | _ => none
  | .app sz bytes s x => appendA c h sz bytes (get fr s) (get fr x)
  | .max x y => match get fr x, get fr y with | .int k a, .int k' b => if k = k' then some (.int k (if b > a then b else a), h) else none | _, _ => none
  | .call f args => callA O c f (args.map (get fr)) h
  | .callv x args => match get fr x with | .fn f caps => callA O c f (args.map (get fr) ++ caps) h | _ => none

/-- Is an operation to be carried out? (`none`: it can't be told.) -/
def wantedA (fr : Fr) : Option (Nat × Bool) → Option Bool
  | none => some true
  | some (s, want) =>
    match fr.getD s undefA with
    | .bool b => some (b == want)
    | .tup _ => some false
    | _ => none

def evalOps (O : Orc) (c : Ctx) : List RO → Fr → AH → Option (Fr × AH)
  | [], fr, h => some (fr, h)
  | o :: rest, fr, h =>
    match wantedA fr o.guard with
    | some true =>
      match evalOp O c o.op fr h with
      | some (v, h') => evalOps O c rest (put fr o.dst v) h'
      | none => none
    | some false => evalOps O c rest (put fr o.dst undefA) h
    | none => none

def evalCode (O : Orc) (c : Ctx) : RCode → St → Option (Ex × St)
  | .skip, s => some (.normal, s)
  | .region _ ops, s =>
    match evalOps O c ops s.1 s.2 with
    | some s' => some (.normal, s')
    | none => none
  | .seq a b, s =>
    match evalCode O c a s with
    | some (.normal, s') => evalCode O c b s'
    | r => r
  | .cond q a b, s =>
    match get s.1 q with
    | .bool true => evalCode O c a s
    | .bool false => evalCode O c b s
    | _ => none
  | .block id a, s =>
    match evalCode O c a s with
    | some (.exit id', s') => if id' = id then some (.normal, s') else some (.exit id', s')
    | r => r
  | .loop a, s => O.loop (evalCode O c a) s
  | .exit id, s => some (.exit id, s)
  | .ret, s => some (.ret, s)

def resA (fr : Fr) (h : AH) : List RRes → Option (List AV)
  | [] => some []
  | .tmp t :: rest => (resA fr h rest).map (fr.getD t undefA :: ·)
  | .cell a agg n :: rest => (loadA h agg n (fr.getD a undefA)).bind fun v => (resA fr h rest).map (v :: ·)

def tupled : List AV → AV
  | [v] => v
  | vs => .tup vs

/-- What a program's functions are, and their settings. `spec`: functions taken by a contract. -/
structure Cfg where
  code : FuncId → Option RFunc
  ctx : FuncId → Ctx
  spec : FuncId → Option (List AV → Option AV)

def startFr (rf : RFunc) (args : List AV) : Fr := args ++ List.replicate (rf.ntmps - args.length) undefA

def evalBody (O : Orc) (c : Ctx) (rf : RFunc) (args : List AV) (h : AH) : Option (AV × AH) :=
  match evalCode O c rf.body (startFr rf args, h) with
  | some (.normal, s) => (resA s.1 s.2 rf.results).map fun vs => (tupled vs, s.2)
  | some (.ret, s) => (resA s.1 s.2 rf.results).map fun vs => (tupled vs, s.2)
  | _ => none

def rawA (C : Cfg) (O : Orc) (f : FuncId) (args : List AV) (h : AH) : Option (AV × AH) :=
  match C.code f with
  | some rf => evalBody O (C.ctx f) rf args h
  | none => none

def pureA (C : Cfg) (O : Orc) (f : FuncId) (args : List AV) : Option AV :=
  match C.spec f with
  | some s => s args
  | none =>
    match rawA C O f args AH.empty with
    | some (r, h) => frzRes h r
    | none => none

def iter (step : St → Option (Ex × St)) : Nat → St → Option (Ex × St)
  | 0, _ => none
  | n + 1, s =>
    match step s with
    | some (.normal, s') => iter step n s'
    | r => r

def orc (C : Cfg) : Nat → Orc
  | 0 => ⟨fun _ _ => none, fun _ _ _ => none, fun _ _ => none⟩
  | n + 1 => ⟨pureA C (orc C n), rawA C (orc C n), fun step s => iter step (n + 1) s⟩

end Go.Abs
