/- A statement whose operations come in the order of the text. -/
import Derived.WalkKit
/- An abstract interpreter for resolved code: pure immutable slices as lists, boxes and growable rows as an abstract heap, calls by an oracle. Definitions only. -/
namespace Go.Abs

/-- Abstract values. `vs`: an immutable slice (its elements are pure, of sz cells each; `full`: no spare capacity); `sl k n off len`: a view of row k, valid while the row has n elements; `pv`: the address of immutable cells; `ep k n i c`: cell c of element i of row k; `ptr b off`: cell of box b. -/
inductive AV where
  | junk
  | bool (b : Bool)
  | int (k : IntKind) (n : Int)
  | str (s : ByteArray)
  | agg (cs : List AV)
  | tup (vs : List AV)
  | vs (full : Bool) (sz : Nat) (xs : List AV)
  | sl (k n off len : Nat)
  | pv (cs : List AV)
  | ep (k n i c : Nat)
  | ptr (b off : Nat)
  | nilp
  | fn (f : FuncId) (caps : List AV)
  | nilf
  deriving Inhabited

def AV.cells : AV → List AV
  | .agg cs => cs
  | v => [v]

def undefA : AV := .tup []

/-- A value of several results, or none. -/
def AV.isTup : AV → Bool
  | .tup _ => true
  | _ => false

structure Fam where
  xs : List AV
  sz : Nat
  wr : Bool

structure AH where
  boxes : List (List AV)
  fams : List Fam

def AH.empty : AH := ⟨[], []⟩

inductive Opd where
  | t (n : Nat)
  | c (v : AV)

inductive ROp where
  | mov (x : Opd)
  | pick (c a b : Opd)
  | box (x : Opd)
  | alloc (z : AV)
  | build (z : AV) (parts : List (Nat × Nat × Opd))
  | bslice (n : Nat) (z : AV) (parts : List (Nat × Opd))
  | ld (agg : Bool) (n : Nat) (x : Opd)
  | ldb (agg : Bool) (n : Nat) (x : Opd)
  | st (n : Nat) (a x : Opd)
  | nilck (x : Opd)
  | bin (op : BinOp) (x y : Opd)
  | beq (neg : Bool) (x y : Opd)
  | nileq (neg : Bool) (x : Opd)
  | un (op : UnOp) (x : Opd)
  | conv (k : IntKind) (x : Opd)
  | cstr (x : Opd)
  | clos (f : FuncId) (caps : List Opd)
  | mkslice (z : AV) (bytes : Nat) (len cap : Opd)
  | slc (sz : Nat) (x : Opd) (lo hi mx : Option Opd)
  | faddr (off : Nat) (x : Opd)
  | fld (agg : Bool) (off n : Nat) (x : Opd)
  | iaddr (sz : Nat) (x i : Opd)
  | idx (x i : Opd)
  | ext (x : Opd) (i : Nat)
  | len (str : Bool) (x : Opd)
  | app (sz bytes : Nat) (s x : Opd)
  | max (x y : Opd)
  | call (f : FuncId) (args : List Opd)
  | callv (x : Opd) (args : List Opd)

structure RO where
  dst : Option Nat
  op : ROp
  guard : Option (Nat × Bool)

inductive RCode where
  | skip
  | region (draw : Bool) (ops : List RO)
  | seq (a b : RCode)
  | cond (c : Opd) (a b : RCode)
  | block (id : Nat) (a : RCode)
  | loop (a : RCode)
  | exit (id : Nat)
  | ret

inductive RRes where
  | tmp (t : Nat)
  | cell (a : Nat) (agg : Bool) (n : Nat)

structure RFunc where
  ntmps : Nat
  results : List RRes
  body : RCode

inductive Ex where
  | normal
  | exit (id : Nat)
  | ret

abbrev Fr := List AV
abbrev St := Fr × AH

/-- What evaluation asks for: calls of pure functions, calls that share the heap, loops. -/
structure Orc where
  pure : FuncId → List AV → Option AV
  raw : FuncId → List AV → AH → Option (AV × AH)
  loop : (St → Option (Ex × St)) → St → Option (Ex × St)

/-- Settings of one function: which callees share the heap; whether rows that its appends begin may be written to. -/
structure Ctx where
  raw : FuncId → Bool
  mutApp : Bool

def get (fr : Fr) : Opd → AV
  | .t n => fr.getD n undefA
  | .c v => v

def put (fr : Fr) (dst : Option Nat) (v : AV) : Fr :=
  match dst with
  | some d => fr.set d v
  | none => fr

def ofCells (agg : Bool) (n : Nat) (cs : List AV) : Option AV :=
  match agg with
  | true => if n ≤ cs.length then some (.agg (cs.take n)) else none
  | false => cs.head?

def AV.reform (x : AV) (cs : List AV) : Option AV :=
  match x with
  | .agg _ => some (.agg cs)
  | _ => cs.head?

/-- The elements of a slice that can be read. -/
def elems (h : AH) (sz : Nat) : AV → Option (List AV)
  | .vs _ z xs => if z = sz ∨ xs.length = 0 then some xs else none
  | .sl k n off len =>
    match h.fams[k]? with
    | some f => if f.xs.length = n ∧ f.sz = sz ∧ off + len ≤ n then some ((f.xs.drop off).take len) else none
    | none => none
  | _ => none

/-- A value (of one cell) laid to rest: a view of a row becomes its elements. `am`: views of rows that may be written to are let. -/
def AV.flat : AV → Bool
  | .sl .. | .ep .. | .ptr .. | .agg _ | .tup _ => false
  | .fn _ cs => cs.isEmpty
  | _ => true

def frz1 (h : AH) (am : Bool) : AV → Option AV
  | .sl k n off len =>
    match h.fams[k]? with
    | some f => if f.xs.length = n ∧ off + len ≤ n ∧ (am || !f.wr) = true then some (.vs false f.sz ((f.xs.drop off).take len)) else none
    | none => none
  | .ep .. => none
  | .ptr .. => none
  | .agg _ => none
  | .tup _ => none
  | .fn f caps => if caps.all AV.flat then some (.fn f caps) else none
  | x => some x

def frzL (h : AH) (am : Bool) : List AV → Option (List AV)
  | [] => some []
  | x :: xs => (frz1 h am x).bind fun y => (frzL h am xs).map (y :: ·)

def frz (h : AH) (am : Bool) : AV → Option AV
  | .agg cs => (frzL h am cs).map .agg
  | x => frz1 h am x

def frzAll (h : AH) (am : Bool) : List AV → Option (List AV)
  | [] => some []
  | x :: xs => (frz h am x).bind fun y => (frzAll h am xs).map (y :: ·)

/-- A result laid to rest. -/
def frzRes (h : AH) : AV → Option AV
  | .tup vs => (frzAll h true vs).map .tup
  | x => frz h true x

def AV.scalar1 : AV → Bool
  | .bool _ | .int .. | .str _ | .nilp | .nilf => true
  | _ => false

def AV.scalar0 : AV → Bool
  | .agg cs => cs.all AV.scalar1
  | v => v.scalar1

def AV.scalar : AV → Bool
  | .tup us => us.all AV.scalar0
  | v => v.scalar0

/-- No view of a row that may be written to. -/
def tame1 (h : AH) : AV → Bool
  | .sl k _ _ _ => match h.fams[k]? with | some f => !f.wr | none => false
  | _ => true

def tame (h : AH) : AV → Bool
  | .agg cs => cs.all (tame1 h)
  | v => tame1 h v

def loadA (h : AH) (agg : Bool) (n : Nat) : AV → Option AV
  | .pv cs => ofCells agg n cs
  | .ptr b off =>
    match h.boxes[b]? with
    | some cs => ofCells agg n (cs.drop off)
    | none => none
  | .ep k m i c =>
    match h.fams[k]? with
    | some f => if f.xs.length = m then (match f.xs[i]? with | some x => ofCells agg n (x.cells.drop c) | none => none) else none
    | none => none
  | _ => none

def splice (cs : List AV) (off : Nat) (new : List AV) : List AV := cs.take off ++ new ++ cs.drop (off + new.length)

def storeA (h : AH) (n : Nat) (v : AV) : AV → Option AH
  | .ptr b off =>
    match h.boxes[b]? with
    | some cs => if v.isTup = false ∧ v.cells.length = n ∧ off + n ≤ cs.length then some { h with boxes := h.boxes.set b (splice cs off v.cells) } else none
    | none => none
  | .ep k m i c =>
    match h.fams[k]? with
    | some f =>
      if f.xs.length = m ∧ f.wr = true then
        match f.xs[i]?, frz h false v with
        | some x, some u =>
          if u.cells.length = n ∧ c + n ≤ x.cells.length then
            (x.reform (splice x.cells c u.cells)).map fun y => { h with fams := h.fams.set k { f with xs := f.xs.set i y } }
          else none
        | _, _ => none
      else none
    | none => none
  | _ => none

def evalBin (op : BinOp) : AV → AV → Option AV
  | .int k a, .int k' b =>
    match op with
    | .add => if k = k' then some (.int k (k.wrap (a + b))) else none
    | .sub => if k = k' then some (.int k (k.wrap (a - b))) else none
    | .mul => if k = k' then some (.int k (k.wrap (a * b))) else none
    | .quo => if k = k' ∧ b ≠ 0 then some (.int k (k.wrap (a.tdiv b))) else none
    | .rem => if k = k' ∧ b ≠ 0 then some (.int k (a.tmod b)) else none
    | .eql => if k = k' then some (.bool (a == b)) else none
    | .neq => if k = k' then some (.bool (a != b)) else none
    | .lss => if k = k' then some (.bool (decide (a < b))) else none
    | .leq => if k = k' then some (.bool (decide (a ≤ b))) else none
    | .gtr => if k = k' then some (.bool (decide (a > b))) else none
    | .geq => if k = k' then some (.bool (decide (a ≥ b))) else none
    | .shl => if 0 ≤ b then some (.int k (k.wrap (a * 2 ^ (min b.toNat k.bits)))) else none
    | .shr => if 0 ≤ b then some (.int k (a.fdiv (2 ^ (min b.toNat k.bits)))) else none
    | .and => if k = k' then some (.int k (k.wrap (BitVec.ofInt k.bits a &&& BitVec.ofInt k.bits b).toNat)) else none
    | .or => if k = k' then some (.int k (k.wrap (BitVec.ofInt k.bits a ||| BitVec.ofInt k.bits b).toNat)) else none
    | .xor => if k = k' then some (.int k (k.wrap (BitVec.ofInt k.bits a ^^^ BitVec.ofInt k.bits b).toNat)) else none
    | _ => none
  | .str a, .str b =>
    match op with
    | .add => if ((a.size + b.size : Nat) : Int) > IntKind.i64.max then none else some (.str (a ++ b))
    | .eql => some (.bool (a.toList == b.toList))
    | .neq => some (.bool !(a.toList == b.toList))
    | .lss => some (.bool (Op.bytesLess a.toList b.toList))
    | .leq => some (.bool (Op.bytesLess a.toList b.toList || a.toList == b.toList))
    | .gtr => some (.bool !(Op.bytesLess a.toList b.toList || a.toList == b.toList))
    | .geq => some (.bool !(Op.bytesLess a.toList b.toList))
    | _ => none
  | _, _ => none

def evalUn (op : UnOp) : AV → Option AV
  | .bool b => match op with | .not => some (.bool !b) | _ => none
  | .int k n => match op with | .neg => some (.int k (k.wrap (0 - n))) | _ => none
  | _ => none

def fillParts (cs : List AV) : List (Nat × AV) → List AV
  | [] => cs
  | (off, v) :: rest => fillParts (splice cs off v.cells) rest

/-- The parts of a struct that is built: offset, size, value. -/
def buildParts (fr : Fr) (len : Nat) : List (Nat × Nat × Opd) → Option (List (Nat × AV))
  | [] => some []
  | (off, n, x) :: rest =>
    if (get fr x).isTup = false ∧ (get fr x).cells.length = n ∧ off + n ≤ len then (buildParts fr len rest).map ((off, get fr x) :: ·) else none

def sliceParts (fr : Fr) (h : AH) (xs : List AV) : List (Nat × Opd) → Option (List AV)
  | [] => some xs
  | (i, x) :: rest =>
    match xs[i]?, frz h false (get fr x) with
    | some z, some y => if y.cells.length = z.cells.length then sliceParts fr h (xs.set i y) rest else none
    | _, _ => none

def boundA (fr : Fr) : Option Opd → Option (Option Int)
  | none => some none
  | some x => match get fr x with | .int _ i => some (some i) | _ => none

def sliceA (H : AH) (sz : Nat) (x : AV) (lo hi mx : Option Int) : Option AV :=
  match x with
  | .str s =>
    let l := lo.getD 0
    let h := hi.getD s.size
    if sz = 0 ∧ mx = none ∧ 0 ≤ l ∧ l ≤ h ∧ h ≤ s.size then some (.str (s.extract l.toNat h.toNat)) else none
  | .vs full z xs =>
    let l := lo.getD 0
    let h := hi.getD xs.length
    if 0 < sz ∧ (z = sz ∨ xs.length = 0) then
      match mx with
      | none =>
        if 0 ≤ l ∧ l ≤ h ∧ h ≤ xs.length then some (.vs (full && decide (h = xs.length)) z ((xs.drop l.toNat).take (h - l).toNat)) else none
      | some m =>
        if hi.isSome ∧ 0 ≤ l ∧ l ≤ h ∧ h ≤ m ∧ m ≤ xs.length then some (.vs (decide (m = h)) z ((xs.drop l.toNat).take (h - l).toNat)) else none
    else none
  | .sl k n off len =>
    let l := lo.getD 0
    let h := hi.getD len
    match H.fams[k]? with
    | some f =>
      if 0 < sz ∧ f.sz = sz ∧ f.xs.length = n then
        match mx with
        | none => if 0 ≤ l ∧ l ≤ h ∧ h ≤ len then some (.sl k n (off + l.toNat) (h - l).toNat) else none
        | some m => if hi.isSome ∧ l = 0 ∧ h = 0 ∧ m = 0 then some (.vs true sz []) else none
      else none
    | none => none
  | _ => none

def roomA : Nat := 140737488355328

def appendA (c : Ctx) (h : AH) (sz bytes : Nat) (s x : AV) : Option (AV × AH) :=
  match elems h sz x with
  | none => none
  | some ys =>
    match s with
    | .vs true z xs =>
      if ys.length = 0 then some (.vs true z xs, h)
      else if (z = sz ∨ xs.length = 0) ∧ (xs.length + ys.length) * bytes ≤ roomA ∧ xs.length + ys.length ≤ maxLen then
        some (.sl h.fams.length (xs.length + ys.length) 0 (xs.length + ys.length), { h with fams := h.fams ++ [⟨xs ++ ys, sz, c.mutApp⟩] })
      else none
    | .sl k n off len =>
      match h.fams[k]? with
      | some f =>
        if f.xs.length = n ∧ f.sz = sz ∧ off + len = n ∧ (n + ys.length) * bytes ≤ roomA ∧ n + ys.length ≤ maxLen then
          some (.sl k (n + ys.length) off (len + ys.length), { h with fams := h.fams.set k { f with xs := f.xs ++ ys } })
        else none
      | none => none
    | _ => none

def callA (O : Orc) (c : Ctx) (f : FuncId) (args : List AV) (h : AH) : Option (AV × AH) :=
  if c.raw f then O.raw f args h
  else
    match frzAll h true args with
    | none => none
    | some aas =>
      match O.pure f aas with
      | none => none
      | some r => if r.scalar || args.all (tame h) then some (r, h) else none

def evalOp (O : Orc) (c : Ctx) (o : ROp) (fr : Fr) (h : AH) : Option (AV × AH) :=
  match o with
  | .mov x => some (get fr x, h)
  | .pick q a b => match get fr q with | .bool t => some (if t then get fr a else get fr b, h) | _ => none
  | .box x => if (get fr x).isTup then none else some (.ptr h.boxes.length 0, { h with boxes := h.boxes ++ [(get fr x).cells] })
  | .alloc z => some (.ptr h.boxes.length 0, { h with boxes := h.boxes ++ [z.cells] })
  | .build z parts => match buildParts fr z.cells.length parts with | some ps => some (.agg (fillParts z.cells ps), h) | none => none
  | .bslice n z parts => match sliceParts fr h (List.replicate n z) parts with | some xs => some (.vs true z.cells.length xs, h) | none => none
  | .ldb agg n x => match get fr x with | .ep .. => none | p => (match loadA h agg n p with | some v => some (v, h) | none => none)
  | .ld agg n x => match loadA h agg n (get fr x) with | some v => some (v, h) | none => none
  | .st n a x => match storeA h n (get fr x) (get fr a) with | some h' => some (undefA, h') | none => none
  | .nilck x => match get fr x with | .pv cs => some (.pv cs, h) | .ptr b o => some (.ptr b o, h) | .ep k n i q => some (.ep k n i q, h) | .fn f cs => some (.fn f cs, h) | _ => none
  | .bin op x y => match evalBin op (get fr x) (get fr y) with | some v => some (v, h) | none => none
  | .beq neg x y => match get fr x, get fr y with | .bool a, .bool b => some (.bool (if neg then !(a == b) else a == b), h) | _, _ => none
  | .nileq neg x => match get fr x with | .vs _ z _ => some (.bool (if neg then !(z == 0) else z == 0), h) | _ => none
  | .un op x => match evalUn op (get fr x) with | some v => some (v, h) | none => none
  | .conv k x => match get fr x with | .int _ n => some (.int k (k.wrap n), h) | _ => none
  | .cstr x => match get fr x with | .str s => some (.str s, h) | _ => none
  | .clos f caps => some (.fn f (caps.map (get fr)), h)
  | .mkslice z bytes l q =>
    match get fr l, get fr q with
    | .int _ a, .int _ b =>
      if 0 ≤ a ∧ a ≤ b ∧ b * bytes ≤ roomA ∧ b ≤ maxLen then
        some (.sl h.fams.length a.toNat 0 a.toNat, { h with fams := h.fams ++ [⟨List.replicate a.toNat z, z.cells.length, true⟩] })
      else none
    | _, _ => none
  | .slc sz x lo hi mx =>
    match boundA fr lo, boundA fr hi, boundA fr mx with
    | some l, some u, some m => match sliceA h sz (get fr x) l u m with | some v => some (v, h) | none => none
    | _, _, _ => none
  | .faddr off x => match get fr x with | .pv cs => some (.pv (cs.drop off), h) | .ptr b o => some (.ptr b (o + off), h) | .ep k n i q => some (.ep k n i (q + off), h) | _ => none
  | .fld agg off n x => match get fr x with | .agg cs => (match ofCells agg n (cs.drop off) with | some v => some (v, h) | none => none) | _ => none
  | .iaddr sz x i =>
    match get fr x, get fr i with
    | .vs _ z xs, .int _ j => if 0 ≤ j ∧ z = sz then (match xs[j.toNat]? with | some e => some (.pv e.cells, h) | none => none) else none
    | .sl k n off len, .int _ j =>
      match h.fams[k]? with
      | some f => if 0 ≤ j ∧ j < len ∧ f.sz = sz ∧ f.xs.length = n then some (.ep k n (off + j.toNat) 0, h) else none
      | none => none
    | _, _ => none
  | .idx x i =>
    match get fr x, get fr i with
    | .str s, .int _ j => if 0 ≤ j then (match s[j.toNat]? with | some b => some (.int .u8 b.toNat, h) | none => none) else none
    | _, _ => none
  | .ext x i => match get fr x with | .tup vs => (match vs[i]? with | some v => some (v, h) | none => none) | _ => none
  | .len true x => match get fr x with | .str s => some (.int .i64 s.size, h) | _ => none
  | .len false x =>
    match get fr x with
    | .vs _ _ xs => some (.int .i64 xs.length, h)
    | .sl _ _ _ len => some (.int .i64 len, h)
    | _ => none
  | .app sz bytes s x => appendA c h sz bytes (get fr s) (get fr x)
  | .max x y => match get fr x, get fr y with | .int k a, .int k' b => if k = k' then some (.int k (if b > a then b else a), h) else none | _, _ => none
  | .call f args => callA O c f (args.map (get fr)) h
  | .callv x args => match get fr x with | .fn f caps => callA O c f (args.map (get fr) ++ caps) h | _ => none

/-- Is an operation to be carried out? (`none`: it can't be told.) -/
def wantedA (fr : Fr) : Option (Nat × Bool) → Option Bool
  | none => some true
  | some (s, want) =>
    match fr.getD s undefA with
    | .bool b => some (b == want)
    | .tup _ => some false
    | _ => none

def evalOps (O : Orc) (c : Ctx) : List RO → Fr → AH → Option (Fr × AH)
  | [], fr, h => some (fr, h)
  | o :: rest, fr, h =>
    match wantedA fr o.guard with
    | some true =>
      match evalOp O c o.op fr h with
      | some (v, h') => evalOps O c rest (put fr o.dst v) h'
      | none => none
    | some false => evalOps O c rest (put fr o.dst undefA) h
    | none => none

def evalCode (O : Orc) (c : Ctx) : RCode → St → Option (Ex × St)
  | .skip, s => some (.normal, s)
  | .region _ ops, s =>
    match evalOps O c ops s.1 s.2 with
    | some s' => some (.normal, s')
    | none => none
  | .seq a b, s =>
    match evalCode O c a s with
    | some (.normal, s') => evalCode O c b s'
    | r => r
  | .cond q a b, s =>
    match get s.1 q with
    | .bool true => evalCode O c a s
    | .bool false => evalCode O c b s
    | _ => none
  | .block id a, s =>
    match evalCode O c a s with
    | some (.exit id', s') => if id' = id then some (.normal, s') else some (.exit id', s')
    | r => r
  | .loop a, s => O.loop (evalCode O c a) s
  | .exit id, s => some (.exit id, s)
  | .ret, s => some (.ret, s)

def resA (fr : Fr) (h : AH) : List RRes → Option (List AV)
  | [] => some []
  | .tmp t :: rest => (resA fr h rest).map (fr.getD t undefA :: ·)
  | .cell a agg n :: rest => (loadA h agg n (fr.getD a undefA)).bind fun v => (resA fr h rest).map (v :: ·)

def tupled : List AV → AV
  | [v] => v
  | vs => .tup vs

/-- What a program's functions are, and their settings. `spec`: functions taken by a contract. -/
structure Cfg where
  code : FuncId → Option RFunc
  ctx : FuncId → Ctx
  spec : FuncId → Option (List AV → Option AV)

def startFr (rf : RFunc) (args : List AV) : Fr := args ++ List.replicate (rf.ntmps - args.length) undefA

def evalBody (O : Orc) (c : Ctx) (rf : RFunc) (args : List AV) (h : AH) : Option (AV × AH) :=
  match evalCode O c rf.body (startFr rf args, h) with
  | some (.normal, s) => (resA s.1 s.2 rf.results).map fun vs => (tupled vs, s.2)
  | some (.ret, s) => (resA s.1 s.2 rf.results).map fun vs => (tupled vs, s.2)
  | _ => none

def rawA (C : Cfg) (O : Orc) (f : FuncId) (args : List AV) (h : AH) : Option (AV × AH) :=
  match C.code f with
  | some rf => evalBody O (C.ctx f) rf args h
  | none => none

def pureA (C : Cfg) (O : Orc) (f : FuncId) (args : List AV) : Option AV :=
  match C.spec f with
  | some s => s args
  | none =>
    match rawA C O f args AH.empty with
    | some (r, h) => frzRes h r
    | none => none

def iter (step : St → Option (Ex × St)) : Nat → St → Option (Ex × St)
  | 0, _ => none
  | n + 1, s =>
    match step s with
    | some (.normal, s') => iter step n s'
    | r => r

def orc (C : Cfg) : Nat → Orc
  | 0 => ⟨fun _ _ => none, fun _ _ _ => none, fun _ _ => none⟩
  | n + 1 => ⟨pureA C (orc C n), rawA C (orc C n), fun step s => iter step (n + 1) s⟩

end Go.Abs

/- The resolved form of a program's functions: types looked up, operands laid out; a statement whose order is open is let only where each pair of operations that could disturb each other is ordered. -/
namespace Go.Abs

def constAV1 : Value → Option AV
  | .bool b => some (.bool b)
  | .int k n => some (.int k n)
  | .string s => some (.str s)
  | .slice none 0 0 => some (.vs true 0 [])
  | .pointer none => some .nilp
  | .nilFunc => some .nilf
  | .func (.func f) a b => if a.size = 0 ∧ b.size = 0 then some (.fn f []) else none
  | _ => none

def mapO {α β : Type} (f : α → Option β) : List α → Option (List β)
  | [] => some []
  | x :: xs => match f x, mapO f xs with | some y, some ys => some (y :: ys) | _, _ => none

def constAV : Value → Option AV
  | .agg cs => (mapO constAV1 cs.toList).map .agg
  | .tuple vs => if vs.size = 0 then some (.tup []) else none
  | v => constAV1 v

def resOpd : Operand → Option Opd
  | .tmp t => some (.t t)
  | .const v => (constAV v).map .c
  | .func f => some (.c (.fn f []))
  | .global _ => none

def resOpt : Option Operand → Option (Option Opd)
  | none => some none
  | some x => (resOpd x).map some

def Program.agg? (P : Program) (t : TypeId) : Option Bool :=
  match P.underlying t with
  | some (.struct _) | some (.array _ _) => some true
  | some _ => some false
  | none => none

def Program.size? (P : Program) (t : TypeId) : Option Nat := (P.info? t).map (·.size)

/-- The zero value, where its number of cells is the type's. -/
def Program.zeroA (P : Program) (t : TypeId) : Option AV :=
  match P.info? t with
  | some i =>
    match i.zero with
    | some z =>
      match constAV z with
      | some x => if z.cells.size = i.size ∧ x.isTup = false then some x else none
      | none => none
    | none => none
  | none => none

def Program.enterable (P : Program) (f : FuncId) : Bool :=
  match P.funcs[f]? with
  | some fn => fn.body.isSome && !(fn.name == "runtime.NumGoroutine")
  | none => false

def resPart (P : Program) (fs : Array Field) (p : Nat × Operand) : Option (Nat × Nat × Opd) :=
  match fs[p.1]?, resOpd p.2 with
  | some f, some x => match Program.size? P f.type with | some n => some (f.offset, n, x) | none => none
  | _, _ => none

def resElem (p : Nat × Operand) : Option (Nat × Opd) := (resOpd p.2).map fun x => (p.1, x)

def resOp (P : Program) : Op → Option ROp
  | .move x => (resOpd x).map .mov
  | .assign x => (resOpd x).map .mov
  | .pick c a b => match resOpd c, resOpd a, resOpd b with | some c, some a, some b => some (.pick c a b) | _, _, _ => none
  | .alloc t => (Program.zeroA P t).map .alloc
  | .box _ x => (resOpd x).map .box
  | .build t parts =>
    match P.underlying t, Program.zeroA P t with
    | some (.struct fs), some (.agg zs) =>
      if (fs.toList.mapM fun f => (P.info? f.type).map fun i => (f.offset, i.size)).isSome then (mapO (resPart P fs) parts.toList).map (.build (.agg zs)) else none
    | _, _ => none
  | .buildSlice t len parts =>
    match P.underlying t with
    | some (.slice e) =>
      match Program.zeroA P e, Program.size? P e, mapO resElem parts.toList with
      | some z, some n, some ps => if 0 < n ∧ len * n ≤ 2 ^ 24 then some (.bslice len z ps) else none
      | _, _, _ => none
    | _ => none
  | .load t x => match Program.agg? P t, Program.size? P t, resOpd x with | some b, some n, some x => some (.ld b n x) | _, _, _ => none
  | .store t a x => match Program.size? P t, resOpd a, resOpd x with | some n, some a, some x => some (.st n a x) | _, _, _ => none
  | .nilCheck x => (resOpd x).map .nilck
  | .binOp op t x y _ =>
    match resOpd x, resOpd y with
    | some x, some y =>
      match P.underlying t, op with
      | some .bool, .eql => some (.beq false x y)
      | some .bool, .neq => some (.beq true x y)
      | some (.slice _), .eql => match y with | .c (.vs true 0 []) => some (.nileq false x) | _ => none
      | some (.slice _), .neq => match y with | .c (.vs true 0 []) => some (.nileq true x) | _ => none
      | _, _ => some (.bin op x y)
    | _, _ => none
  | .unOp op _ x => (resOpd x).map (.un op)
  | .convert s d x =>
    match P.underlying s, P.underlying d with
    | some (.int _), some (.int k) => (resOpd x).map (.conv k)
    | some .string, some .string => (resOpd x).map .cstr
    | _, _ => none
  | .makeFunc (.func f) first caps => if first.size = 0 then (mapO resOpd caps.toList).map (.clos f) else none
  | .makeSlice t l c =>
    match P.underlying t with
    | some (.slice e) =>
      match P.info? e, Program.zeroA P e, resOpd l, resOpd c with
      | some i, some z, some l, some c => if 0 < i.size then some (.mkslice z i.bytes l c) else none
      | _, _, _, _ => none
    | _ => none
  | .slice t x lo hi mx =>
    match P.underlying t, resOpd x, resOpt lo, resOpt hi, resOpt mx with
    | some .string, some x, some lo, some hi, some none => some (.slc 0 x lo hi none)
    | some (.slice e), some x, some lo, some hi, some mx => match Program.size? P e with | some n => if 0 < n then some (.slc n x lo hi mx) else none | none => none
    | _, _, _, _, _ => none
  | .fieldAddr s x i =>
    match P.underlying s, resOpd x with
    | some (.struct fs), some x =>
      match fs[i]? with
      | some f => match Program.size? P f.type with | some n => if 0 < n then some (.faddr f.offset x) else none | none => none
      | none => none
    | _, _ => none
  | .field s x i =>
    match P.underlying s, resOpd x with
    | some (.struct fs), some x =>
      match fs[i]? with
      | some f => match Program.agg? P f.type, Program.size? P f.type with | some b, some n => some (.fld b f.offset n x) | _, _ => none
      | none => none
    | _, _ => none
  | .indexAddr t x i =>
    match P.underlying t, resOpd x, resOpd i with
    | some (.slice e), some x, some i => match Program.size? P e with | some n => if 0 < n then some (.iaddr n x i) else none | none => none
    | _, _, _ => none
  | .index t x i => match P.underlying t, resOpd x, resOpd i with | some .string, some x, some i => some (.idx x i) | _, _, _ => none
  | .extract x i => (resOpd x).map fun x => .ext x i
  | .call { callee := .builtin .len, args, argTypes } =>
    match args.toList, argTypes.toList with
    | [x], [t] =>
      match P.underlying t with
      | some .string => (resOpd x).map (.len true)
      | some (.slice _) => (resOpd x).map (.len false)
      | _ => none
    | _, _ => none
  | .call { callee := .builtin .append, args, argTypes } =>
    match args.toList, argTypes.toList with
    | [s, x], [t, u] =>
      match P.underlying t with
      | some (.slice e) =>
        match P.info? e, Program.zeroA P e, resOpd s, resOpd x with
        | some i, some _, some s, some x => if 0 < i.size ∧ t = u then some (.app i.size i.bytes s x) else none
        | _, _, _, _ => none
      | _ => none
    | _, _ => none
  | .call { callee := .builtin .max, args, argTypes := _ } =>
    match args.toList with
    | [x, y] => match resOpd x, resOpd y with | some x, some y => some (.max x y) | _, _ => none
    | _ => none
  | .call { callee := .value (.func f), args, argTypes := _ } => if Program.enterable P f then (mapO resOpd args.toList).map (.call f) else none
  | .call { callee := .value (.tmp t), args, argTypes := _ } => (mapO resOpd args.toList).map (.callv (.t t))
  | _ => none

/-- The slot of the operation that a guard names. -/
def resGuard (ops : List Oper) : Option (Nat × Bool) → Option (Option (Nat × Bool))
  | none => some none
  | some (j, want) =>
    match ops[j]? with
    | some o => match o.dst with | some d => some (some (d, want)) | none => none
    | none => none

def resRO (P : Program) (ops : List Oper) (o : Oper) : Option RO :=
  match resOp P o.op, resGuard ops o.guard with
  | some r, some g => some ⟨o.dst, r, g⟩
  | _, _ => none

/-! ### Which orders matter -/

def Opd.slots : Opd → List Nat
  | .t n => [n]
  | .c _ => []

def optSlots : Option Opd → List Nat
  | some x => x.slots
  | none => []

def ROp.slots : ROp → List Nat
  | .mov x | .box x | .ld _ _ x | .ldb _ _ x | .nilck x | .un _ x | .nileq _ x | .conv _ x | .cstr x | .faddr _ x | .fld _ _ _ x | .ext x _ | .len _ x => x.slots
  | .pick c a b => c.slots ++ a.slots ++ b.slots
  | .alloc _ => []
  | .build _ ps => ps.flatMap fun p => p.2.2.slots
  | .bslice _ _ ps => ps.flatMap fun p => p.2.slots
  | .st _ a x | .bin _ a x | .beq _ a x | .mkslice _ _ a x | .iaddr _ a x | .idx a x | .app _ _ a x | .max a x => a.slots ++ x.slots
  | .clos _ cs => cs.flatMap Opd.slots
  | .slc _ x a b c => x.slots ++ optSlots a ++ optSlots b ++ optSlots c
  | .call _ aas => aas.flatMap Opd.slots
  | .callv x aas => x.slots ++ aas.flatMap Opd.slots

def RO.slots (o : RO) : List Nat := o.op.slots ++ (match o.guard with | some (s, _) => [s] | none => [])

/-- Operations that may turn the boxes. -/
def ROp.writesB (c : Ctx) : ROp → Bool
  | .box _ | .alloc _ | .st .. | .callv .. => true
  | .call f _ => c.raw f
  | _ => false

/-- Operations that may turn the rows. -/
def ROp.writesF (c : Ctx) : ROp → Bool
  | .st .. | .mkslice .. | .app .. | .callv .. => true
  | .call f _ => c.raw f
  | _ => false

/-- Operations that look at the boxes. -/
def ROp.looksB (c : Ctx) : ROp → Bool
  | .box _ | .alloc _ | .st .. | .callv .. | .ld .. | .ldb .. => true
  | .call f _ => c.raw f
  | _ => false

/-- Operations that look at the rows. -/
def ROp.looksF : ROp → Bool
  | .st .. | .mkslice .. | .app .. | .callv .. | .call .. | .ld .. | .bslice .. | .iaddr .. | .slc .. => true
  | _ => false

def ROp.lax : ROp → ROp
  | .ld b n x => .ldb b n x
  | o => o

def RO.lax (o : RO) : RO := { o with op := o.op.lax }

/-- For each operation the set (as a number's bits) of those that surely come before it. -/
def before : List Oper → List Nat → List Nat
  | [], acc => acc
  | o :: rest, acc => before rest (acc ++ [o.after.toList.foldl (fun s e => if Region.binds .any e then s ||| 2 ^ e.on ||| acc.getD e.on 0 else s) 0])

def pairOk (c : Ctx) (bj : Nat) (i : Nat) (oi oj : RO) : Bool :=
  bj.testBit i ||
    ((match oi.dst with | some d => !oj.slots.contains d && oj.dst != some d | none => true) &&
     (match oj.dst with | some d => !oi.slots.contains d | none => true) &&
     !(oi.op.writesB c && oj.op.looksB c) && !(oi.op.looksB c && oj.op.writesB c) && !(oi.op.writesF c && oj.op.looksF) && !(oi.op.looksF && oj.op.writesF c))

def edgesOk : List Oper → Nat → Bool
  | [], _ => true
  | o :: rest, i => o.after.toList.all (fun e => !Region.binds .any e || decide (e.on < i)) && edgesOk rest (i + 1)

def pairsOk (c : Ctx) (bs : List Nat) (ros : List RO) : Bool :=
  (List.range ros.length).all fun j => (List.range j).all fun i =>
    match ros[i]?, ros[j]? with
    | some oi, some oj => pairOk c (bs.getD j 0) i oi oj && (match oi.dst, oj.dst with | some d, some e => d != e | _, _ => true)
    | _, _ => false

def orderOk (c : Ctx) (ops : List Oper) (ros : List RO) : Bool := edgesOk ops 0 && pairsOk c (before ops []) ros

def resCode (P : Program) (c : Ctx) : Code → Option RCode
  | .skip => some .skip
  | .region _ ops draw =>
    match mapO (resRO P ops.toList) ops.toList with
    | some ros =>
      if !draw || orderOk c ops.toList ros then some (.region draw ros)
      else if orderOk c ops.toList (ros.map RO.lax) then some (.region true (ros.map RO.lax)) else none
    | none => none
  | .seq a b => match resCode P c a, resCode P c b with | some a, some b => some (.seq a b) | _, _ => none
  | .cond q a b => match resOpd q, resCode P c a, resCode P c b with | some q, some a, some b => some (.cond q a b) | _, _, _ => none
  | .block id a => (resCode P c a).map (.block id)
  | .loop a => (resCode P c a).map .loop
  | .exit id => some (.exit id)
  | .ret => some .ret
  | _ => none

def resRes (P : Program) : ResultVar → Option RRes
  | .tmp t => some (.tmp t)
  | .cell a t => match Program.agg? P t, Program.size? P t with | some b, some n => some (.cell a b n) | _, _ => none

def resFunc (P : Program) (ctx : FuncId → Ctx) (f : FuncId) : Option RFunc :=
  if Program.enterable P f then
    match P.funcs[f]? with
    | some fn =>
      match fn.body with
      | some b =>
        match mapO (resRes P) fn.results.toList, resCode P (ctx f) b with
        | some rs, some rb => some ⟨fn.ntmps, rs, rb⟩
        | _, _ => none
      | none => none
    | none => none
  else none

end Go.Abs

/- How abstract values stand to the model's values and memory. -/
namespace Go.Abs

mutual
/-- A pure value: `ok b o`: cell o of block b may be leant on. -/
def PV (w : World) (ok : Nat → Nat → Prop) : AV → Value → Prop
  | .junk, v => v.oneCell' = true
  | .bool b, v => v = .bool b
  | .int k n, v => v = .int k n
  | .str s, v => v = .string s
  | .agg cs, v => ∃ us : Array Value, v = .agg us ∧ (∀ u ∈ us.toList, u.oneCell' = true) ∧ PVs w ok cs us.toList
  | .tup cs, v => ∃ us : Array Value, v = .tuple us ∧ PVs w ok cs us.toList
  | .vs full sz xs, v => ∃ a len cap, v = .slice a len cap ∧ len = xs.length ∧ len ≤ cap ∧ cap ≤ maxLen ∧ (full = true → cap = len) ∧ ((a = none → cap = 0) ∧ (a = none ↔ sz = 0)) ∧ (xs ≠ [] → ∃ b o, a = some ⟨b, o, none⟩ ∧ 0 < sz ∧ PEls w ok sz b o xs)
  | .pv cs, v => ∃ b o, v = .pointer (some ⟨b, o, none⟩) ∧ PCells w ok b o cs
  | .nilp, v => v = .pointer none
  | .fn f caps, v => ∃ us : Array Value, v = .func (.func f) #[] us ∧ PVs w ok caps us.toList
  | .nilf, v => v = .nilFunc
  | .sl .., _ => False
  | .ep .., _ => False
  | .ptr .., _ => False
def PVs (w : World) (ok : Nat → Nat → Prop) : List AV → List Value → Prop
  | [], us => us = []
  | c :: cs, us => ∃ u us', us = u :: us' ∧ PV w ok c u ∧ PVs w ok cs us'
def PCells (w : World) (ok : Nat → Nat → Prop) (b o : Nat) : List AV → Prop
  | [] => True
  | c :: cs => (∃ u, ok b o ∧ w.cell? ⟨b, o, none⟩ = some u ∧ u.oneCell' = true ∧ PV w ok c u) ∧ PCells w ok b (o + 1) cs
def PEls (w : World) (ok : Nat → Nat → Prop) (sz b o : Nat) : List AV → Prop
  | [] => True
  | .agg cs :: xs => cs.length = sz ∧ PCells w ok b o cs ∧ PEls w ok sz b (o + sz) xs
  | x :: xs => sz = 1 ∧ (∃ u, ok b o ∧ w.cell? ⟨b, o, none⟩ = some u ∧ u.oneCell' = true ∧ PV w ok x u) ∧ PEls w ok sz b (o + sz) xs
end

/-- One element in memory. -/
def PElem (w : World) (ok : Nat → Nat → Prop) (sz b o : Nat) (x : AV) : Prop := x.cells.length = sz ∧ PCells w ok b o x.cells

theorem PEls_cons {w : World} {ok : Nat → Nat → Prop} {sz b o : Nat} {x : AV} {xs : List AV} :
    PEls w ok sz b o (x :: xs) ↔ PElem w ok sz b o x ∧ PEls w ok sz b (o + sz) xs := by
  cases x with
  | agg cs => simp only [PEls, PElem, AV.cells, and_assoc]
  | _ =>
    simp only [PEls, PElem, AV.cells, PCells, and_true, List.length_cons, List.length_nil, Nat.zero_add]
    exact ⟨fun h => ⟨⟨h.1.symm, h.2.1⟩, h.2.2⟩, fun h => ⟨h.1.1.symm, h.1.2, h.2⟩⟩

theorem PEls_get {w : World} {ok : Nat → Nat → Prop} {sz b : Nat} {xs : List AV} : ∀ {o : Nat}, PEls w ok sz b o xs → ∀ {j : Nat} {x : AV}, xs[j]? = some x → PElem w ok sz b (o + j * sz) x := by
  induction xs with
  | nil => intro o _ j x h; simp at h
  | cons y ys ih =>
    intro o h j x hj
    rw [PEls_cons] at h
    cases j with
    | zero => simp at hj; subst hj; simpa using h.1
    | succ j =>
      have := ih h.2 (j := j) (x := x) (by simpa using hj)
      rwa [show o + sz + j * sz = o + (j + 1) * sz from by rw [Nat.succ_mul]; omega] at this

theorem PEls_of {w : World} {ok : Nat → Nat → Prop} {sz b : Nat} {xs : List AV} : ∀ {o : Nat}, (∀ j x, xs[j]? = some x → PElem w ok sz b (o + j * sz) x) → PEls w ok sz b o xs := by
  induction xs with
  | nil => intro o _; simp [PEls]
  | cons y ys ih =>
    intro o h
    rw [PEls_cons]
    refine ⟨by simpa using h 0 y rfl, ih fun j x hj => ?_⟩
    have := h (j + 1) x (by simpa using hj)
    rwa [show o + (j + 1) * sz = o + sz + j * sz from by rw [Nat.succ_mul]; omega] at this

theorem PCells_get {w : World} {ok : Nat → Nat → Prop} {b : Nat} {cs : List AV} : ∀ {o : Nat}, PCells w ok b o cs → ∀ {j : Nat} {c : AV}, cs[j]? = some c →
    ∃ u, ok b (o + j) ∧ w.cell? ⟨b, o + j, none⟩ = some u ∧ u.oneCell' = true ∧ PV w ok c u := by
  induction cs with
  | nil => intro o _ j c h; simp at h
  | cons y ys ih =>
    intro o h j c hj
    simp only [PCells] at h
    cases j with
    | zero => simp at hj; subst hj; simpa using h.1
    | succ j =>
      have := ih h.2 (j := j) (c := c) (by simpa using hj)
      rwa [show o + 1 + j = o + (j + 1) from by omega] at this

theorem PCells_of {w : World} {ok : Nat → Nat → Prop} {b : Nat} {cs : List AV} : ∀ {o : Nat}, (∀ j c, cs[j]? = some c → ∃ u, ok b (o + j) ∧ w.cell? ⟨b, o + j, none⟩ = some u ∧ u.oneCell' = true ∧ PV w ok c u) → PCells w ok b o cs := by
  induction cs with
  | nil => intro o _; simp [PCells]
  | cons y ys ih =>
    intro o h
    simp only [PCells]
    refine ⟨by simpa using h 0 y rfl, ih fun j c hj => ?_⟩
    have := h (j + 1) c (by simpa using hj)
    rwa [show o + (j + 1) = o + 1 + j from by omega] at this

theorem PVs_get {w : World} {ok : Nat → Nat → Prop} {cs : List AV} : ∀ {us : List Value}, PVs w ok cs us → us.length = cs.length ∧ ∀ {j : Nat} {c : AV}, cs[j]? = some c → ∃ u, us[j]? = some u ∧ PV w ok c u := by
  induction cs with
  | nil => intro us h; simp [PVs] at h; subst h; simp
  | cons y ys ih =>
    intro us h
    simp only [PVs] at h
    obtain ⟨u, us', rfl, h1, h2⟩ := h
    obtain ⟨hl, hg⟩ := ih h2
    refine ⟨by simp [hl], fun {j c} hj => ?_⟩
    cases j with
    | zero => simp at hj; subst hj; exact ⟨u, rfl, h1⟩
    | succ j => simpa using hg (j := j) (c := c) (by simpa using hj)

theorem PVs_of {w : World} {ok : Nat → Nat → Prop} {cs : List AV} : ∀ {us : List Value}, us.length = cs.length → (∀ (j : Nat) (c : AV) (u : Value), cs[j]? = some c → us[j]? = some u → PV w ok c u) → PVs w ok cs us := by
  induction cs with
  | nil => intro us hl _; simp [PVs]; simpa using hl
  | cons y ys ih =>
    intro us hl h
    cases us with
    | nil => simp at hl
    | cons u us' =>
      simp only [PVs]
      exact ⟨u, us', rfl, h 0 y u rfl rfl, ih (by simpa using hl) fun j c v hc hv => h (j + 1) c v (by simpa using hc) (by simpa using hv)⟩

/-! ### Pure values stay what they are while the cells that they lean on stay -/

mutual
theorem PV_mono {w w' : World} {ok ok' : Nat → Nat → Prop} (h : ∀ b o, ok b o → ok' b o ∧ w'.cell? ⟨b, o, none⟩ = w.cell? ⟨b, o, none⟩) : ∀ (x : AV) (v : Value), PV w ok x v → PV w' ok' x v
  | .junk, v, hx => by simpa [PV] using hx
  | .bool b, v, hx => by simpa [PV] using hx
  | .int k n, v, hx => by simpa [PV] using hx
  | .str s, v, hx => by simpa [PV] using hx
  | .agg cs, v, hx => by
    simp only [PV] at hx ⊢
    obtain ⟨us, rfl, h1, hu⟩ := hx
    exact ⟨us, rfl, h1, PVs_mono h cs us.toList hu⟩
  | .tup cs, v, hx => by
    simp only [PV] at hx ⊢
    obtain ⟨us, rfl, hu⟩ := hx
    exact ⟨us, rfl, PVs_mono h cs us.toList hu⟩
  | .vs full sz xs, v, hx => by
    simp only [PV] at hx ⊢
    obtain ⟨a, len, cap, rfl, h1, h2, h3, h4, h5, h6⟩ := hx
    refine ⟨a, len, cap, rfl, h1, h2, h3, h4, h5, fun hne => ?_⟩
    obtain ⟨b, o, ha, hs, he⟩ := h6 hne
    exact ⟨b, o, ha, hs, PEls_mono h sz b o xs he⟩
  | .pv cs, v, hx => by
    simp only [PV] at hx ⊢
    obtain ⟨b, o, rfl, hc⟩ := hx
    exact ⟨b, o, rfl, PCells_mono h b o cs hc⟩
  | .nilp, v, hx => by simpa [PV] using hx
  | .fn f caps, v, hx => by
    simp only [PV] at hx ⊢
    obtain ⟨us, rfl, hu⟩ := hx
    exact ⟨us, rfl, PVs_mono h caps us.toList hu⟩
  | .nilf, v, hx => by simpa [PV] using hx
  | .sl .., _, hx => by simp [PV] at hx
  | .ep .., _, hx => by simp [PV] at hx
  | .ptr .., _, hx => by simp [PV] at hx
theorem PVs_mono {w w' : World} {ok ok' : Nat → Nat → Prop} (h : ∀ b o, ok b o → ok' b o ∧ w'.cell? ⟨b, o, none⟩ = w.cell? ⟨b, o, none⟩) : ∀ (cs : List AV) (us : List Value), PVs w ok cs us → PVs w' ok' cs us
  | [], us, hx => by simpa [PVs] using hx
  | c :: cs, us, hx => by
    simp only [PVs] at hx ⊢
    obtain ⟨u, us', rfl, h1, h2⟩ := hx
    exact ⟨u, us', rfl, PV_mono h c u h1, PVs_mono h cs us' h2⟩
theorem PCells_mono {w w' : World} {ok ok' : Nat → Nat → Prop} (h : ∀ b o, ok b o → ok' b o ∧ w'.cell? ⟨b, o, none⟩ = w.cell? ⟨b, o, none⟩) (b o : Nat) : ∀ (cs : List AV), PCells w ok b o cs → PCells w' ok' b o cs
  | [], _ => by simp [PCells]
  | c :: cs, hx => by
    simp only [PCells] at hx ⊢
    obtain ⟨⟨u, h1, h2, h3, h4⟩, h5⟩ := hx
    exact ⟨⟨u, (h b o h1).1, by rw [(h b o h1).2]; exact h2, h3, PV_mono h c u h4⟩, PCells_mono h b (o + 1) cs h5⟩
theorem PEls_mono {w w' : World} {ok ok' : Nat → Nat → Prop} (h : ∀ b o, ok b o → ok' b o ∧ w'.cell? ⟨b, o, none⟩ = w.cell? ⟨b, o, none⟩) (sz b o : Nat) : ∀ (xs : List AV), PEls w ok sz b o xs → PEls w' ok' sz b o xs
  | [], _ => by simp [PEls]
  | .agg cs :: xs, hx => by
    simp only [PEls] at hx ⊢
    exact ⟨hx.1, PCells_mono h b o cs hx.2.1, PEls_mono h sz b (o + sz) xs hx.2.2⟩
  | x :: xs, hx => by
    rw [PEls_cons] at hx ⊢
    refine ⟨?_, PEls_mono h sz b (o + sz) xs hx.2⟩
    cases x with
    | agg cs => exact ⟨hx.1.1, PCells_mono h b o cs hx.1.2⟩
    | _ =>
      refine ⟨hx.1.1, ?_⟩
      have hc := hx.1.2
      simp only [AV.cells, PCells] at hc ⊢
      obtain ⟨⟨u, h1, h2, h3, h4⟩, h5⟩ := hc
      exact ⟨⟨u, (h b o h1).1, by rw [(h b o h1).2]; exact h2, h3, PV_mono h _ u h4⟩, trivial⟩
end

/-! ### A whole state -/

/-- Where a row lies: element i (from `lo` on) at cell `o + (i - lo) * sz` of block b; room for `cap` elements from `lo` on. -/
structure Img where
  b : Nat
  o : Nat
  cap : Nat
  lo : Nat

structure Env where
  w : World
  base : Nat
  ok0 : Nat → Nat → Prop
  nb : Nat → Nat
  im : Nat → Img
  h : AH

/-- The cells that pure values may lean on. -/
def Env.ok (E : Env) (b o : Nat) : Prop :=
  (b < E.base ∧ E.ok0 b o) ∨
  (E.base ≤ b ∧ b < E.w.heap.size ∧ (∀ i, i < E.h.boxes.length → E.nb i ≠ b) ∧
    ∀ k f, E.h.fams[k]? = some f → (E.im k).b = b → f.wr = false ∧ o < (E.im k).o + (f.xs.length - (E.im k).lo) * f.sz)

mutual
def VR (E : Env) : AV → Value → Prop
  | .agg cs, v => ∃ us : Array Value, v = .agg us ∧ (∀ u ∈ us.toList, u.oneCell' = true) ∧ VRs E cs us.toList
  | .tup cs, v => ∃ us : Array Value, v = .tuple us ∧ VRs E cs us.toList
  | .fn f caps, v => ∃ us : Array Value, v = .func (.func f) #[] us ∧ VRs E caps us.toList
  | .sl k n off len, v => ∃ a cap f, v = .slice a len cap ∧ E.h.fams[k]? = some f ∧ n ≤ f.xs.length ∧ (f.xs.length = n →
      (E.im k).lo ≤ off ∧ off + len ≤ n ∧ cap + (off - (E.im k).lo) = (E.im k).cap ∧ a ≠ none ∧
      (cap ≠ 0 → a = some ⟨(E.im k).b, (E.im k).o + (off - (E.im k).lo) * f.sz, none⟩))
  | .ep k n i c, v => ∃ a f, v = .pointer (some a) ∧ E.h.fams[k]? = some f ∧ n ≤ f.xs.length ∧ (f.xs.length = n →
      (E.im k).lo ≤ i ∧ a = ⟨(E.im k).b, (E.im k).o + (i - (E.im k).lo) * f.sz + c, none⟩)
  | .ptr b off, v => b < E.h.boxes.length ∧ v = .pointer (some ⟨E.nb b, off, none⟩)
  | .junk, v => v.oneCell' = true
  | .bool b, v => v = .bool b
  | .int k n, v => v = .int k n
  | .str s, v => v = .string s
  | .vs full sz xs, v => PV E.w E.ok (.vs full sz xs) v
  | .pv cs, v => PV E.w E.ok (.pv cs) v
  | .nilp, v => v = .pointer none
  | .nilf, v => v = .nilFunc
def VRs (E : Env) : List AV → List Value → Prop
  | [], us => us = []
  | c :: cs, us => ∃ u us', us = u :: us' ∧ VR E c u ∧ VRs E cs us'
end

theorem VRs_get {E : Env} {cs : List AV} : ∀ {us : List Value}, VRs E cs us → us.length = cs.length ∧ ∀ {j : Nat} {c : AV}, cs[j]? = some c → ∃ u, us[j]? = some u ∧ VR E c u := by
  induction cs with
  | nil => intro us h; simp [VRs] at h; subst h; simp
  | cons y ys ih =>
    intro us h
    simp only [VRs] at h
    obtain ⟨u, us', rfl, h1, h2⟩ := h
    obtain ⟨hl, hg⟩ := ih h2
    refine ⟨by simp [hl], fun {j c} hj => ?_⟩
    cases j with
    | zero => simp at hj; subst hj; exact ⟨u, rfl, h1⟩
    | succ j => simpa using hg (j := j) (c := c) (by simpa using hj)

theorem VRs_of {E : Env} {cs : List AV} : ∀ {us : List Value}, us.length = cs.length → (∀ (j : Nat) (c : AV) (u : Value), cs[j]? = some c → us[j]? = some u → VR E c u) → VRs E cs us := by
  induction cs with
  | nil => intro us hl _; simp [VRs]; simpa using hl
  | cons y ys ih =>
    intro us hl h
    cases us with
    | nil => simp at hl
    | cons u us' =>
      simp only [VRs]
      exact ⟨u, us', rfl, h 0 y u rfl rfl, ih (by simpa using hl) fun j c v hc hv => h (j + 1) c v (by simpa using hc) (by simpa using hv)⟩

mutual
theorem VR_of_PV {E : Env} : ∀ (x : AV) (v : Value), PV E.w E.ok x v → VR E x v
  | .junk, v, hx => by simpa [VR, PV] using hx
  | .bool b, v, hx => by simpa [PV, VR] using hx
  | .int k n, v, hx => by simpa [PV, VR] using hx
  | .str s, v, hx => by simpa [PV, VR] using hx
  | .agg cs, v, hx => by
    simp only [PV, VR] at hx ⊢
    obtain ⟨us, rfl, h1, hu⟩ := hx
    exact ⟨us, rfl, h1, VRs_of_PVs cs us.toList hu⟩
  | .tup cs, v, hx => by
    simp only [PV, VR] at hx ⊢
    obtain ⟨us, rfl, hu⟩ := hx
    exact ⟨us, rfl, VRs_of_PVs cs us.toList hu⟩
  | .vs full sz xs, v, hx => by simp only [VR]; exact hx
  | .pv cs, v, hx => by simp only [VR]; exact hx
  | .nilp, v, hx => by simpa [PV, VR] using hx
  | .fn f caps, v, hx => by
    simp only [PV, VR] at hx ⊢
    obtain ⟨us, rfl, hu⟩ := hx
    exact ⟨us, rfl, VRs_of_PVs caps us.toList hu⟩
  | .nilf, v, hx => by simpa [PV, VR] using hx
  | .sl .., _, hx => by simp [PV] at hx
  | .ep .., _, hx => by simp [PV] at hx
  | .ptr .., _, hx => by simp [PV] at hx
theorem VRs_of_PVs {E : Env} : ∀ (cs : List AV) (us : List Value), PVs E.w E.ok cs us → VRs E cs us
  | [], us, hx => by simpa [PVs, VRs] using hx
  | c :: cs, us, hx => by
    simp only [PVs, VRs] at hx ⊢
    obtain ⟨u, us', rfl, h1, h2⟩ := hx
    exact ⟨u, us', rfl, VR_of_PV c u h1, VRs_of_PVs cs us' h2⟩
end

/-- What one state hands on to a later one: what pure values lean on stays; boxes keep their places; a row that has kept its length has kept its place. -/
structure Ext (E E' : Env) : Prop where
  cells : ∀ b o, E.ok b o → E'.ok b o ∧ E'.w.cell? ⟨b, o, none⟩ = E.w.cell? ⟨b, o, none⟩
  boxes : E.h.boxes.length ≤ E'.h.boxes.length
  nb : ∀ i, i < E.h.boxes.length → E'.nb i = E.nb i
  fams : E.h.fams.length ≤ E'.h.fams.length
  im : ∀ k f f', E.h.fams[k]? = some f → E'.h.fams[k]? = some f' → f'.sz = f.sz ∧ f.xs.length ≤ f'.xs.length ∧ (f'.xs.length = f.xs.length → E'.im k = E.im k)
  base : E'.base = E.base
  ok0 : E'.ok0 = E.ok0
  below : Go.RowKit.Below E.base E.w E'.w

theorem Ext.refl (E : Env) : Ext E E :=
  ⟨fun _ _ h => ⟨h, rfl⟩, Nat.le_refl _, fun _ _ => rfl, Nat.le_refl _, fun k f f' h h' => by rw [h] at h'; cases h'; exact ⟨rfl, Nat.le_refl _, fun _ => rfl⟩, rfl, rfl, Go.RowKit.Below.refl _ _⟩

theorem Ext.trans {E E' E'' : Env} (h : Ext E E') (k : Ext E' E'') : Ext E E'' := by
  refine ⟨fun b o ho => ?_, Nat.le_trans h.boxes k.boxes, fun i hi => (k.nb i (Nat.lt_of_lt_of_le hi h.boxes)).trans (h.nb i hi), Nat.le_trans h.fams k.fams, fun j f f'' hf hf'' => ?_, k.base.trans h.base, k.ok0.trans h.ok0, ?_⟩
  · obtain ⟨h1, h2⟩ := h.cells b o ho
    obtain ⟨h3, h4⟩ := k.cells b o h1
    exact ⟨h3, h4.trans h2⟩
  · have hlt : j < E'.h.fams.length := Nat.lt_of_lt_of_le (List.getElem?_eq_some_iff.1 hf).1 h.fams
    obtain ⟨a1, a2, a3⟩ := h.im j f _ hf (List.getElem?_eq_getElem hlt)
    obtain ⟨b1, b2, b3⟩ := k.im j _ f'' (List.getElem?_eq_getElem hlt) hf''
    refine ⟨b1.trans a1, Nat.le_trans a2 b2, fun he => ?_⟩
    rw [b3 (by omega), a3 (by omega)]
  · have hk := k.below
    rw [h.base] at hk
    exact h.below.trans hk

mutual
theorem VR_ext {E E' : Env} (h : Ext E E') : ∀ (x : AV) (v : Value), VR E x v → VR E' x v
  | .junk, v, hx => by simpa [VR] using hx
  | .bool b, v, hx => by simpa [VR] using hx
  | .int k n, v, hx => by simpa [VR] using hx
  | .str s, v, hx => by simpa [VR] using hx
  | .agg cs, v, hx => by
    simp only [VR] at hx ⊢
    obtain ⟨us, rfl, h1, hu⟩ := hx
    exact ⟨us, rfl, h1, VRs_ext h cs us.toList hu⟩
  | .tup cs, v, hx => by
    simp only [VR] at hx ⊢
    obtain ⟨us, rfl, hu⟩ := hx
    exact ⟨us, rfl, VRs_ext h cs us.toList hu⟩
  | .vs full sz xs, v, hx => by
    simp only [VR] at hx ⊢
    exact PV_mono h.cells _ _ hx
  | .pv cs, v, hx => by
    simp only [VR] at hx ⊢
    exact PV_mono h.cells _ _ hx
  | .nilp, v, hx => by simpa [VR] using hx
  | .fn f caps, v, hx => by
    simp only [VR] at hx ⊢
    obtain ⟨us, rfl, hu⟩ := hx
    exact ⟨us, rfl, VRs_ext h caps us.toList hu⟩
  | .nilf, v, hx => by simpa [VR] using hx
  | .sl k n off len, v, hx => by
    simp only [VR] at hx ⊢
    obtain ⟨a, cap, f, rfl, hf, hn, hc⟩ := hx
    have hlt : k < E'.h.fams.length := Nat.lt_of_lt_of_le (List.getElem?_eq_some_iff.1 hf).1 h.fams
    obtain ⟨h1, h2, h3⟩ := h.im k f _ hf (List.getElem?_eq_getElem hlt)
    refine ⟨a, cap, _, rfl, List.getElem?_eq_getElem hlt, by omega, fun he => ?_⟩
    rw [h3 (by omega), h1]
    exact hc (by omega)
  | .ep k n i c, v, hx => by
    simp only [VR] at hx ⊢
    obtain ⟨a, f, rfl, hf, hn, hc⟩ := hx
    have hlt : k < E'.h.fams.length := Nat.lt_of_lt_of_le (List.getElem?_eq_some_iff.1 hf).1 h.fams
    obtain ⟨h1, h2, h3⟩ := h.im k f _ hf (List.getElem?_eq_getElem hlt)
    refine ⟨a, _, rfl, List.getElem?_eq_getElem hlt, by omega, fun he => ?_⟩
    rw [h3 (by omega), h1]
    exact hc (by omega)
  | .ptr b off, v, hx => by
    simp only [VR] at hx ⊢
    exact ⟨Nat.lt_of_lt_of_le hx.1 h.boxes, by rw [h.nb b hx.1]; exact hx.2⟩
theorem VRs_ext {E E' : Env} (h : Ext E E') : ∀ (cs : List AV) (us : List Value), VRs E cs us → VRs E' cs us
  | [], us, hx => by simpa [VRs] using hx
  | c :: cs, us, hx => by
    simp only [VRs] at hx ⊢
    obtain ⟨u, us', rfl, h1, h2⟩ := hx
    exact ⟨u, us', rfl, VR_ext h c u h1, VRs_ext h cs us' h2⟩
end

end Go.Abs

/- A whole state of the abstract machine and the model's memory: what each kind of step does to it. -/
namespace Go.Abs
open Go.RowKit (Below)

/-- An element of a row as its cells hold it. -/
def FElem (E : Env) (cur : Array Value) (p sz : Nat) (x : AV) : Prop :=
  x.cells.length = sz ∧ ∀ (c : Nat) (y : AV), x.cells[c]? = some y → ∃ v, cur[p + c]? = some v ∧ v.oneCell' = true ∧ PV E.w E.ok y v

structure FamR (E : Env) (k : Nat) (f : Fam) : Prop where
  base : E.base ≤ (E.im k).b
  sz : 0 < f.sz
  lo : (E.im k).lo ≤ f.xs.length
  room : f.xs.length ≤ (E.im k).lo + (E.im k).cap
  cap : (E.im k).cap ≤ maxLen
  cells : ∃ cur t, E.w.heap[(E.im k).b]? = some (.cells cur t (0, 0)) ∧ (E.im k).o + (E.im k).cap * f.sz ≤ cur.size ∧
    ∀ (i : Nat) (x : AV), (E.im k).lo ≤ i → f.xs[i]? = some x → FElem E cur ((E.im k).o + (i - (E.im k).lo) * f.sz) f.sz x

def BoxR (E : Env) (i : Nat) (cs : List AV) : Prop :=
  E.base ≤ E.nb i ∧ ∃ cur t, E.w.heap[E.nb i]? = some (.cells cur t (0, 0)) ∧ VRs E cs cur.toList ∧ ∀ v ∈ cur.toList, v.oneCell' = true

structure SR (E : Env) : Prop where
  basele : E.base ≤ E.w.heap.size
  boxes : ∀ (i : Nat) (cs : List AV), E.h.boxes[i]? = some cs → BoxR E i cs
  fams : ∀ (k : Nat) (f : Fam), E.h.fams[k]? = some f → FamR E k f
  inj : ∀ i j, i < E.h.boxes.length → j < E.h.boxes.length → E.nb i = E.nb j → i = j
  injf : ∀ k j, k < E.h.fams.length → j < E.h.fams.length → (E.im k).b = (E.im j).b → k = j
  sep : ∀ i k, i < E.h.boxes.length → k < E.h.fams.length → E.nb i ≠ (E.im k).b

section
variable {E : Env}

theorem heap_lt {w : World} {b : Nat} {o : Obj} (h : w.heap[b]? = some o) : b < w.heap.size := (Array.getElem?_eq_some_iff.1 h).1

theorem SR.nb_lt (h : SR E) {i : Nat} (hi : i < E.h.boxes.length) : E.base ≤ E.nb i ∧ E.nb i < E.w.heap.size := by
  obtain ⟨h1, cur, t, h2, _⟩ := h.boxes i _ (List.getElem?_eq_getElem hi)
  exact ⟨h1, heap_lt h2⟩

theorem SR.im_lt (h : SR E) {k : Nat} (hk : k < E.h.fams.length) : E.base ≤ (E.im k).b ∧ (E.im k).b < E.w.heap.size := by
  have hf := h.fams k _ (List.getElem?_eq_getElem hk)
  obtain ⟨cur, t, h2, _⟩ := hf.cells
  exact ⟨hf.base, heap_lt h2⟩

theorem ok_lt (h : SR E) {b o : Nat} (hb : E.ok b o) : b < E.w.heap.size := by
  rcases hb with ⟨hb, _⟩ | ⟨_, hb, _⟩
  · exact Nat.lt_of_lt_of_le hb h.basele
  · exact hb

theorem cell_eq {w w' : World} {b o : Nat} (h : w'.heap[b]? = w.heap[b]?) : w'.cell? ⟨b, o, none⟩ = w.cell? ⟨b, o, none⟩ := World.cell?_of_block (a := ⟨b, o, none⟩) h

/-- What goes on when a state goes on: boxes and rows that are as they were. -/
theorem BoxR.ext {E' : Env} (h : Ext E E') {i : Nat} {cs : List AV} (hi : i < E.h.boxes.length) (hb : E'.w.heap[E.nb i]? = E.w.heap[E.nb i]?) (hx : BoxR E i cs) : BoxR E' i cs := by
  obtain ⟨h1, cur, t, h2, h3, h4⟩ := hx
  refine ⟨by rw [h.base, h.nb i hi]; exact h1, cur, t, by rw [h.nb i hi, hb]; exact h2, VRs_ext h _ _ h3, h4⟩

theorem FElem.ext {E' : Env} (h : Ext E E') {cur : Array Value} {p sz : Nat} {x : AV} (hx : FElem E cur p sz x) : FElem E' cur p sz x :=
  ⟨hx.1, fun c y hc => by obtain ⟨v, h1, h2, h3⟩ := hx.2 c y hc; exact ⟨v, h1, h2, PV_mono h.cells _ _ h3⟩⟩

theorem FamR.ext {E' : Env} (h : Ext E E') {k : Nat} {f : Fam} (him : E'.im k = E.im k) (hb : E'.w.heap[(E.im k).b]? = E.w.heap[(E.im k).b]?) (hx : FamR E k f) : FamR E' k f := by
  obtain ⟨cur, t, h1, h2, h3⟩ := hx.cells
  refine ⟨by rw [h.base, him]; exact hx.base, hx.sz, by rw [him]; exact hx.lo, by rw [him]; exact hx.room, by rw [him]; exact hx.cap, cur, t, by rw [him, hb]; exact h1, by rw [him]; exact h2, ?_⟩
  rw [him]
  exact fun i x hi hx' => (h3 i x hi hx').ext h

/-! ### The world alone goes on (draws; new blocks of others; calls of pure functions) -/

theorem grow_ext (h : SR E) {w' : World} (hb : Below E.w.heap.size E.w w') : Ext E { E with w := w' } := by
  refine ⟨fun b o ho => ?_, Nat.le_refl _, fun _ _ => rfl, Nat.le_refl _, fun k f f' hf hf' => ?_, rfl, rfl, hb.mono h.basele⟩
  · have hlt := ok_lt h ho
    refine ⟨?_, cell_eq (hb.block b hlt)⟩
    rcases ho with ho | ⟨h1, _, h3, h4⟩
    · exact .inl ho
    · exact .inr ⟨h1, Nat.lt_of_lt_of_le hlt hb.size, h3, h4⟩
  · have : f = f' := by have := hf.symm.trans hf'; simpa using this
    subst this
    exact ⟨rfl, Nat.le_refl _, fun _ => rfl⟩

theorem grow_SR (h : SR E) {w' : World} (hb : Below E.w.heap.size E.w w') : SR { E with w := w' } := by
  have hx := grow_ext h hb
  refine ⟨Nat.le_trans h.basele hb.size, fun i cs hi => ?_, fun k f hk => ?_, h.inj, h.injf, h.sep⟩
  · have hi' := (List.getElem?_eq_some_iff.1 hi).1
    exact (h.boxes i cs hi).ext hx hi' (hb.block _ (h.nb_lt hi').2)
  · have hk' := (List.getElem?_eq_some_iff.1 hk).1
    exact (h.fams k f hk).ext hx rfl (hb.block _ (h.im_lt hk').2)

/-! ### A new box -/

def upd {α : Type} (f : Nat → α) (n : Nat) (x : α) : Nat → α := fun i => if i = n then x else f i
theorem upd_same {α : Type} (f : Nat → α) (n : Nat) (x : α) : upd f n x n = x := by simp [upd]
theorem upd_other {α : Type} (f : Nat → α) {n i : Nat} (x : α) (h : i ≠ n) : upd f n x i = f i := by simp [upd, h]

def Env.newBox (E : Env) (us : Array Value) (t : TypeId) (cs : List AV) : Env :=
  { E with w := E.w.alloc (.cells us t), nb := upd E.nb E.h.boxes.length E.w.heap.size, h := { E.h with boxes := E.h.boxes ++ [cs] } }

theorem newBox_ext (h : SR E) (us : Array Value) (t : TypeId) (cs : List AV) : Ext E (E.newBox us t cs) := by
  refine ⟨fun b o ho => ?_, by simp [Env.newBox], fun i hi => upd_other _ _ (by omega), Nat.le_refl _, fun k f f' hf hf' => ?_, rfl, rfl, (Below.refl _ _).alloc h.basele _⟩
  · have hlt := ok_lt h ho
    refine ⟨?_, cell_eq (Below.heap_alloc _ _ _ hlt)⟩
    rcases ho with ho | ⟨h1, _, h3, h4⟩
    · exact .inl ho
    · refine .inr ⟨h1, by simp [Env.newBox]; omega, fun i hi => ?_, h4⟩
      by_cases hn : i = E.h.boxes.length
      · subst hn; simp only [Env.newBox, upd_same]; omega
      · simp only [Env.newBox, upd_other _ _ hn]
        exact h3 i (by simp [Env.newBox] at hi; omega)
  · have : f = f' := by have := hf.symm.trans hf'; simpa using this
    subst this
    exact ⟨rfl, Nat.le_refl _, fun _ => rfl⟩

theorem newBox_SR (h : SR E) {us : Array Value} {t : TypeId} {cs : List AV} (hv : VRs E cs us.toList) (h1 : ∀ v ∈ us.toList, v.oneCell' = true) : SR (E.newBox us t cs) := by
  have hx := newBox_ext h us t cs
  have hlen : (E.newBox us t cs).h.boxes.length = E.h.boxes.length + 1 := by simp [Env.newBox]
  have hnb : ∀ i, i < E.h.boxes.length → (E.newBox us t cs).nb i = E.nb i := fun i hi => upd_other _ _ (by omega)
  have hnew : (E.newBox us t cs).nb E.h.boxes.length = E.w.heap.size := upd_same _ _ _
  refine ⟨Nat.le_trans h.basele (by simp [Env.newBox]), fun i cs' hi => ?_, fun k f hk => ?_, fun i j hi hj he => ?_, h.injf, fun i k hi hk => ?_⟩
  · by_cases hn : i = E.h.boxes.length
    · subst hn
      have : cs' = cs := by simpa [Env.newBox] using hi.symm
      subst this
      exact ⟨by rw [hnew]; exact h.basele, us, t, by rw [hnew]; exact heap_alloc_new _ _, VRs_ext hx _ _ hv, h1⟩
    · have hi' : i < E.h.boxes.length := by have := (List.getElem?_eq_some_iff.1 hi).1; omega
      have hcs : E.h.boxes[i]? = some cs' := by
        simp only [Env.newBox] at hi
        rwa [List.getElem?_append_left hi'] at hi
      exact (h.boxes i cs' hcs).ext hx hi' (Below.heap_alloc _ _ _ (h.nb_lt hi').2)
  · have hk' : k < E.h.fams.length := (List.getElem?_eq_some_iff.1 hk).1
    exact (h.fams k f hk).ext hx rfl (Below.heap_alloc _ _ _ (h.im_lt hk').2)
  · rw [hlen] at hi hj
    by_cases hi' : i < E.h.boxes.length <;> by_cases hj' : j < E.h.boxes.length
    · rw [hnb i hi', hnb j hj'] at he; exact h.inj i j hi' hj' he
    · obtain rfl : j = E.h.boxes.length := by omega
      rw [hnb i hi', hnew] at he; have := (h.nb_lt hi').2; omega
    · obtain rfl : i = E.h.boxes.length := by omega
      rw [hnb j hj', hnew] at he; have := (h.nb_lt hj').2; omega
    · omega
  · rw [hlen] at hi
    have hk' : k < E.h.fams.length := hk
    by_cases hi' : i < E.h.boxes.length
    · rw [hnb i hi']; exact h.sep i k hi' hk'
    · obtain rfl : i = E.h.boxes.length := by omega
      rw [hnew]
      have := (h.im_lt hk').2
      simp only [Env.newBox]
      omega

/-! ### A store into a box -/

def Env.setBox (E : Env) (i : Nat) (us : Array Value) (cs : List AV) : Env :=
  { E with w := E.w.setRow (E.nb i) us, h := { E.h with boxes := E.h.boxes.set i cs } }

theorem setRow_below {w : World} {B g : Nat} (us : Array Value) (hg : B ≤ g) : Below B w (w.setRow g us) :=
  ⟨rfl, rfl, rfl, by simp, fun k hk => setRow_other w g k us (by omega)⟩

theorem setBox_ext (h : SR E) {i : Nat} (hi : i < E.h.boxes.length) (us : Array Value) (cs : List AV) : Ext E (E.setBox i us cs) := by
  have hb := h.nb_lt hi
  refine ⟨fun b o ho => ?_, by simp [Env.setBox], fun _ _ => rfl, Nat.le_refl _, fun k f f' hf hf' => ?_, rfl, rfl, setRow_below us hb.1⟩
  · have hne : b ≠ E.nb i := by
      rcases ho with ⟨ho, _⟩ | ⟨_, _, h3, _⟩
      · omega
      · exact fun e => h3 i hi e.symm
    refine ⟨?_, cell_eq (setRow_other _ _ _ _ hne)⟩
    rcases ho with ho | ⟨h1, h2, h3, h4⟩
    · exact .inl ho
    · exact .inr ⟨h1, by simpa [Env.setBox] using h2, fun j hj => h3 j (by simpa [Env.setBox] using hj), h4⟩
  · have : f = f' := by have := hf.symm.trans hf'; simpa using this
    subst this
    exact ⟨rfl, Nat.le_refl _, fun _ => rfl⟩

theorem setBox_SR (h : SR E) {i : Nat} {old : List AV} (hi : E.h.boxes[i]? = some old) {us : Array Value} {cs : List AV} (hv : VRs E cs us.toList) (h1 : ∀ v ∈ us.toList, v.oneCell' = true) :
    SR (E.setBox i us cs) := by
  have hi' := (List.getElem?_eq_some_iff.1 hi).1
  have hx := setBox_ext h hi' us cs
  have hlen : (E.setBox i us cs).h.boxes.length = E.h.boxes.length := by simp [Env.setBox]
  obtain ⟨hb1, cur, t, hb2, _⟩ := h.boxes i old hi
  refine ⟨by simpa [Env.setBox] using h.basele, fun j cs' hj => ?_, fun k f hk => ?_, fun a b ha hb => h.inj a b (by simpa [hlen] using ha) (by simpa [hlen] using hb), h.injf, fun a k ha => h.sep a k (by simpa [hlen] using ha)⟩
  · by_cases hn : i = j
    · subst hn
      have : cs' = cs := by simpa [Env.setBox, hi'] using hj.symm
      subst this
      exact ⟨hb1, us, t, setRow_heap _ _ _ _ _ _ hb2, VRs_ext hx _ _ hv, h1⟩
    · have hj' : j < E.h.boxes.length := by have := (List.getElem?_eq_some_iff.1 hj).1; omega
      have hcs : E.h.boxes[j]? = some cs' := by simpa [Env.setBox, List.getElem?_set_ne hn] using hj
      exact (h.boxes j cs' hcs).ext hx hj' (setRow_other _ _ _ _ (fun e => hn (h.inj _ _ hi' hj' e.symm)))
  · have hk' : k < E.h.fams.length := (List.getElem?_eq_some_iff.1 hk).1
    exact (h.fams k f hk).ext hx rfl (setRow_other _ _ _ _ (fun e => h.sep i k hi' hk' e.symm))

end
end Go.Abs

/- Rows of the abstract heap: a new row, a row that is written or grows in its place, a row that moves. -/
namespace Go.Abs
open Go.RowKit (Below)
section
variable {E : Env}

/-! ### A new row -/

def Env.newFam (E : Env) (us : Array Value) (t : TypeId) (cap : Nat) (f : Fam) : Env :=
  { E with w := E.w.alloc (.cells us t), im := upd E.im E.h.fams.length ⟨E.w.heap.size, 0, cap, 0⟩, h := { E.h with fams := E.h.fams ++ [f] } }

theorem newFam_ext (h : SR E) (us : Array Value) (t : TypeId) (cap : Nat) (f : Fam) : Ext E (E.newFam us t cap f) := by
  refine ⟨fun b o ho => ?_, Nat.le_refl _, fun _ _ => rfl, by simp [Env.newFam], fun k g g' hg hg' => ?_, rfl, rfl, (Below.refl _ _).alloc h.basele _⟩
  · have hlt := ok_lt h ho
    refine ⟨?_, cell_eq (Below.heap_alloc _ _ _ hlt)⟩
    rcases ho with ho | ⟨h1, _, h3, h4⟩
    · exact .inl ho
    · refine .inr ⟨h1, by simp [Env.newFam]; omega, h3, fun k g hk he => ?_⟩
      by_cases hn : k = E.h.fams.length
      · subst hn; simp only [Env.newFam, upd_same] at he; omega
      · have hk' : k < E.h.fams.length := by
          have := (List.getElem?_eq_some_iff.1 hk).1
          simp [Env.newFam] at this; omega
        simp only [Env.newFam, List.getElem?_append_left hk'] at hk
        simp only [Env.newFam, upd_other _ _ hn] at he ⊢
        exact h4 k g hk he
  · have hk' : k < E.h.fams.length := (List.getElem?_eq_some_iff.1 hg).1
    simp only [Env.newFam, List.getElem?_append_left hk'] at hg'
    have : g = g' := by have := hg.symm.trans hg'; simpa using this
    subst this
    exact ⟨rfl, Nat.le_refl _, fun _ => upd_other _ _ (by omega)⟩

theorem newFam_SR (h : SR E) {us : Array Value} {t : TypeId} {cap : Nat} {f : Fam} (hsz : 0 < f.sz) (hroom : f.xs.length ≤ cap) (hcap : cap ≤ maxLen) (hfit : cap * f.sz ≤ us.size)
    (hel : ∀ (i : Nat) (x : AV), f.xs[i]? = some x → FElem E us (i * f.sz) f.sz x) : SR (E.newFam us t cap f) := by
  have hx := newFam_ext h us t cap f
  have hlen : (E.newFam us t cap f).h.fams.length = E.h.fams.length + 1 := by simp [Env.newFam]
  have him : ∀ k, k < E.h.fams.length → (E.newFam us t cap f).im k = E.im k := fun k hk => upd_other _ _ (by omega)
  have hnew : (E.newFam us t cap f).im E.h.fams.length = ⟨E.w.heap.size, 0, cap, 0⟩ := upd_same _ _ _
  refine ⟨Nat.le_trans h.basele (by simp [Env.newFam]), fun i cs hi => ?_, fun k g hk => ?_, h.inj, fun k j hk hj he => ?_, fun i k hi hk => ?_⟩
  · have hi' := (List.getElem?_eq_some_iff.1 hi).1
    exact (h.boxes i cs hi).ext hx hi' (Below.heap_alloc _ _ _ (h.nb_lt hi').2)
  · by_cases hn : k = E.h.fams.length
    · subst hn
      have : g = f := by simpa [Env.newFam] using hk.symm
      subst this
      refine ⟨by rw [hnew]; exact h.basele, hsz, by rw [hnew]; simp, by rw [hnew]; simpa using hroom, by rw [hnew]; exact hcap, us, t, by rw [hnew]; exact heap_alloc_new _ _, by rw [hnew]; simpa using hfit, ?_⟩
      rw [hnew]
      intro i x _ hi
      have := (hel i x hi).ext hx
      simpa using this
    · have hk' : k < E.h.fams.length := by have := (List.getElem?_eq_some_iff.1 hk).1; omega
      simp only [Env.newFam, List.getElem?_append_left hk'] at hk
      exact (h.fams k g hk).ext hx (him k hk') (Below.heap_alloc _ _ _ (h.im_lt hk').2)
  · rw [hlen] at hk hj
    by_cases hk' : k < E.h.fams.length <;> by_cases hj' : j < E.h.fams.length
    · rw [him k hk', him j hj'] at he; exact h.injf k j hk' hj' he
    · obtain rfl : j = E.h.fams.length := by omega
      rw [him k hk', hnew] at he; have := (h.im_lt hk').2; simp at he; omega
    · obtain rfl : k = E.h.fams.length := by omega
      rw [him j hj', hnew] at he; have := (h.im_lt hj').2; simp at he; omega
    · omega
  · rw [hlen] at hk
    by_cases hk' : k < E.h.fams.length
    · rw [him k hk']; exact h.sep i k hi hk'
    · obtain rfl : k = E.h.fams.length := by omega
      rw [hnew]
      have := (h.nb_lt hi).2
      simp only [Env.newFam]
      omega

/-! ### A row that is written, or grows, in its place -/

def Env.setFam (E : Env) (k : Nat) (us : Array Value) (f : Fam) : Env :=
  { E with w := E.w.setRow (E.im k).b us, h := { E.h with fams := E.h.fams.set k f } }

theorem setFam_ext (h : SR E) {k : Nat} {f f' : Fam} (hk : E.h.fams[k]? = some f) {us cur : Array Value} {t : TypeId} (hc : E.w.heap[(E.im k).b]? = some (.cells cur t (0, 0)))
    (hsz : f'.sz = f.sz) (hwr : f'.wr = f.wr) (hlen : f.xs.length ≤ f'.xs.length)
    (hkeep : f.wr = false → ∀ j, j < (E.im k).o + (f.xs.length - (E.im k).lo) * f.sz → us[j]? = cur[j]?) : Ext E (E.setFam k us f') := by
  have hk' := (List.getElem?_eq_some_iff.1 hk).1
  have hb := h.im_lt hk'
  refine ⟨fun b o ho => ?_, Nat.le_refl _, fun _ _ => rfl, by simp [Env.setFam], fun j g g' hg hg' => ?_, rfl, rfl, setRow_below us hb.1⟩
  · rcases ho with ⟨ho1, ho2⟩ | ⟨h1, h2, h3, h4⟩
    · exact ⟨.inl ⟨ho1, ho2⟩, cell_eq (setRow_other _ _ _ _ (by omega))⟩
    · refine ⟨.inr ⟨h1, by simpa [Env.setFam] using h2, h3, fun j g hj he => ?_⟩, ?_⟩
      · by_cases hn : k = j
        · subst hn
          have : g = f' := by simpa [Env.setFam, hk'] using hj.symm
          subst this
          obtain ⟨a1, a2⟩ := h4 k f hk he
          refine ⟨by rw [hwr]; exact a1, ?_⟩
          rw [hsz]
          refine Nat.lt_of_lt_of_le a2 (Nat.add_le_add_left (Nat.mul_le_mul_right _ (by show f.xs.length - (E.im k).lo ≤ g.xs.length - (E.im k).lo; omega)) _)
        · exact h4 j g (by simpa [Env.setFam, List.getElem?_set_ne hn] using hj) he
      · by_cases hbk : b = (E.im k).b
        · obtain ⟨a1, a2⟩ := h4 k f hk hbk.symm
          subst hbk
          have e1 : (E.w.setRow (E.im k).b us).cell? ⟨(E.im k).b, o, none⟩ = us[o]? := cell_of_row _ _ _ _ _ _ (setRow_heap _ _ _ _ _ _ hc)
          have e2 : E.w.cell? ⟨(E.im k).b, o, none⟩ = cur[o]? := cell_of_row _ _ _ _ _ _ hc
          show (E.w.setRow (E.im k).b us).cell? _ = _
          rw [e1, e2]
          exact hkeep a1 o a2
        · exact cell_eq (setRow_other _ _ _ _ hbk)
  · by_cases hn : k = j
    · subst hn
      have e1 : g' = f' := by simpa [Env.setFam, hk'] using hg'.symm
      have e2 : g = f := by have := hg.symm.trans hk; simpa using this
      subst e1; subst e2
      exact ⟨hsz, hlen, fun _ => rfl⟩
    · have : g = g' := by
        have hg'' : E.h.fams[j]? = some g' := by simpa [Env.setFam, List.getElem?_set_ne hn] using hg'
        have := hg.symm.trans hg''; simpa using this
      subst this
      exact ⟨rfl, Nat.le_refl _, fun _ => rfl⟩

theorem setFam_SR (h : SR E) {k : Nat} {f f' : Fam} (hk : E.h.fams[k]? = some f) {us cur : Array Value} {t : TypeId} (hc : E.w.heap[(E.im k).b]? = some (.cells cur t (0, 0)))
    (hsz : f'.sz = f.sz) (hwr : f'.wr = f.wr) (hlen : f.xs.length ≤ f'.xs.length)
    (hkeep : f.wr = false → ∀ j, j < (E.im k).o + (f.xs.length - (E.im k).lo) * f.sz → us[j]? = cur[j]?)
    (hroom : f'.xs.length ≤ (E.im k).lo + (E.im k).cap) (hsize : us.size = cur.size)
    (hel : ∀ (i : Nat) (x : AV), (E.im k).lo ≤ i → f'.xs[i]? = some x → FElem E us ((E.im k).o + (i - (E.im k).lo) * f.sz) f.sz x) : SR (E.setFam k us f') := by
  have hk' := (List.getElem?_eq_some_iff.1 hk).1
  have hx := setFam_ext h hk hc hsz hwr hlen hkeep
  have hl : (E.setFam k us f').h.fams.length = E.h.fams.length := by simp [Env.setFam]
  refine ⟨by simpa [Env.setFam] using h.basele, fun i cs hi => ?_, fun j g hj => ?_, h.inj, fun a b ha hb => h.injf a b (by simpa [hl] using ha) (by simpa [hl] using hb), fun i a hi ha => h.sep i a hi (by simpa [hl] using ha)⟩
  · have hi' := (List.getElem?_eq_some_iff.1 hi).1
    exact (h.boxes i cs hi).ext hx hi' (setRow_other _ _ _ _ (h.sep i k hi' hk'))
  · by_cases hn : k = j
    · subst hn
      have : g = f' := by simpa [Env.setFam, hk'] using hj.symm
      subst this
      have hf := h.fams k f hk
      obtain ⟨cur', t', c1, c2, _⟩ := hf.cells
      have : cur' = cur := by have := c1.symm.trans hc; simp at this; exact this.1
      subst this
      refine ⟨hf.base, by rw [hsz]; exact hf.sz, Nat.le_trans hf.lo hlen, hroom, hf.cap, us, t, setRow_heap _ _ _ _ _ _ hc, ?_, ?_⟩
      · show (E.im k).o + (E.im k).cap * g.sz ≤ us.size
        rw [hsz, hsize]; exact c2
      · intro i x hi hxi
        have := (hel i x hi hxi).ext hx
        rw [hsz]
        exact this
    · have hj' : j < E.h.fams.length := by have := (List.getElem?_eq_some_iff.1 hj).1; omega
      have hg : E.h.fams[j]? = some g := by simpa [Env.setFam, List.getElem?_set_ne hn] using hj
      exact (h.fams j g hg).ext hx rfl (setRow_other _ _ _ _ (fun e => hn (h.injf _ _ hk' hj' e.symm)))

/-! ### A row that moves to a new block as it grows -/

def Env.moveFam (E : Env) (k : Nat) (us : Array Value) (t : TypeId) (lo cap : Nat) (f : Fam) : Env :=
  { E with w := E.w.alloc (.cells us t), im := upd E.im k ⟨E.w.heap.size, 0, cap, lo⟩, h := { E.h with fams := E.h.fams.set k f } }

theorem moveFam_ext (h : SR E) {k : Nat} {f f' : Fam} (hk : E.h.fams[k]? = some f) (us : Array Value) (t : TypeId) (lo cap : Nat)
    (hsz : f'.sz = f.sz) (hlen : f.xs.length < f'.xs.length) : Ext E (E.moveFam k us t lo cap f') := by
  have hk' := (List.getElem?_eq_some_iff.1 hk).1
  refine ⟨fun b o ho => ?_, Nat.le_refl _, fun _ _ => rfl, by simp [Env.moveFam], fun j g g' hg hg' => ?_, rfl, rfl, (Below.refl _ _).alloc h.basele _⟩
  · have hlt := ok_lt h ho
    refine ⟨?_, cell_eq (Below.heap_alloc _ _ _ hlt)⟩
    rcases ho with ho | ⟨h1, _, h3, h4⟩
    · exact .inl ho
    · refine .inr ⟨h1, by simp [Env.moveFam]; omega, h3, fun j g hj he => ?_⟩
      by_cases hn : j = k
      · subst hn; simp only [Env.moveFam, upd_same] at he; omega
      · simp only [Env.moveFam, upd_other _ _ hn] at he ⊢
        exact h4 j g (by simpa [Env.moveFam, List.getElem?_set_ne (Ne.symm hn)] using hj) he
  · by_cases hn : k = j
    · subst hn
      have e1 : g' = f' := by simpa [Env.moveFam, hk'] using hg'.symm
      have e2 : g = f := by have := hg.symm.trans hk; simpa using this
      subst e1; subst e2
      exact ⟨hsz, Nat.le_of_lt hlen, fun e => by omega⟩
    · have hg'' : E.h.fams[j]? = some g' := by simpa [Env.moveFam, List.getElem?_set_ne hn] using hg'
      have : g = g' := by have := hg.symm.trans hg''; simpa using this
      subst this
      exact ⟨rfl, Nat.le_refl _, fun _ => upd_other _ _ (Ne.symm hn)⟩

theorem moveFam_SR (h : SR E) {k : Nat} {f f' : Fam} (hk : E.h.fams[k]? = some f) {us : Array Value} {t : TypeId} {lo cap : Nat}
    (hsz : f'.sz = f.sz) (hlen : f.xs.length < f'.xs.length) (hlo : lo ≤ f'.xs.length) (hroom : f'.xs.length ≤ lo + cap) (hcap : cap ≤ maxLen) (hfit : cap * f.sz ≤ us.size)
    (hel : ∀ (i : Nat) (x : AV), lo ≤ i → f'.xs[i]? = some x → FElem E us ((i - lo) * f.sz) f.sz x) : SR (E.moveFam k us t lo cap f') := by
  have hk' := (List.getElem?_eq_some_iff.1 hk).1
  have hx := moveFam_ext h hk us t lo cap hsz hlen
  have hl : (E.moveFam k us t lo cap f').h.fams.length = E.h.fams.length := by simp [Env.moveFam]
  have him : ∀ j, j ≠ k → (E.moveFam k us t lo cap f').im j = E.im j := fun j hj => upd_other _ _ hj
  have hnew : (E.moveFam k us t lo cap f').im k = ⟨E.w.heap.size, 0, cap, lo⟩ := upd_same _ _ _
  refine ⟨Nat.le_trans h.basele (by simp [Env.moveFam]), fun i cs hi => ?_, fun j g hj => ?_, h.inj, fun a b ha hb he => ?_, fun i a hi ha => ?_⟩
  · have hi' := (List.getElem?_eq_some_iff.1 hi).1
    exact (h.boxes i cs hi).ext hx hi' (Below.heap_alloc _ _ _ (h.nb_lt hi').2)
  · by_cases hn : k = j
    · subst hn
      have : g = f' := by simpa [Env.moveFam, hk'] using hj.symm
      subst this
      have hf := h.fams k f hk
      refine ⟨by rw [hnew]; exact h.basele, by rw [hsz]; exact hf.sz, by rw [hnew]; exact hlo, by rw [hnew]; exact hroom, by rw [hnew]; exact hcap, us, t, by rw [hnew]; exact heap_alloc_new _ _, by rw [hnew, hsz]; simpa using hfit, ?_⟩
      rw [hnew]
      intro i x hi hxi
      have := (hel i x hi hxi).ext hx
      rw [hsz]
      simpa using this
    · have hj' : j < E.h.fams.length := by have := (List.getElem?_eq_some_iff.1 hj).1; omega
      have hg : E.h.fams[j]? = some g := by simpa [Env.moveFam, List.getElem?_set_ne hn] using hj
      exact (h.fams j g hg).ext hx (him j (Ne.symm hn)) (Below.heap_alloc _ _ _ (h.im_lt hj').2)
  · rw [hl] at ha hb
    by_cases e1 : a = k <;> by_cases e2 : b = k
    · omega
    · subst e1
      rw [hnew, him b e2] at he; have := (h.im_lt hb).2; simp at he; omega
    · subst e2
      rw [hnew, him a e1] at he; have := (h.im_lt ha).2; simp at he; omega
    · rw [him a e1, him b e2] at he; exact h.injf a b ha hb he
  · rw [hl] at ha
    by_cases e1 : a = k
    · subst e1
      rw [hnew]
      have := (h.nb_lt hi).2
      simp only [Env.moveFam]
      omega
    · rw [him a e1]; exact h.sep i a hi ha

end
end Go.Abs

/- Operands, constants, values laid to rest, loads: abstract and in the model. -/
namespace Go.Abs
open Go.RowKit (Below)

/-- A frame. -/
structure FR (E : Env) (fr : Fr) (tmps : Array Value) : Prop where
  len : fr.length = tmps.size
  val : ∀ t : Nat, VR E (fr.getD t undefA) (tmps.getD t undef)

theorem VR_undef (E : Env) : VR E undefA undef := by simp [undefA, undef, VR, VRs]

theorem FR.ext {E E' : Env} (h : Ext E E') {fr : Fr} {tmps : Array Value} (hf : FR E fr tmps) : FR E' fr tmps := ⟨hf.len, fun t => VR_ext h _ _ (hf.val t)⟩

theorem FR.put {E : Env} {fr : Fr} {a : Act} (hf : FR E fr a.tmps) (dst : Option Nat) {v : AV} {u : Value} (hv : VR E v u) : FR E (put fr dst v) (a.put dst u).tmps := by
  cases dst with
  | none => exact hf
  | some d =>
    refine ⟨by simp [Abs.put, Act.put, hf.len], fun t => ?_⟩
    simp only [Abs.put, Act.put]
    by_cases hd : d < fr.length
    · by_cases ht : d = t
      · subst ht
        have hd' : d < a.tmps.size := by rw [← hf.len]; exact hd
        simpa [List.getD, Array.getD, hd, hd'] using hv
      · have := hf.val t
        simpa [List.getD, List.getElem?_set_ne ht, Array.getElem?_setIfInBounds_ne ht] using this
    · have := hf.val t
      have hd' : ¬ d < a.tmps.size := by rw [← hf.len]; exact hd
      have e1 : fr.set d v = fr := List.set_eq_of_length_le (by omega)
      have e2 : a.tmps.setIfInBounds d u = a.tmps := Array.setIfInBounds_eq_of_size_le (by omega)
      rw [e1, e2]; exact this

theorem mapO_spec {α β : Type} {f : α → Option β} : ∀ {l : List α} {r : List β}, mapO f l = some r → r.length = l.length ∧ ∀ (j : Nat) (x : α), l[j]? = some x → ∃ y, f x = some y ∧ r[j]? = some y
  | [], r, h => by simp [mapO] at h; subst h; simp
  | a :: l, r, h => by
    simp only [mapO] at h
    split at h
    · rename_i y ys h1 h2
      cases h
      obtain ⟨hl, hg⟩ := mapO_spec h2
      refine ⟨by simp [hl], fun j x hx => ?_⟩
      cases j with
      | zero => simp at hx; subst hx; exact ⟨y, h1, rfl⟩
      | succ j => simpa using hg j x (by simpa using hx)
    · cases h

theorem constAV1_sound {w : World} {ok : Nat → Nat → Prop} : ∀ {v : Value} {x : AV}, constAV1 v = some x → PV w ok x v ∧ v.oneCell' = true := by
  intro v x h
  unfold constAV1 at h
  split at h
  case h_1 => cases h; exact ⟨by simp [PV], rfl⟩
  case h_2 => cases h; exact ⟨by simp [PV], rfl⟩
  case h_3 => cases h; exact ⟨by simp [PV], rfl⟩
  case h_4 => cases h; exact ⟨by simp only [PV]; exact ⟨none, 0, 0, rfl, rfl, by omega, by omega, fun _ => rfl, ⟨fun _ => rfl, by simp⟩, fun h => absurd rfl h⟩, rfl⟩
  case h_5 => cases h; exact ⟨by simp [PV], rfl⟩
  case h_6 => cases h; exact ⟨by simp [PV], rfl⟩
  case h_8 => cases h
  case h_7 f a b =>
    split at h
    · rename_i hs
      cases h
      have ha : a = #[] := Array.size_eq_zero_iff.1 hs.1
      have hb : b = #[] := Array.size_eq_zero_iff.1 hs.2
      subst ha; subst hb
      exact ⟨by simp [PV, PVs], rfl⟩
    · cases h

theorem constAV_sound {w : World} {ok : Nat → Nat → Prop} {v : Value} {x : AV} (h : constAV v = some x) : PV w ok x v := by
  unfold constAV at h
  split at h
  · rename_i cs
    cases hm : mapO constAV1 cs.toList with
    | none => simp [hm] at h
    | some ys =>
      simp [hm] at h
      subst h
      obtain ⟨hl, hg⟩ := mapO_spec hm
      simp only [PV]
      refine ⟨cs, rfl, fun u hu => ?_, PVs_of hl.symm fun j c u hc hu => ?_⟩
      · obtain ⟨j, hj⟩ := List.getElem?_of_mem hu
        obtain ⟨y, hy, _⟩ := hg j u hj
        exact (constAV1_sound (w := w) (ok := ok) hy).2
      · obtain ⟨y, hy, hy'⟩ := hg j u hu
        have : c = y := by rw [hc] at hy'; simpa using hy'
        subst this
        exact (constAV1_sound hy).1
  · rename_i vs
    split at h
    · rename_i hs
      cases h
      have : vs = #[] := Array.size_eq_zero_iff.1 hs
      subst this
      simp [PV, PVs]
    · cases h
  · exact (constAV1_sound h).1

section
variable {E : Env}

theorem opd_sound {fr : Fr} {a : Act} (hf : FR E fr a.tmps) {x : Operand} {y : Opd} (h : resOpd x = some y) : VR E (get fr y) (a.eval x) := by
  cases x with
  | tmp t => simp [resOpd] at h; subst h; exact hf.val t
  | const v =>
    simp only [resOpd] at h
    cases hc : constAV v with
    | none => simp [hc] at h
    | some av => simp [hc] at h; subst h; exact VR_of_PV _ _ (constAV_sound hc)
  | global g => simp [resOpd] at h
  | func f => simp [resOpd] at h; subst h; simp [get, Act.eval, VR, VRs]

theorem opds_sound {fr : Fr} {a : Act} (hf : FR E fr a.tmps) {xs : Array Operand} {ys : List Opd} (h : mapO resOpd xs.toList = some ys) : VRs E (ys.map (get fr)) (xs.map a.eval).toList := by
  obtain ⟨hl, hg⟩ := mapO_spec h
  refine VRs_of (by simpa using hl.symm) fun j c u hc hu => ?_
  simp only [Array.toList_map, List.getElem?_map] at hc hu
  cases hx : xs.toList[j]? with
  | none => simp [hx] at hu
  | some x =>
    obtain ⟨y, hy, hy'⟩ := hg j x hx
    simp [hx] at hu
    simp [hy'] at hc
    subst hu; subst hc
    exact opd_sound hf hy

theorem VR_one {x : AV} {v : Value} (h : VR E x v) (ht : x.isTup = false) (ha : ∀ cs, x ≠ .agg cs) : v.oneCell' = true ∧ v.cells = #[v] := by
  cases x <;> simp only [VR, PV] at h
  case agg cs => exact absurd rfl (ha cs)
  case tup => simp [AV.isTup] at ht
  case junk => refine ⟨h, ?_⟩; cases v <;> simp_all [Value.oneCell', Value.cells]
  case vs => obtain ⟨a, len, cap, rfl, _⟩ := h; exact ⟨rfl, rfl⟩
  case sl => obtain ⟨a, cap, f, rfl, _⟩ := h; exact ⟨rfl, rfl⟩
  case pv => obtain ⟨b, o, rfl, _⟩ := h; exact ⟨rfl, rfl⟩
  case ep => obtain ⟨a, f, rfl, _⟩ := h; exact ⟨rfl, rfl⟩
  case ptr => obtain ⟨_, rfl⟩ := h; exact ⟨rfl, rfl⟩
  case fn => obtain ⟨us, rfl, _⟩ := h; exact ⟨rfl, rfl⟩
  all_goals (subst h; exact ⟨rfl, rfl⟩)

theorem VR_cells {x : AV} {v : Value} (h : VR E x v) (ht : x.isTup = false) : VRs E x.cells v.cells.toList ∧ ∀ u ∈ v.cells.toList, u.oneCell' = true := by
  by_cases ha : ∃ cs, x = .agg cs
  · obtain ⟨cs, rfl⟩ := ha
    simp only [VR] at h
    obtain ⟨us, rfl, h1, h2⟩ := h
    exact ⟨h2, h1⟩
  · have ha' : ∀ cs, x ≠ .agg cs := fun cs e => ha ⟨cs, e⟩
    obtain ⟨h1, h2⟩ := VR_one h ht ha'
    have hc : x.cells = [x] := by cases x <;> first | rfl | exact absurd rfl (ha' _)
    rw [hc, h2]
    exact ⟨by simp [VRs, h], by simpa using h1⟩

/-! ### Rows laid to rest -/

theorem mul_room {i n sz c : Nat} (hi : i < n) (hc : c < sz) : i * sz + c < n * sz := by
  have : (i + 1) * sz ≤ n * sz := Nat.mul_le_mul_right _ hi
  rw [Nat.succ_mul] at this
  omega

theorem sl_PV (hS : SR E) {k n off len : Nat} {v : Value} {f : Fam} (hv : VR E (.sl k n off len) v) (hf : E.h.fams[k]? = some f) (hn : f.xs.length = n) (ho : off + len ≤ n)
    {ok' : Nat → Nat → Prop} (hok : ∀ b o, E.ok b o → ok' b o) (hown : f.wr = true → ∀ b o, E.base ≤ b → b < E.w.heap.size → ok' b o) :
    PV E.w ok' (.vs false f.sz ((f.xs.drop off).take len)) v := by
  simp only [VR] at hv
  obtain ⟨a, cap, f', rfl, hf', hle, hc⟩ := hv
  have : f' = f := by rw [hf] at hf'; simpa using hf'.symm
  subst this
  obtain ⟨h1, h2, h3, h4, h5⟩ := hc hn
  have hF := hS.fams k f' hf
  have hk := (List.getElem?_eq_some_iff.1 hf).1
  have hb := hS.im_lt hk
  have hroom := hF.room
  have hcap := hF.cap
  have hlen : ((f'.xs.drop off).take len).length = len := by simp; omega
  simp only [PV]
  refine ⟨a, len, cap, rfl, hlen.symm, by omega, by omega, by simp, ⟨fun e => absurd e h4, ⟨fun e => absurd e h4, fun e => absurd hF.sz (by omega)⟩⟩, fun hne => ?_⟩
  have hpos : 0 < len := by
    rcases Nat.eq_zero_or_pos len with h0 | h0
    · subst h0; simp at hne
    · exact h0
  refine ⟨_, _, h5 (by omega), hF.sz, PEls_of fun j x hx => ?_⟩
  have hj : j < len := by have := (List.getElem?_eq_some_iff.1 hx).1; omega
  have hx' : f'.xs[off + j]? = some x := by
    rw [List.getElem?_take, if_pos hj, List.getElem?_drop] at hx; exact hx
  obtain ⟨cur, t, c1, c2, c3⟩ := hF.cells
  obtain ⟨e1, e2⟩ := c3 (off + j) x (by omega) hx'
  have epos : (E.im k).o + (off + j - (E.im k).lo) * f'.sz = (E.im k).o + (off - (E.im k).lo) * f'.sz + j * f'.sz := by
    rw [show off + j - (E.im k).lo = (off - (E.im k).lo) + j from by omega, Nat.add_mul]; omega
  refine ⟨e1, PCells_of fun c y hy => ?_⟩
  obtain ⟨u, u1, u2, u3⟩ := e2 c y hy
  have hcs : c < f'.sz := by have := (List.getElem?_eq_some_iff.1 hy).1; omega
  rw [epos] at u1
  refine ⟨u, ?_, ?_, u2, PV_mono (fun b o h => ⟨hok b o h, rfl⟩) _ _ u3⟩
  · cases hw : f'.wr with
    | true => exact hown hw _ _ hb.1 hb.2
    | false =>
      refine hok _ _ (.inr ⟨hb.1, hb.2, fun i hi => hS.sep i k hi hk, fun k' g hk' he => ?_⟩)
      have hk'' := (List.getElem?_eq_some_iff.1 hk').1
      have := hS.injf k' k hk'' hk he
      subst this
      have : g = f' := by rw [hf] at hk'; simpa using hk'.symm
      subst this
      refine ⟨hw, ?_⟩
      rw [← epos, Nat.add_assoc]
      exact Nat.add_lt_add_left (mul_room (by omega) hcs) _
  · rw [cell_of_row _ _ _ _ _ _ c1]; exact u1

theorem flat_PV {x : AV} {v : Value} (h : VR E x v) (hf : x.flat = true) : PV E.w E.ok x v := by
  cases x <;> simp only [VR] at h <;> first | exact h | (simp [AV.flat] at hf; done) | skip
  all_goals simp only [PV]
  all_goals first
    | exact h
    | skip
  case fn f caps =>
    obtain ⟨us, rfl, hu⟩ := h
    have hc : caps = [] := by simpa [AV.flat] using hf
    subst hc
    refine ⟨us, rfl, ?_⟩
    simpa [VRs, PVs] using hu

/-- `ok'` lets all that pure values may lean on; and, where rows that may be written to are let (`am`), all memory. -/
def OkUp (E : Env) (am : Bool) (ok' : Nat → Nat → Prop) : Prop := (∀ b o, E.ok b o → ok' b o) ∧ (am = true → ∀ b o, E.base ≤ b → b < E.w.heap.size → ok' b o)

theorem frz1_sound (hS : SR E) {am : Bool} {ok' : Nat → Nat → Prop} (hok : OkUp E am ok') {x y : AV} {v : Value} (hv : VR E x v) (h : frz1 E.h am x = some y) : PV E.w ok' y v ∧ (v.oneCell' = true → True) ∧ y.isTup = false := by
  have up : ∀ {z : AV} {u : Value}, PV E.w E.ok z u → PV E.w ok' z u := fun hz => PV_mono (fun b o h => ⟨hok.1 b o h, rfl⟩) _ _ hz
  cases x <;> simp only [frz1] at h
  case sl k n off len =>
    split at h
    · rename_i f hf
      split at h
      · rename_i hc
        cases h
        refine ⟨sl_PV hS hv hf hc.1 hc.2.1 hok.1 (fun hw => hok.2 ?_), fun _ => trivial, rfl⟩
        have := hc.2.2; simpa [hw] using this
      · cases h
    · cases h
  case ep => cases h
  case ptr => cases h
  case agg => cases h
  case tup => cases h
  case fn f caps =>
    split at h
    · rename_i hc
      cases h
      refine ⟨?_, fun _ => trivial, rfl⟩
      simp only [VR] at hv
      obtain ⟨us, rfl, hu⟩ := hv
      obtain ⟨hl, hg⟩ := VRs_get hu
      simp only [PV]
      refine ⟨us, rfl, PVs_of hl fun j c u hc' hu' => ?_⟩
      obtain ⟨u', h1, h2⟩ := hg hc'
      have : u' = u := by rw [hu'] at h1; simpa using h1.symm
      subst this
      exact up (flat_PV h2 ((List.all_eq_true.1 hc) c (List.mem_of_getElem? hc')))
    · cases h
  all_goals (cases h; exact ⟨up (flat_PV hv rfl), fun _ => trivial, rfl⟩)

theorem frzL_sound (hS : SR E) {am : Bool} {ok' : Nat → Nat → Prop} (hok : OkUp E am ok') : ∀ {xs ys : List AV} {us : List Value}, VRs E xs us → frzL E.h am xs = some ys → PVs E.w ok' ys us
  | [], ys, us, hv, h => by simp [frzL] at h; subst h; simpa [VRs, PVs] using hv
  | x :: xs, ys, us, hv, h => by
    simp only [frzL, Option.bind_eq_some_iff, Option.map_eq_some_iff] at h
    obtain ⟨y, hy, ys', hys, rfl⟩ := h
    simp only [VRs] at hv
    obtain ⟨u, us', rfl, h1, h2⟩ := hv
    simp only [PVs]
    exact ⟨u, us', rfl, (frz1_sound hS hok h1 hy).1, frzL_sound hS hok h2 hys⟩

theorem frz_sound (hS : SR E) {am : Bool} {ok' : Nat → Nat → Prop} (hok : OkUp E am ok') {x y : AV} {v : Value} (hv : VR E x v) (h : frz E.h am x = some y) : PV E.w ok' y v ∧ y.isTup = false := by
  unfold frz at h
  split at h
  · rename_i cs
    simp only [Option.map_eq_some_iff] at h
    obtain ⟨ys, hys, rfl⟩ := h
    simp only [VR] at hv
    obtain ⟨us, rfl, h1, h2⟩ := hv
    simp only [PV]
    exact ⟨⟨us, rfl, h1, frzL_sound hS hok h2 hys⟩, rfl⟩
  · have := frz1_sound hS hok hv h
    exact ⟨this.1, this.2.2⟩

theorem frzAll_sound (hS : SR E) {am : Bool} {ok' : Nat → Nat → Prop} (hok : OkUp E am ok') : ∀ {xs ys : List AV} {us : List Value}, VRs E xs us → frzAll E.h am xs = some ys → PVs E.w ok' ys us
  | [], ys, us, hv, h => by simp [frzAll] at h; subst h; simpa [VRs, PVs] using hv
  | x :: xs, ys, us, hv, h => by
    simp only [frzAll, Option.bind_eq_some_iff, Option.map_eq_some_iff] at h
    obtain ⟨y, hy, ys', hys, rfl⟩ := h
    simp only [VRs] at hv
    obtain ⟨u, us', rfl, h1, h2⟩ := hv
    simp only [PVs]
    exact ⟨u, us', rfl, (frz_sound hS hok h1 hy).1, frzAll_sound hS hok h2 hys⟩

theorem frzRes_sound (hS : SR E) {ok' : Nat → Nat → Prop} (hok : OkUp E true ok') {x y : AV} {v : Value} (hv : VR E x v) (h : frzRes E.h x = some y) : PV E.w ok' y v := by
  unfold frzRes at h
  split at h
  · rename_i vs
    simp only [Option.map_eq_some_iff] at h
    obtain ⟨ys, hys, rfl⟩ := h
    simp only [VR] at hv
    obtain ⟨us, rfl, h2⟩ := hv
    simp only [PV]
    exact ⟨us, rfl, frzAll_sound hS hok h2 hys⟩
  · exact (frz_sound hS hok hv h).1

/-! ### Loads -/

/-- Cells from o on in block b. -/
def CellsV (E : Env) (b o : Nat) (cs : List AV) : Prop :=
  ∀ (j : Nat) (c : AV), cs[j]? = some c → ∃ u, E.w.cell? ⟨b, o + j, none⟩ = some u ∧ u.oneCell' = true ∧ VR E c u

theorem CellsV.drop {b o n : Nat} {cs : List AV} (h : CellsV E b o cs) : CellsV E b (o + n) (cs.drop n) := by
  intro j c hc
  rw [List.getElem?_drop] at hc
  have := h (n + j) c hc
  rwa [show o + (n + j) = o + n + j from by omega] at this

theorem CellsV_of_PCells {b o : Nat} {cs : List AV} (h : PCells E.w E.ok b o cs) : CellsV E b o cs := by
  intro j c hc
  obtain ⟨u, _, h2, h3, h4⟩ := PCells_get h hc
  exact ⟨u, h2, h3, VR_of_PV _ _ h4⟩

theorem loadA_cells (hS : SR E) {agg : Bool} {n : Nat} {x r : AV} {v : Value} (hv : VR E x v) (h : loadA E.h agg n x = some r) :
    ∃ b o cs, v = .pointer (some ⟨b, o, none⟩) ∧ CellsV E b o cs ∧ ofCells agg n cs = some r := by
  cases x <;> simp only [loadA] at h <;> try (cases h; done)
  case pv cs =>
    simp only [VR, PV] at hv
    obtain ⟨b, o, rfl, hc⟩ := hv
    exact ⟨b, o, cs, rfl, CellsV_of_PCells hc, h⟩
  case ptr b off =>
    split at h
    · rename_i cs hcs
      simp only [VR] at hv
      obtain ⟨_, rfl⟩ := hv
      obtain ⟨_, cur, t, h2, h3, h4⟩ := hS.boxes b cs hcs
      refine ⟨E.nb b, 0 + off, cs.drop off, by simp, CellsV.drop ?_, h⟩
      obtain ⟨hl, hg⟩ := VRs_get h3
      intro j c hc
      obtain ⟨u, h5, h6⟩ := hg hc
      refine ⟨u, ?_, h4 u (List.mem_of_getElem? h5), h6⟩
      rw [Nat.zero_add, cell_of_row _ _ _ _ _ _ h2]
      simpa using h5
    · cases h
  case ep k m i c =>
    split at h
    · rename_i f hf
      split at h
      · rename_i hm
        split at h
        · rename_i y hy
          simp only [VR] at hv
          obtain ⟨a, f', rfl, hf', _, hc⟩ := hv
          have : f' = f := by rw [hf] at hf'; simpa using hf'.symm
          subst this
          obtain ⟨hlo, rfl⟩ := hc hm
          obtain ⟨cur, t, c1, c2, c3⟩ := (hS.fams k f' hf).cells
          obtain ⟨e1, e2⟩ := c3 i y hlo hy
          refine ⟨_, _, y.cells.drop c, rfl, CellsV.drop ?_, h⟩
          intro j z hz
          obtain ⟨u, u1, u2, u3⟩ := e2 j z hz
          exact ⟨u, by rw [cell_of_row _ _ _ _ _ _ c1]; exact u1, u2, VR_of_PV _ _ u3⟩
        · cases h
      · cases h
    · cases h

theorem add_addr (b o j : Nat) : (⟨b, o, none⟩ : Addr).add j = ⟨b, o + j, none⟩ := by unfold Addr.add; split <;> simp_all

theorem run_load_cells {P : Program} {t : TypeId} {agg : Bool} {n b o : Nat} {cs : List AV} {r : AV} (hc : CellsV E b o cs) (h : ofCells agg n cs = some r)
    (ha : Program.agg? P t = some agg) (hn : Program.size? P t = some n) : ∃ v, (loadVar t ⟨b, o, none⟩).run P E.w = .ok v E.w ∧ VR E r v := by
  have hisAgg : (isAgg t).run P E.w = .ok agg E.w := by
    unfold Program.agg? at ha
    unfold isAgg underlying
    split at ha <;> simp_all
  have hsize : (sizeOf t).run P E.w = .ok n E.w := by
    unfold Program.size? at hn
    unfold sizeOf typeInfo
    simp only [Option.map_eq_some_iff] at hn
    obtain ⟨i, hi, rfl⟩ := hn
    simp [hi]
  cases agg with
  | true =>
    simp only [ofCells] at h
    split at h
    · rename_i hle
      cases h
      have hex : ∀ j, j < n → ∃ u, E.w.cell? ⟨b, o + j, none⟩ = some u ∧ u.oneCell' = true ∧ VR E (cs.getD j default) u := by
        intro j hj
        have hj' : cs[j]? = some (cs.getD j default) := by simp [List.getD, List.getElem?_eq_getElem (show j < cs.length by omega)]
        exact hc j _ hj'
      have hpick : ∃ g : Nat → Value, ∀ j, j < n → E.w.cell? ⟨b, o + j, none⟩ = some (g j) ∧ (g j).oneCell' = true ∧ VR E (cs.getD j default) (g j) := by
        refine ⟨fun j => if hj : j < n then Classical.choose (hex j hj) else default, fun j hj => ?_⟩
        simp only [hj, dif_pos]
        exact Classical.choose_spec (hex j hj)
      obtain ⟨g, hg⟩ := hpick
      have hl := run_loadCells (P := P) E.w ⟨b, o, none⟩ n g (fun j hj => by rw [add_addr]; exact (hg j hj).1)
      refine ⟨.agg (List.map g (List.range n)).toArray, ?_, ?_⟩
      · unfold loadVar
        simp only [Sem.run_bind, hisAgg, Result.andThen_ok, if_true, hsize, hl, Sem.run_pure]
      · simp only [VR]
        refine ⟨_, rfl, fun u hu => ?_, VRs_of (by simp; omega) fun j c u hc' hu => ?_⟩
        · simp at hu
          obtain ⟨j, hj, rfl⟩ := hu
          exact (hg j hj).2.1
        · have hj : j < n := by have := (List.getElem?_eq_some_iff.1 hc').1; simp at this; omega
          rw [List.getElem?_take, if_pos hj] at hc'
          have e1 : u = g j := by simpa [hj] using hu.symm
          have e2 : cs.getD j default = c := by simp [List.getD, hc']
          rw [e1, ← e2]
          exact (hg j hj).2.2
    · cases h
  | false =>
    simp only [ofCells] at h
    have h0 : cs[0]? = some r := by rw [← h]; cases cs <;> rfl
    obtain ⟨u, h1, _, h3⟩ := hc 0 r h0
    refine ⟨u, ?_, h3⟩
    unfold loadVar
    simp only [Sem.run_bind, hisAgg, Result.andThen_ok, Bool.false_eq_true, if_false]
    simp at h1
    simp [h1]

end
end Go.Abs

/- Operations that leave the model's world alone: what they yield stands to what the abstract operation yields. -/
namespace Go.Abs
open Go.RowKit (Below)
section
variable {E : Env} {P : Program} {fr : Fr} {a : Act}

/-- The operation yields u and leaves the world alone. -/
def Quiet (P : Program) (a : Act) (o : Oper) (E : Env) (v : AV) : Prop := ∃ u, (execOp a.eval o).run P E.w = .ok (.value u) E.w ∧ VR E v u

theorem VR_int (k : IntKind) (n : Int) : VR E (.int k n) (.int k n) := by simp [VR]
theorem VR_bool (b : Bool) : VR E (.bool b) (.bool b) := by simp [VR]
theorem VR_str (b : ByteArray) : VR E (.str b) (.string b) := by simp [VR]

theorem eqGuard_int (op : BinOp) (t : TypeId) (x y : Operand) (k k' : IntKind) (i j : Int) (w : World) : (eqGuard op t x y (.int k i) (.int k' j)).run P w = .ok () w := by
  unfold eqGuard; cases op <;> simp
theorem eqGuard_str (op : BinOp) (t : TypeId) (x y : Operand) (i j : ByteArray) (w : World) : (eqGuard op t x y (.string i) (.string j)).run P w = .ok () w := by
  unfold eqGuard; cases op <;> simp
theorem eqGuard_bool (op : BinOp) (t : TypeId) (x y : Operand) (i j : Bool) (w : World) : (eqGuard op t x y (.bool i) (.bool j)).run P w = .ok () w := by
  unfold eqGuard; cases op <;> simp

theorem bin_int_sound {op : BinOp} {t : TypeId} {k k' : IntKind} {i j : Int} {v : AV} (w : World) (h : evalBin op (.int k i) (.int k' j) = some v) :
    ∃ u, (binOp op t (.int k i) (.int k' j)).run P w = .ok u w ∧ VR E v u := by
  cases op <;> simp only [evalBin] at h <;> try (cases h; done)
  case quo =>
    split at h
    · rename_i hk; cases h; obtain ⟨rfl, hj⟩ := hk; refine ⟨_, ?_, VR_int _ _⟩; simp [binOp, Op.intDiv, hj]
    · cases h
  case rem =>
    split at h
    · rename_i hk; cases h; obtain ⟨rfl, hj⟩ := hk; refine ⟨_, ?_, VR_int _ _⟩; simp [binOp, Op.intDiv, hj]
    · cases h
  case shl =>
    split at h
    · rename_i hk; cases h; refine ⟨_, ?_, VR_int _ _⟩; simp [binOp, Op.shift, show ¬ j < 0 from by omega]
    · cases h
  case shr =>
    split at h
    · rename_i hk; cases h; refine ⟨_, ?_, VR_int _ _⟩; simp [binOp, Op.shift, show ¬ j < 0 from by omega]
    · cases h
  all_goals
    split at h
    · rename_i hk; cases h; subst hk; first | (refine ⟨_, ?_, VR_int _ _⟩; simp [binOp, Op.intArith, Op.intBits]; done) | (refine ⟨_, ?_, VR_bool _⟩; simp [binOp, Op.intCmp]; done)
    · cases h

theorem bin_str_sound {op : BinOp} {t : TypeId} {i j : ByteArray} {v : AV} (w : World) (h : evalBin op (.str i) (.str j) = some v) :
    ∃ u, (binOp op t (.string i) (.string j)).run P w = .ok u w ∧ VR E v u := by
  cases op <;> simp only [evalBin] at h <;> try (cases h; done)
  case add =>
    split at h
    · cases h
    · rename_i hk; cases h; refine ⟨_, ?_, VR_str _⟩; simp only [binOp, Op.stringOp, hk, if_false, Sem.run_pure]
  all_goals (cases h; refine ⟨_, ?_, VR_bool _⟩; simp [binOp, Op.stringOp])

theorem bin_sound {op : BinOp} {t : TypeId} {x y : AV} {v : AV} {xv yv : Value} (hx : VR E x xv) (hy : VR E y yv) (px py : Operand) (w : World) (h : evalBin op x y = some v) :
    ∃ u, (do eqGuard op t px py xv yv; binOp op t xv yv : Sem Value).run P w = .ok u w ∧ VR E v u := by
  cases x <;> cases y <;> try (simp [evalBin] at h; done)
  · simp only [VR] at hx hy; subst hx; subst hy
    obtain ⟨u, h1, h2⟩ := bin_int_sound (E := E) (P := P) (t := t) w h
    exact ⟨u, by simp [eqGuard_int, h1], h2⟩
  · simp only [VR] at hx hy; subst hx; subst hy
    obtain ⟨u, h1, h2⟩ := bin_str_sound (E := E) (P := P) (t := t) w h
    exact ⟨u, by simp [eqGuard_str, h1], h2⟩

theorem run_under {t : TypeId} {d : TypeDesc} (h : P.underlying t = some d) (w : World) : (underlying t).run P w = .ok d w := by unfold underlying; simp [h]
theorem run_size {t : TypeId} {n : Nat} (h : Program.size? P t = some n) (w : World) : (sizeOf t).run P w = .ok n w := by
  unfold Program.size? at h
  simp only [Option.map_eq_some_iff] at h
  obtain ⟨i, hi, rfl⟩ := h
  unfold sizeOf typeInfo
  simp [hi]

theorem equalIn_bool {t : TypeId} (ht : P.underlying t = some .bool) (d : Nat) (i j : Bool) (w : World) : (Op.equalIn (d + 1) t (.bool i) (.bool j)).run P w = .ok (i == j) w := by
  simp [Op.equalIn, run_under ht]

theorem beq_sound {neg : Bool} {t : TypeId} {i j : Bool} (ht : P.underlying t = some .bool) (px py : Operand) (w : World) :
    (do eqGuard (if neg then .neq else .eql) t px py (.bool i) (.bool j); binOp (if neg then .neq else .eql) t (.bool i) (.bool j) : Sem Value).run P w = .ok (.bool (if neg then !(i == j) else i == j)) w := by
  have h : (Op.equal t (.bool i) (.bool j)).run P w = .ok (i == j) w := equalIn_bool ht 9999 i j w
  cases neg <;> simp only [if_true, if_false, Bool.false_eq_true, Sem.run_bind, eqGuard_bool, Result.andThen_ok, binOp, h, Sem.run_pure]

theorem equalIn_nil {t e : TypeId} {ad : Option Addr} {len cap : Nat} (ht : P.underlying t = some (.slice e)) (d : Nat) (w : World) : (Op.equalIn (d + 1) t (.slice ad len cap) (.slice none 0 0)).run P w = .ok ad.isNone w := by
  cases ad <;> simp [Op.equalIn, run_under ht]

theorem nileq_sound {neg : Bool} {t e : TypeId} {ad : Option Addr} {len cap : Nat} (ht : P.underlying t = some (.slice e)) (px py : Operand) (w : World) :
    (do eqGuard (if neg then .neq else .eql) t px py (.slice ad len cap) (.slice none 0 0); binOp (if neg then .neq else .eql) t (.slice ad len cap) (.slice none 0 0) : Sem Value).run P w = .ok (.bool (if neg then !ad.isNone else ad.isNone)) w := by
  have h : (Op.equal t (.slice ad len cap) (.slice none 0 0)).run P w = .ok ad.isNone w := equalIn_nil ht 9999 w
  have g : (eqGuard (if neg then .neq else .eql) t px py (.slice ad len cap) (.slice none 0 0)).run P w = .ok () w := by
    unfold eqGuard; cases neg <;> simp
  cases neg <;> simp only [if_true, if_false, Bool.false_eq_true, Sem.run_bind, Result.andThen_ok, binOp, h, Sem.run_pure] at g ⊢ <;> simp only [g, Result.andThen_ok, h, Sem.run_bind, Sem.run_pure]

theorem bound_sound (hf : FR E fr a.tmps) {x : Option Operand} {y : Option Opd} (hr : resOpt x = some y) {r : Option Int} (h : boundA fr y = some r) :
    (r = none ∧ x.map a.eval = none) ∨ ∃ k i, r = some i ∧ x.map a.eval = some (.int k i) := by
  cases x with
  | none => simp [resOpt] at hr; subst hr; simp [boundA] at h; subst h; exact .inl ⟨rfl, rfl⟩
  | some x =>
    simp only [resOpt, Option.map_eq_some_iff] at hr
    obtain ⟨z, hz, rfl⟩ := hr
    have hv := opd_sound hf hz
    simp only [boundA] at h
    split at h
    · rename_i k i hg
      cases h
      rw [hg] at hv
      simp only [VR] at hv
      exact .inr ⟨k, i, rfl, by simp [hv]⟩
    · cases h

theorem run_sliceBound {k : IntKind} {i : Int} {y : Nat} {code : Go.BoundsCode} (w : World) (h0 : 0 ≤ i) (h1 : i ≤ y) : (Instr.sliceBound (.int k i) y code).run P w = .ok i.toNat w := by
  unfold Instr.sliceBound; simp [asIntOf, h0, h1]

theorem sliceBounds_none {b : Bool} {len cap : Nat} {lo hi : Option Value} {l h : Option Int} (w : World) (hl : (l = none ∧ lo = none) ∨ ∃ k i, l = some i ∧ lo = some (.int k i)) (hh : (h = none ∧ hi = none) ∨ ∃ k i, h = some i ∧ hi = some (.int k i))
    (h0 : 0 ≤ l.getD 0) (h1 : l.getD 0 ≤ h.getD len) (h2 : h.getD len ≤ len) (hc : len ≤ cap) :
    (Instr.sliceBounds b len cap lo hi none).run P w = .ok ((l.getD 0).toNat, (h.getD len).toNat, cap) w := by
  unfold Instr.sliceBounds
  rcases hl with ⟨rfl, rfl⟩ | ⟨k, i, rfl, rfl⟩ <;> rcases hh with ⟨rfl, rfl⟩ | ⟨k', j, rfl, rfl⟩ <;> simp only [Option.getD_none, Option.getD_some] at h0 h1 h2 ⊢
  · simp
  · cases b <;> simp [run_sliceBound w (show (0 : Int) ≤ j by omega) (show j ≤ (cap : Int) by omega)]
  · simp [run_sliceBound w h0 (show i ≤ (len : Int) by omega)]
  · have e : i ≤ ((j.toNat : Nat) : Int) := by omega
    cases b <;> simp [run_sliceBound w (show (0 : Int) ≤ j by omega) (show j ≤ (cap : Int) by omega), run_sliceBound w h0 e]

theorem sliceBounds_some {b : Bool} {len cap : Nat} {lo hi mx : Option Value} {l h : Option Int} {m : Int} (w : World) (hl : (l = none ∧ lo = none) ∨ ∃ k i, l = some i ∧ lo = some (.int k i)) (hh : (h = none ∧ hi = none) ∨ ∃ k i, h = some i ∧ hi = some (.int k i))
    (hm : ∃ k, mx = some (.int k m)) (hs : h.isSome = true)
    (h0 : 0 ≤ l.getD 0) (h1 : l.getD 0 ≤ h.getD len) (h2 : h.getD len ≤ m) (hc : m ≤ cap) :
    (Instr.sliceBounds b len cap lo hi mx).run P w = .ok ((l.getD 0).toNat, (h.getD len).toNat, m.toNat) w := by
  unfold Instr.sliceBounds
  obtain ⟨km, rfl⟩ := hm
  rcases hh with ⟨rfl, rfl⟩ | ⟨k', j, rfl, rfl⟩
  · simp at hs
  simp only [Option.getD_some] at h1 h2 ⊢
  have em : j ≤ ((m.toNat : Nat) : Int) := by omega
  rcases hl with ⟨rfl, rfl⟩ | ⟨k, i, rfl, rfl⟩ <;> simp only [Option.getD_none, Option.getD_some] at h0 h1 ⊢
  · cases b <;> simp [run_sliceBound w (show (0 : Int) ≤ m by omega) hc, run_sliceBound w (show (0 : Int) ≤ j by omega) em]
  · have e : i ≤ ((j.toNat : Nat) : Int) := by omega
    cases b <;> simp [run_sliceBound w (show (0 : Int) ≤ m by omega) hc, run_sliceBound w (show (0 : Int) ≤ j by omega) em, run_sliceBound w h0 e]

end
end Go.Abs

/- Each quiet operation: what it yields in the model is what the abstract operation yields. -/
namespace Go.Abs
open Go.RowKit (Below)
section
variable {E : Env} {P : Program} {fr : Fr} {a : Act} {o : Oper}

theorem q_mov {x : Operand} {y : Opd} (hf : FR E fr a.tmps) (ho : o.op = .move x ∨ o.op = .assign x) (hx : resOpd x = some y) : Quiet P a o E (get fr y) := by
  refine ⟨a.eval x, ?_, opd_sound hf hx⟩
  rcases ho with ho | ho <;> simp [execOp, ho]

theorem q_pick {c x y : Operand} {c' x' y' : Opd} {t : Bool} (hf : FR E fr a.tmps) (ho : o.op = .pick c x y) (hc : resOpd c = some c') (hx : resOpd x = some x') (hy : resOpd y = some y') (hg : get fr c' = .bool t) :
    Quiet P a o E (if t then get fr x' else get fr y') := by
  have h := opd_sound hf hc
  rw [hg] at h
  simp only [VR] at h
  refine ⟨if t then a.eval x else a.eval y, ?_, ?_⟩
  · cases t <;> simp [execOp, ho, h, asBool]
  · cases t
    · exact opd_sound hf hy
    · exact opd_sound hf hx

theorem q_ld {t : TypeId} {x : Operand} {x' : Opd} {b : Bool} {n : Nat} {v : AV} (hS : SR E) (hf : FR E fr a.tmps) (ho : o.op = .load t x) (hb : Program.agg? P t = some b) (hn : Program.size? P t = some n) (hx : resOpd x = some x')
    (h : loadA E.h b n (get fr x') = some v) : Quiet P a o E v := by
  obtain ⟨bl, of, cs, e1, e2, e3⟩ := loadA_cells hS (opd_sound hf hx) h
  obtain ⟨u, h1, h2⟩ := run_load_cells (P := P) e2 e3 hb hn
  exact ⟨u, by simp [execOp, ho, Instr.loadAt, Instr.sureAddr, e1, h1], h2⟩

theorem q_nilck {x : Operand} {x' : Opd} {v : AV} (hf : FR E fr a.tmps) (ho : o.op = .nilCheck x) (hx : resOpd x = some x')
    (h : (match get fr x' with | .pv cs => some (AV.pv cs, E.h) | .ptr b o => some (.ptr b o, E.h) | .ep k n i q => some (.ep k n i q, E.h) | .fn f cs => some (.fn f cs, E.h) | _ => none) = some (v, E.h)) : Quiet P a o E v := by
  have hv := opd_sound hf hx
  refine ⟨a.eval x, ?_, ?_⟩
  · split at h
    · rename_i hg; rw [hg] at hv; simp only [VR, PV] at hv; obtain ⟨b, o', e, _⟩ := hv; simp [execOp, ho, e]
    · rename_i hg; rw [hg] at hv; simp only [VR] at hv; obtain ⟨_, e⟩ := hv; simp [execOp, ho, e]
    · rename_i hg; rw [hg] at hv; simp only [VR] at hv; obtain ⟨a', f, e, _⟩ := hv; simp [execOp, ho, e]
    · rename_i hg; rw [hg] at hv; simp only [VR] at hv; obtain ⟨us, e, _⟩ := hv; simp [execOp, ho, e]
    · cases h
  · split at h <;> first | (cases h; done) | (rename_i hg; rw [hg] at hv; simp at h; rw [← h]; exact hv)

theorem q_bin {op : BinOp} {t t' : TypeId} {x y : Operand} {x' y' : Opd} {v : AV} (hf : FR E fr a.tmps) (ho : o.op = .binOp op t x y t') (hx : resOpd x = some x') (hy : resOpd y = some y')
    (h : evalBin op (get fr x') (get fr y') = some v) : Quiet P a o E v := by
  obtain ⟨u, h1, h2⟩ := bin_sound (P := P) (t := t) (opd_sound hf hx) (opd_sound hf hy) x y E.w h
  refine ⟨u, ?_, h2⟩
  simp only [execOp, ho, Sem.run_bind] at h1 ⊢
  rw [h1]
  rfl

theorem q_beq {neg : Bool} {t t' : TypeId} {x y : Operand} {x' y' : Opd} {i j : Bool} (hf : FR E fr a.tmps) (ho : o.op = .binOp (if neg then .neq else .eql) t x y t') (ht : P.underlying t = some .bool) (hx : resOpd x = some x') (hy : resOpd y = some y')
    (hi : get fr x' = .bool i) (hj : get fr y' = .bool j) : Quiet P a o E (.bool (if neg then !(i == j) else i == j)) := by
  have e1 := opd_sound hf hx
  have e2 := opd_sound hf hy
  rw [hi] at e1; rw [hj] at e2
  simp only [VR] at e1 e2
  refine ⟨_, ?_, VR_bool _⟩
  have h := beq_sound (neg := neg) (i := i) (j := j) ht x y E.w
  simp only [execOp, ho, Sem.run_bind, e1, e2] at h ⊢
  rw [h]
  rfl

theorem q_nileq {neg : Bool} {t e t' : TypeId} {x y : Operand} {x' : Opd} {full : Bool} {z : Nat} {xs : List AV} (hf : FR E fr a.tmps) (ho : o.op = .binOp (if neg then .neq else .eql) t x y t') (ht : P.underlying t = some (.slice e)) (hx : resOpd x = some x') (hy : resOpd y = some (.c (.vs true 0 [])))
    (hi : get fr x' = .vs full z xs) : Quiet P a o E (.bool (if neg then !(z == 0) else z == 0)) := by
  have e1 := opd_sound hf hx
  have e2 := opd_sound hf hy
  rw [hi] at e1
  simp only [get, VR, PV] at e1 e2
  obtain ⟨ad, len, cap, e3, e4, e5, e6, e7, e8, e9⟩ := e1
  obtain ⟨ad', len', cap', k3, k4, k5, k6, k7, k8, k9⟩ := e2
  obtain rfl : ad' = none := k8.2.2 trivial
  obtain rfl : len' = 0 := k4
  obtain rfl : cap' = 0 := k8.1 rfl
  refine ⟨_, ?_, VR_bool _⟩
  have h := nileq_sound (neg := neg) (ad := ad) (len := len) (cap := cap) ht x y E.w
  have hz : ad.isNone = (z == 0) := by
    cases ad with
    | none => simp [e8.2.1 rfl]
    | some a => have : z ≠ 0 := fun hz => by have := e8.2.2 hz; cases this
                simp [this]
  rw [hz] at h
  simp only [execOp, ho, Sem.run_bind, e3, k3] at h ⊢
  rw [h]
  rfl

theorem q_un {op : UnOp} {t : TypeId} {x : Operand} {x' : Opd} {v : AV} (hf : FR E fr a.tmps) (ho : o.op = .unOp op t x) (hx : resOpd x = some x') (h : evalUn op (get fr x') = some v) : Quiet P a o E v := by
  have hv := opd_sound hf hx
  generalize get fr x' = y at h hv
  cases y <;> cases op <;> simp only [evalUn] at h <;> cases h
  · simp only [VR] at hv
    refine ⟨_, ?_, VR_bool _⟩
    simp only [execOp, ho, hv, Op.unary, Sem.run_bind, Sem.run_pure, Result.andThen_ok]
  · simp only [VR] at hv
    refine ⟨_, ?_, VR_int _ _⟩
    simp only [execOp, ho, hv, Op.unary, Op.intArith, Sem.run_bind, Sem.run_pure, Result.andThen_ok]

theorem q_conv {s d : TypeId} {k k0 : IntKind} {x : Operand} {x' : Opd} {q : IntKind} {n : Int} (hf : FR E fr a.tmps) (ho : o.op = .convert s d x) (hs : P.underlying s = some (.int k0)) (hd : P.underlying d = some (.int k)) (hx : resOpd x = some x')
    (hg : get fr x' = .int q n) : Quiet P a o E (.int k (k.wrap n)) := by
  have hv := opd_sound hf hx
  rw [hg] at hv
  simp only [VR] at hv
  exact ⟨_, by simp [execOp, ho, convert, run_under hs, run_under hd, hv, Conv.intToInt], VR_int _ _⟩

theorem q_cstr {s d : TypeId} {x : Operand} {x' : Opd} {n : ByteArray} (hf : FR E fr a.tmps) (ho : o.op = .convert s d x) (hs : P.underlying s = some .string) (hd : P.underlying d = some .string) (hx : resOpd x = some x')
    (hg : get fr x' = .str n) : Quiet P a o E (.str n) := by
  have hv := opd_sound hf hx
  rw [hg] at hv
  simp only [VR] at hv
  exact ⟨_, by simp [execOp, ho, convert, run_under hs, run_under hd, hv], VR_str _⟩

theorem q_clos {f : FuncId} {first caps : Array Operand} {cs : List Opd} (hf : FR E fr a.tmps) (ho : o.op = .makeFunc (.func f) first caps) (h0 : first.size = 0) (hc : mapO resOpd caps.toList = some cs) :
    Quiet P a o E (.fn f (cs.map (get fr))) := by
  have : first = #[] := Array.size_eq_zero_iff.1 h0
  subst this
  refine ⟨.func (.func f) #[] (caps.map a.eval), by simp [execOp, ho, Instr.makeFunc], ?_⟩
  simp only [VR]
  exact ⟨_, rfl, opds_sound hf hc⟩

theorem q_faddr {s : TypeId} {x : Operand} {x' : Opd} {i n : Nat} {fs : Array Field} {f : Field} {v : AV} (hf : FR E fr a.tmps) (ho : o.op = .fieldAddr s x i) (hs : P.underlying s = some (.struct fs)) (hi : fs[i]? = some f)
    (hn : Program.size? P f.type = some n) (hpos : 0 < n) (hx : resOpd x = some x')
    (h : (match get fr x' with | .pv cs => some (AV.pv (cs.drop f.offset), E.h) | .ptr b o => some (.ptr b (o + f.offset), E.h) | .ep k n i q => some (.ep k n i (q + f.offset), E.h) | _ => none) = some (v, E.h)) : Quiet P a o E v := by
  have hv := opd_sound hf hx
  have hp : ∀ b q, (fieldPlace ⟨b, q, none⟩ f).run P E.w = .ok ⟨b, q + f.offset, none⟩ E.w := by
    intro b q
    unfold fieldPlace
    simp [run_size hn, show ¬ n = 0 from by omega, add_addr]
  split at h
  · rename_i cs hg
    rw [hg] at hv
    simp only [VR, PV] at hv
    obtain ⟨b, q, e, hc⟩ := hv
    simp at h; subst h
    refine ⟨.pointer (some ⟨b, q + f.offset, none⟩), by simp [execOp, ho, Instr.fieldAt, run_under hs, hi, e, Instr.sureAddr, hp], ?_⟩
    simp only [VR, PV]
    refine ⟨b, q + f.offset, rfl, PCells_of fun j c hc' => ?_⟩
    rw [List.getElem?_drop] at hc'
    have := PCells_get hc hc'
    rwa [show q + (f.offset + j) = q + f.offset + j from by omega] at this
  · rename_i b q hg
    rw [hg] at hv
    simp only [VR] at hv
    obtain ⟨hb, e⟩ := hv
    simp at h; subst h
    exact ⟨.pointer (some ⟨E.nb b, q + f.offset, none⟩), by simp [execOp, ho, Instr.fieldAt, run_under hs, hi, e, Instr.sureAddr, hp], by simp only [VR]; exact ⟨hb, trivial⟩⟩
  · rename_i k m j q hg
    rw [hg] at hv
    simp only [VR] at hv
    obtain ⟨ad, g, e, hg1, hg2, hg3⟩ := hv
    simp at h; subst h
    by_cases hm : g.xs.length = m
    · obtain ⟨h1, rfl⟩ := hg3 hm
      refine ⟨.pointer (some ⟨(E.im k).b, (E.im k).o + (j - (E.im k).lo) * g.sz + q + f.offset, none⟩), by simp [execOp, ho, Instr.fieldAt, run_under hs, hi, e, Instr.sureAddr, hp], ?_⟩
      simp only [VR]
      exact ⟨_, g, rfl, hg1, hg2, fun _ => ⟨h1, by rw [Nat.add_assoc]⟩⟩
    · -- a stale address: it is carried on, and no one may use it
      have hadd : ∃ ad', (fieldPlace ad f).run P E.w = .ok ad' E.w := by
        unfold fieldPlace
        simp [run_size hn, show ¬ n = 0 from by omega]
      obtain ⟨ad', had⟩ := hadd
      refine ⟨.pointer (some ad'), by simp [execOp, ho, Instr.fieldAt, run_under hs, hi, e, Instr.sureAddr, had], ?_⟩
      simp only [VR]
      exact ⟨ad', g, rfl, hg1, hg2, fun he => absurd he hm⟩
  · cases h

theorem run_agg {t : TypeId} {b : Bool} (ha : Program.agg? P t = some b) (w : World) : (isAgg t).run P w = .ok b w := by
  unfold Program.agg? at ha
  unfold isAgg underlying
  split at ha <;> simp_all

theorem VR_take {cs : List AV} {us : Array Value} {off n : Nat} (h : VRs E cs us.toList) (h1 : ∀ u ∈ us.toList, u.oneCell' = true) {b : Bool} {v : AV} (hv : ofCells b n (cs.drop off) = some v) :
    (b = true → VR E v (.agg (us.extract off (off + n)))) ∧ (b = false → ∃ u, us[off]? = some u ∧ VR E v u) := by
  obtain ⟨hl, hg⟩ := VRs_get h
  cases b with
  | true =>
    refine ⟨fun _ => ?_, fun h => by cases h⟩
    simp only [ofCells] at hv
    split at hv
    · rename_i hle
      cases hv
      simp only [VR]
      have hlen : us.size = cs.length := by simpa using hl
      simp at hle
      refine ⟨_, rfl, fun u hu => h1 u ?_, VRs_of (by simp; omega) fun j c u hc hu => ?_⟩
      · rw [Array.toList_extract] at hu
        exact List.mem_of_mem_drop (List.mem_of_mem_take hu)
      · have hj : j < n := by have := (List.getElem?_eq_some_iff.1 hc).1; simp at this; omega
        rw [List.getElem?_take, if_pos hj, List.getElem?_drop] at hc
        obtain ⟨u', h2, h3⟩ := hg hc
        have : u = u' := by
          have h4 : us.toList[off + j]? = some u := by
            simp only [Array.toList_extract, List.extract_eq_take_drop, List.getElem?_take, List.getElem?_drop] at hu
            split at hu
            · exact hu
            · cases hu
          rw [h4] at h2; simpa using h2
        subst this
        exact h3
    · cases hv
  | false =>
    refine ⟨fun h => by (cases h), fun _ => ?_⟩
    simp only [ofCells] at hv
    have h0 : cs[off]? = some v := by rw [← hv, List.head?_drop]
    obtain ⟨u, h2, h3⟩ := hg h0
    exact ⟨u, by simpa using h2, h3⟩

theorem q_fld {s : TypeId} {x : Operand} {x' : Opd} {i n : Nat} {fs : Array Field} {f : Field} {b : Bool} {cs : List AV} {v : AV} (hf : FR E fr a.tmps) (ho : o.op = .field s x i) (hs : P.underlying s = some (.struct fs)) (hi : fs[i]? = some f)
    (hb : Program.agg? P f.type = some b) (hn : Program.size? P f.type = some n) (hx : resOpd x = some x') (hg : get fr x' = .agg cs) (h : ofCells b n (cs.drop f.offset) = some v) : Quiet P a o E v := by
  have hv := opd_sound hf hx
  rw [hg] at hv
  simp only [VR] at hv
  obtain ⟨us, e, h1, h2⟩ := hv
  obtain ⟨t1, t2⟩ := VR_take h2 h1 h
  cases b with
  | true => exact ⟨_, by simp [execOp, ho, Instr.field, run_under hs, hi, e, asAgg, part, run_agg hb, run_size hn], t1 rfl⟩
  | false =>
    obtain ⟨u, h3, h4⟩ := t2 rfl
    exact ⟨u, by simp [execOp, ho, Instr.field, run_under hs, hi, e, asAgg, part, run_agg hb, h3], h4⟩

theorem q_iaddr {t e : TypeId} {x i : Operand} {x' i' : Opd} {n : Nat} {v : AV} (hS : SR E) (hf : FR E fr a.tmps) (ho : o.op = .indexAddr t x i) (ht : P.underlying t = some (.slice e)) (hn : Program.size? P e = some n)
    (hx : resOpd x = some x') (hi : resOpd i = some i')
    (h : (match get fr x', get fr i' with
      | .vs _ z xs, .int _ j => if 0 ≤ j ∧ z = n then (match xs[j.toNat]? with | some e => some (AV.pv e.cells, E.h) | none => none) else none
      | .sl k m off len, .int _ j =>
        match E.h.fams[k]? with
        | some f => if 0 ≤ j ∧ j < len ∧ f.sz = n ∧ f.xs.length = m then some (.ep k m (off + j.toNat) 0, E.h) else none
        | none => none
      | _, _ => none) = some (v, E.h)) : Quiet P a o E v := by
  have hv := opd_sound hf hx
  have hw := opd_sound hf hi
  split at h
  · rename_i full z xs q j hg hj
    rw [hg] at hv; rw [hj] at hw
    simp only [VR, PV] at hv hw
    split at h
    · rename_i hc
      split at h
      · rename_i el hel
        obtain ⟨ad, len, cap, e1, e2, e3, e4, e5, e6, e7⟩ := hv
        have hlt := (List.getElem?_eq_some_iff.1 hel).1
        obtain ⟨b, q', rfl, _, hels⟩ := e7 (by intro hn; subst hn; simp at hlt)
        have hp := PEls_get hels hel
        simp at h; subst h
        have hjl : j < (len : Int) := by omega
        refine ⟨.pointer (some ⟨b, q' + j.toNat * n, none⟩), ?_, ?_⟩
        · simp [execOp, ho, Instr.indexAt, hw, asIntOf, run_under ht, e1, hc.1, hjl, run_size hn, add_addr]
        · simp only [VR, PV]
          rw [hc.2] at hp
          exact ⟨b, _, rfl, hp.2⟩
      · cases h
    · cases h
  · rename_i k m off len q j hg hj
    rw [hg] at hv; rw [hj] at hw
    simp only [VR] at hv hw
    split at h
    · rename_i f hfk
      split at h
      · rename_i hc
        obtain ⟨hj0, hjl, hz, hm⟩ := hc
        obtain ⟨ad, cap, f', e1, e2, e3, e4⟩ := hv
        have : f' = f := by rw [hfk] at e2; simpa using e2.symm
        subst this
        obtain ⟨l1, l2, l3, l4, l5⟩ := e4 hm
        have hF := hS.fams k f' hfk
        have hroom := hF.room
        have ead := l5 (by omega)
        subst ead
        simp at h; subst h
        refine ⟨.pointer (some ⟨(E.im k).b, (E.im k).o + (off - (E.im k).lo) * f'.sz + j.toNat * n, none⟩), ?_, ?_⟩
        · simp [execOp, ho, Instr.indexAt, hw, asIntOf, run_under ht, e1, hj0, hjl, run_size hn, add_addr]
        · simp only [VR]
          refine ⟨_, f', rfl, hfk, by omega, fun _ => ⟨by omega, ?_⟩⟩
          rw [← hz, Nat.add_zero, show off + j.toNat - (E.im k).lo = (off - (E.im k).lo) + j.toNat from by omega, Nat.add_mul, ← Nat.add_assoc]
      · cases h
    · cases h
  · cases h

theorem q_idx {t : TypeId} {x i : Operand} {x' i' : Opd} {s : ByteArray} {q : IntKind} {j : Int} {b : UInt8} (hf : FR E fr a.tmps) (ho : o.op = .index t x i) (ht : P.underlying t = some .string) (hx : resOpd x = some x') (hi : resOpd i = some i')
    (hg : get fr x' = .str s) (hj : get fr i' = .int q j) (h0 : 0 ≤ j) (hb : s[j.toNat]? = some b) : Quiet P a o E (.int .u8 b.toNat) := by
  have hv := opd_sound hf hx
  have hw := opd_sound hf hi
  rw [hg] at hv; rw [hj] at hw
  simp only [VR] at hv hw
  exact ⟨_, by simp [execOp, ho, Instr.index, hw, hv, asIntOf, run_under ht, h0, hb], VR_int _ _⟩

theorem q_ext {x : Operand} {x' : Opd} {i : Nat} {vs : List AV} {v : AV} (hf : FR E fr a.tmps) (ho : o.op = .extract x i) (hx : resOpd x = some x') (hg : get fr x' = .tup vs) (h : vs[i]? = some v) : Quiet P a o E v := by
  have hv := opd_sound hf hx
  rw [hg] at hv
  simp only [VR] at hv
  obtain ⟨us, e, h2⟩ := hv
  obtain ⟨u, h3, h4⟩ := (VRs_get h2).2 h
  have h3' : us[i]? = some u := by simpa using h3
  exact ⟨u, by simp [execOp, ho, Instr.extract, e, h3'], h4⟩

end
end Go.Abs

/- More quiet operations: len, max, slicing. -/
namespace Go.Abs
open Go.RowKit (Below)
section
variable {E : Env} {P : Program} {fr : Fr} {a : Act} {o : Oper}

theorem arr_one {α : Type} {aas : Array α} {x : α} (h : aas.toList = [x]) : aas = #[x] := by cases aas; simp_all
theorem arr_two {α : Type} {aas : Array α} {x y : α} (h : aas.toList = [x, y]) : aas = #[x, y] := by cases aas; simp_all

theorem q_len_str {args : Array Operand} {ats : Array TypeId} {x : Operand} {t : TypeId} {x' : Opd} {s : ByteArray} (hf : FR E fr a.tmps) (ho : o.op = .call { callee := .builtin .len, args := args, argTypes := ats }) (h1 : args.toList = [x]) (h2 : ats.toList = [t])
    (hts : P.underlying t = some .string) (hx : resOpd x = some x') (hs : get fr x' = .str s) : Quiet P a o E (.int .i64 s.size) := by
  have hv := opd_sound hf hx
  rw [arr_one h1, arr_one h2] at ho
  rw [hs] at hv
  simp only [VR] at hv
  exact ⟨_, by simp [execOp, ho, resolve, invoke, builtin, Builtin.len_, hv, run_under hts, goInt], VR_int _ _⟩

theorem q_len {args : Array Operand} {ats : Array TypeId} {x : Operand} {t e : TypeId} {x' : Opd} {v : AV} (hf : FR E fr a.tmps) (ho : o.op = .call { callee := .builtin .len, args := args, argTypes := ats }) (h1 : args.toList = [x]) (h2 : ats.toList = [t])
    (hts : P.underlying t = some (.slice e)) (hx : resOpd x = some x')
    (h : (match get fr x' with | .vs _ _ xs => some (AV.int .i64 xs.length, E.h) | .sl _ _ _ len => some (.int .i64 len, E.h) | _ => none) = some (v, E.h)) : Quiet P a o E v := by
  have hv := opd_sound hf hx
  rw [arr_one h1, arr_one h2] at ho
  split at h
  · rename_i full z xs hg
    rw [hg] at hv
    simp only [VR, PV] at hv
    obtain ⟨ad, len, cap, e1, rfl, _⟩ := hv
    simp at h; subst h
    exact ⟨_, by simp [execOp, ho, resolve, invoke, builtin, Builtin.len_, e1, run_under hts, goInt], VR_int _ _⟩
  · rename_i k n off len hg
    rw [hg] at hv
    simp only [VR] at hv
    obtain ⟨ad, cap, f, e1, _⟩ := hv
    simp at h; subst h
    exact ⟨_, by simp [execOp, ho, resolve, invoke, builtin, Builtin.len_, e1, run_under hts, goInt], VR_int _ _⟩
  · cases h

theorem q_max {args : Array Operand} {ats : Array TypeId} {x y : Operand} {x' y' : Opd} {k k' : IntKind} {i j : Int} (hf : FR E fr a.tmps) (ho : o.op = .call { callee := .builtin .max, args := args, argTypes := ats }) (h1 : args.toList = [x, y])
    (hx : resOpd x = some x') (hy : resOpd y = some y') (hi : get fr x' = .int k i) (hj : get fr y' = .int k' j) : Quiet P a o E (.int k (if j > i then j else i)) := by
  have e1 := opd_sound hf hx
  have e2 := opd_sound hf hy
  rw [hi] at e1; rw [hj] at e2
  simp only [VR] at e1 e2
  rw [arr_two h1] at ho
  exact ⟨_, by simp [execOp, ho, resolve, invoke, builtin, Builtin.max_, Builtin.max2, e1, e2], VR_int _ _⟩

theorem PEls_cut {w : World} {ok : Nat → Nat → Prop} {sz b o : Nat} {xs : List AV} (h : PEls w ok sz b o xs) (l n : Nat) : PEls w ok sz b (o + l * sz) ((xs.drop l).take n) := by
  refine PEls_of fun j x hx => ?_
  have hj : (xs.drop l)[j]? = some x := by
    rw [List.getElem?_take] at hx
    split at hx
    · exact hx
    · cases hx
  rw [List.getElem?_drop] at hj
  have := PEls_get h hj
  rwa [show o + (l + j) * sz = o + l * sz + j * sz from by rw [Nat.add_mul]; omega] at this

theorem vs_cut {w : World} {ok : Nat → Nat → Prop} {full full' : Bool} {z sz : Nat} {xs : List AV} {ad : Option Addr} {len cap l h m : Nat} (hv : PV w ok (.vs full z xs) (.slice ad len cap)) (hz : z = sz ∨ xs.length = 0)
    (h1 : l ≤ h) (h2 : h ≤ len) (h3 : h ≤ m) (h4 : m ≤ cap) (hfull : full' = true → m = h) :
    PV w ok (.vs full' z ((xs.drop l).take (h - l))) (.slice (if m = l then ad else ad.map (·.add (l * sz))) (h - l) (m - l)) := by
  simp only [PV] at hv ⊢
  obtain ⟨ad', len', cap', e, e2, e3, e4, e5, e6, e7⟩ := hv
  obtain ⟨rfl, rfl, rfl⟩ : ad = ad' ∧ len = len' ∧ cap = cap' := by simpa using e
  refine ⟨_, _, _, rfl, by simp; omega, by omega, by omega, fun hf => by rw [hfull hf], ?_, fun hne => ?_⟩
  · have hnn : (if m = l then ad else ad.map (·.add (l * sz))) = none ↔ ad = none := by split <;> simp
    refine ⟨fun hn => ?_, hnn.trans e6.2⟩
    have := e6.1 (hnn.1 hn)
    omega
  · have hlt : l < h := by
      rcases Nat.lt_or_ge l h with h' | h'
      · exact h'
      · exact absurd (by simp [show h - l = 0 from by omega]) hne
    have hxs : xs ≠ [] := by intro hn; subst hn; simp at e2; omega
    obtain ⟨b, q, rfl, hp, hels⟩ := e7 hxs
    rw [if_neg (by omega)]
    have hzz : z = sz := by
      rcases hz with hz | hz
      · exact hz
      · exact absurd (List.eq_nil_of_length_eq_zero hz) hxs
    subst hzz
    exact ⟨b, q + l * z, by simp [add_addr], hp, PEls_cut hels l (h - l)⟩

theorem q_slc_str {t : TypeId} {x : Operand} {lo hi : Option Operand} {x' : Opd} {lo' hi' : Option Opd} {s : ByteArray} {l u : Option Int} (hf : FR E fr a.tmps) (ho : o.op = .slice t x lo hi none) (ht : P.underlying t = some .string)
    (hx : resOpd x = some x') (hlo : resOpt lo = some lo') (hhi : resOpt hi = some hi') (hg : get fr x' = .str s) (hl : boundA fr lo' = some l) (hu : boundA fr hi' = some u)
    (h0 : 0 ≤ l.getD 0) (h1 : l.getD 0 ≤ u.getD s.size) (h2 : u.getD s.size ≤ s.size) : Quiet P a o E (.str (s.extract (l.getD 0).toNat (u.getD s.size).toNat)) := by
  have hv := opd_sound hf hx
  rw [hg] at hv
  simp only [VR] at hv
  have hb := sliceBounds_none (P := P) (b := false) E.w (bound_sound hf hlo hl) (bound_sound hf hhi hu) h0 h1 h2 (Nat.le_refl _)
  exact ⟨_, by simp [execOp, ho, Instr.sliceAt, Instr.slice, run_under ht, hv, hb], VR_str _⟩

theorem q_slc_vs {t e : TypeId} {x : Operand} {lo hi mx : Option Operand} {x' : Opd} {lo' hi' mx' : Option Opd} {full full' : Bool} {z n : Nat} {xs : List AV} {l u m : Option Int} (hf : FR E fr a.tmps) (ho : o.op = .slice t x lo hi mx) (ht : P.underlying t = some (.slice e)) (hn : Program.size? P e = some n)
    (hx : resOpd x = some x') (hlo : resOpt lo = some lo') (hhi : resOpt hi = some hi') (hmx : resOpt mx = some mx') (hg : get fr x' = .vs full z xs) (hl : boundA fr lo' = some l) (hu : boundA fr hi' = some u) (hm : boundA fr mx' = some m)
    (hz : z = n ∨ xs.length = 0) (h0 : 0 ≤ l.getD 0) (h1 : l.getD 0 ≤ u.getD xs.length)
    (hc : (m = none ∧ u.getD xs.length ≤ xs.length ∧ full' = (full && decide (u.getD xs.length = xs.length))) ∨ (∃ q, m = some q ∧ u.isSome = true ∧ u.getD xs.length ≤ q ∧ q ≤ xs.length ∧ full' = decide (q = u.getD xs.length))) :
    Quiet P a o E (.vs full' z ((xs.drop (l.getD 0).toNat).take (u.getD xs.length - l.getD 0).toNat)) := by
  have hv := opd_sound hf hx
  rw [hg] at hv
  simp only [VR] at hv
  have hv' := hv
  simp only [PV] at hv'
  obtain ⟨ad, len, cap, e1, e2, e3, e4, e5, e6, e7⟩ := hv'
  rw [e1] at hv
  subst e2
  have etn : (u.getD xs.length - l.getD 0).toNat = (u.getD (xs.length : Int)).toNat - (l.getD 0).toNat := by omega
  rw [etn]
  rcases hc with ⟨rfl, h2, hfull⟩ | ⟨q, rfl, hs, h2, h3, hfull⟩
  · have hmn : mx.map a.eval = none := by
      rcases bound_sound hf hmx hm with ⟨_, h⟩ | ⟨k, i, h, _⟩
      · exact h
      · cases h
    have hb := sliceBounds_none (P := P) (b := true) (cap := cap) E.w (bound_sound hf hlo hl) (bound_sound hf hhi hu) h0 h1 h2 e3
    refine ⟨_, by simp [execOp, ho, Instr.sliceAt, Instr.slice, run_under ht, e1, hmn, hb, run_size hn]; rfl, ?_⟩
    simp only [VR]
    refine vs_cut hv hz (by omega) (by omega) (by omega) (Nat.le_refl _) fun hf' => ?_
    rw [hfull] at hf'
    simp at hf'
    have := e5 hf'.1
    omega
  · have hms : ∃ k, mx.map a.eval = some (.int k q) := by
      rcases bound_sound hf hmx hm with ⟨h, _⟩ | ⟨k, i, h, h'⟩
      · cases h
      · cases h; exact ⟨k, h'⟩
    have hb := sliceBounds_some (P := P) (b := true) (len := xs.length) (cap := cap) E.w (bound_sound hf hlo hl) (bound_sound hf hhi hu) hms hs h0 h1 h2 (by omega)
    refine ⟨_, by simp [execOp, ho, Instr.sliceAt, Instr.slice, run_under ht, e1, hb, run_size hn]; rfl, ?_⟩
    simp only [VR]
    refine vs_cut hv hz (by omega) (by omega) (by omega) (by omega) fun hf' => ?_
    rw [hfull] at hf'
    simp at hf'
    omega

theorem q_slc_sl {t e : TypeId} {x : Operand} {lo hi mx : Option Operand} {x' : Opd} {lo' hi' mx' : Option Opd} {n k m off len : Nat} {f : Fam} {l u q : Option Int} {v : AV} (hS : SR E) (hf : FR E fr a.tmps) (ho : o.op = .slice t x lo hi mx) (ht : P.underlying t = some (.slice e)) (hn : Program.size? P e = some n)
    (hx : resOpd x = some x') (hlo : resOpt lo = some lo') (hhi : resOpt hi = some hi') (hmx : resOpt mx = some mx') (hg : get fr x' = .sl k m off len) (hl : boundA fr lo' = some l) (hu : boundA fr hi' = some u) (hm : boundA fr mx' = some q)
    (hfk : E.h.fams[k]? = some f) (hz : f.sz = n) (hlen : f.xs.length = m)
    (hc : (q = none ∧ 0 ≤ l.getD 0 ∧ l.getD 0 ≤ u.getD len ∧ u.getD len ≤ len ∧ v = .sl k m (off + (l.getD 0).toNat) (u.getD len - l.getD 0).toNat) ∨ (q = some 0 ∧ u.isSome = true ∧ l.getD 0 = 0 ∧ u.getD len = 0 ∧ v = .vs true n [])) :
    Quiet P a o E v := by
  have hv := opd_sound hf hx
  rw [hg] at hv
  simp only [VR] at hv
  obtain ⟨ad, cap, f', e1, e2, e3, e4⟩ := hv
  have : f' = f := by rw [hfk] at e2; simpa using e2.symm
  subst this
  obtain ⟨l1, l2, l3, l4, l5⟩ := e4 hlen
  have hroom := (hS.fams k f' hfk).room
  rcases hc with ⟨rfl, h0, h1, h2, rfl⟩ | ⟨rfl, hs, h0, h1, rfl⟩
  · have hmn : mx.map a.eval = none := by
      rcases bound_sound hf hmx hm with ⟨_, h⟩ | ⟨k, i, h, _⟩
      · exact h
      · cases h
    have hb := sliceBounds_none (P := P) (b := true) (len := len) (cap := cap) E.w (bound_sound hf hlo hl) (bound_sound hf hhi hu) h0 h1 h2 (by omega)
    have etn : (u.getD len - l.getD 0).toNat = (u.getD (len : Int)).toNat - (l.getD 0).toNat := by omega
    rw [etn]
    refine ⟨_, by simp [execOp, ho, Instr.sliceAt, Instr.slice, run_under ht, e1, hmn, hb, run_size hn]; rfl, ?_⟩
    simp only [VR]
    refine ⟨_, _, f', rfl, hfk, e3, fun _ => ⟨by omega, by omega, by omega, fun hnone => ?_, fun hne => ?_⟩⟩
    · split at hnone
      · exact l4 hnone
      · exact l4 (by simpa using hnone)
    · rw [if_neg (by omega), l5 (by omega)]
      simp only [Option.map_some, add_addr]
      congr 2
      rw [show off + (l.getD 0).toNat - (E.im k).lo = (off - (E.im k).lo) + (l.getD 0).toNat from by omega, Nat.add_mul, hz]
      omega
  · have hms : ∃ k, mx.map a.eval = some (.int k 0) := by
      rcases bound_sound hf hmx hm with ⟨h, _⟩ | ⟨k, i, h, h'⟩
      · cases h
      · cases h; exact ⟨k, h'⟩
    have hb := sliceBounds_some (P := P) (b := true) (len := len) (cap := cap) E.w (bound_sound hf hlo hl) (bound_sound hf hhi hu) hms hs (by omega) (by omega) (by omega) (by omega)
    refine ⟨.slice ad 0 0, by simp [execOp, ho, Instr.sliceAt, Instr.slice, run_under ht, e1, hb, run_size hn, h0, h1], ?_⟩
    simp only [VR, PV]
    exact ⟨_, _, _, rfl, rfl, Nat.le_refl _, by simp, fun _ => rfl, ⟨fun _ => rfl, ⟨fun e => absurd e l4, fun e => absurd (hS.fams k f' hfk).sz (by omega)⟩⟩, fun h => absurd rfl h⟩

end
end Go.Abs

/- Operations that make or turn memory: a box, a store, a struct, a literal slice. -/
namespace Go.Abs
open Go.RowKit (Below)
section
variable {E : Env} {P : Program} {fr : Fr} {a : Act} {o : Oper}

/-- The operation leads to a state that goes on from this one. -/
def Does (P : Program) (a : Act) (o : Oper) (E : Env) (v : AV) (h' : AH) : Prop :=
  ∃ nx u E', (execOp a.eval o).run P E.w = .ok nx E'.w ∧ (nx = .value u ∨ (nx = .skip ∧ u = undef)) ∧ Ext E E' ∧ SR E' ∧ E'.h = h' ∧ VR E' v u

theorem Quiet.does {v : AV} (hS : SR E) (h : Quiet P a o E v) : Does P a o E v E.h := by
  obtain ⟨u, h1, h2⟩ := h
  exact ⟨_, u, E, h1, .inl rfl, Ext.refl E, hS, rfl, h2⟩

theorem VRs_len {cs : List AV} {us : List Value} (h : VRs E cs us) : us.length = cs.length := (VRs_get h).1

theorem VRs_append {aas bs : List AV} {us vs : List Value} (h1 : VRs E aas us) (h2 : VRs E bs vs) : VRs E (aas ++ bs) (us ++ vs) := by
  refine VRs_of (by simp [VRs_len h1, VRs_len h2]) fun j c u hc hu => ?_
  have e := VRs_len h1
  by_cases hj : j < aas.length
  · rw [List.getElem?_append_left hj] at hc
    rw [List.getElem?_append_left (by omega)] at hu
    obtain ⟨u', h3, h4⟩ := (VRs_get h1).2 hc
    rw [h3] at hu; cases hu; exact h4
  · rw [List.getElem?_append_right (by omega)] at hc
    rw [List.getElem?_append_right (by omega), e] at hu
    obtain ⟨u', h3, h4⟩ := (VRs_get h2).2 hc
    rw [h3] at hu; cases hu; exact h4

theorem VRs_take {aas : List AV} {us : List Value} (h : VRs E aas us) (n : Nat) : VRs E (aas.take n) (us.take n) := by
  refine VRs_of (by simp [VRs_len h]) fun j c u hc hu => ?_
  rw [List.getElem?_take] at hc hu
  split at hc
  · rename_i hj
    rw [if_pos hj] at hu
    obtain ⟨u', h3, h4⟩ := (VRs_get h).2 hc
    rw [h3] at hu; cases hu; exact h4
  · cases hc

theorem VRs_drop {aas : List AV} {us : List Value} (h : VRs E aas us) (n : Nat) : VRs E (aas.drop n) (us.drop n) := by
  refine VRs_of (by simp [VRs_len h]) fun j c u hc hu => ?_
  rw [List.getElem?_drop] at hc hu
  obtain ⟨u', h3, h4⟩ := (VRs_get h).2 hc
  rw [h3] at hu; cases hu; exact h4

theorem VRs_splice {cs ds : List AV} {us vs : List Value} (h1 : VRs E cs us) (h2 : VRs E ds vs) (off : Nat) : VRs E (splice cs off ds) (us.take off ++ vs ++ us.drop (off + vs.length)) := by
  unfold splice
  rw [VRs_len h2]
  exact VRs_append (VRs_append (VRs_take h1 _) h2) (VRs_drop h1 _)

theorem PV_cells {w : World} {ok : Nat → Nat → Prop} {x : AV} {v : Value} (h : PV w ok x v) (ht : x.isTup = false) : PVs w ok x.cells v.cells.toList ∧ ∀ u ∈ v.cells.toList, u.oneCell' = true := by
  cases x <;> simp only [PV] at h
  case tup => simp [AV.isTup] at ht
  case agg cs => obtain ⟨us, rfl, h1, h2⟩ := h; exact ⟨h2, h1⟩
  case junk =>
    have hc : v.cells = #[v] := by cases v <;> simp_all [Value.oneCell', Value.cells]
    rw [hc]; exact ⟨by simp [AV.cells, PVs, PV, h], by simpa using h⟩
  case vs => obtain ⟨ad, len, cap, rfl, h'⟩ := h; exact ⟨by simp only [AV.cells, Value.cells, PVs, PV]; exact ⟨_, _, rfl, ⟨_, _, _, rfl, h'⟩, rfl⟩, by simp [Value.cells, Value.oneCell']⟩
  case pv => obtain ⟨b, q, rfl, h'⟩ := h; exact ⟨by simp only [AV.cells, Value.cells, PVs, PV]; exact ⟨_, _, rfl, ⟨_, _, rfl, h'⟩, rfl⟩, by simp [Value.cells, Value.oneCell']⟩
  case fn => obtain ⟨us, rfl, h'⟩ := h; exact ⟨by simp only [AV.cells, Value.cells, PVs, PV]; exact ⟨_, _, rfl, ⟨_, rfl, h'⟩, rfl⟩, by simp [Value.cells, Value.oneCell']⟩
  all_goals (subst h; exact ⟨by simp [AV.cells, Value.cells, PVs, PV], by simp [Value.cells, Value.oneCell']⟩)

theorem zeroA_spec {t : TypeId} {z : AV} (h : Program.zeroA P t = some z) : ∃ i zv, P.info? t = some i ∧ i.zero = some zv ∧ zv.cells.size = i.size ∧ constAV zv = some z ∧ z.isTup = false := by
  unfold Program.zeroA at h
  split at h
  · rename_i i hi
    split at h
    · rename_i zv hz
      split at h
      · rename_i x hx
        split at h
        · rename_i hc
          cases h
          exact ⟨i, zv, hi, hz, hc.1, hx, hc.2⟩
        · cases h
      · cases h
    · cases h
  · cases h

/-! ### A new box -/

theorem d_box {t : TypeId} {x : Operand} {x' : Opd} (hS : SR E) (hf : FR E fr a.tmps) (ho : o.op = .box t x) (hx : resOpd x = some x') (ht : (get fr x').isTup = false) :
    Does P a o E (.ptr E.h.boxes.length 0) { E.h with boxes := E.h.boxes ++ [(get fr x').cells] } := by
  obtain ⟨h1, h2⟩ := VR_cells (opd_sound hf hx) ht
  refine ⟨_, .pointer (some ⟨E.w.heap.size, 0, none⟩), E.newBox (a.eval x).cells t (get fr x').cells, ?_, .inl rfl, newBox_ext hS _ _ _, newBox_SR hS h1 h2, rfl, ?_⟩
  · simp only [execOp, ho, Instr.box, newVar, newRow, Sem.run_bind, run_newObj, Result.andThen_ok, Sem.run_pure, World.alloc_eq, Env.newBox]
  · simp only [VR, Env.newBox, upd_same]
    exact ⟨by simp, trivial⟩

theorem d_alloc {t : TypeId} {z : AV} (hS : SR E) (ho : o.op = .alloc t) (hz : Program.zeroA P t = some z) :
    Does P a o E (.ptr E.h.boxes.length 0) { E.h with boxes := E.h.boxes ++ [z.cells] } := by
  obtain ⟨i, zv, h1, h2, h3, h4, h5⟩ := zeroA_spec hz
  obtain ⟨h6, h7⟩ := VR_cells (E := E) (VR_of_PV _ _ (constAV_sound h4)) h5
  refine ⟨_, .pointer (some ⟨E.w.heap.size, 0, none⟩), E.newBox zv.cells t z.cells, ?_, .inl rfl, newBox_ext hS _ _ _, newBox_SR hS h6 h7, rfl, ?_⟩
  · simp only [execOp, ho, Instr.alloc, newVar, newRow, zeroValue, typeInfo, run_program, Sem.run_bind, h1, h2, run_newObj, Result.andThen_ok, Sem.run_pure, World.alloc_eq, Env.newBox]
  · simp only [VR, Env.newBox, upd_same]
    exact ⟨by simp, trivial⟩

/-! ### Stores -/

theorem run_storeVar {t : TypeId} {b q : Nat} {v : Value} {cur : Array Value} {t' : TypeId} {w : World} {n : Nat} (hn : Program.size? P t = some n) (hg : w.heap[b]? = some (.cells cur t' (0, 0))) (hv : v.cells.size = n) (hfit : q + n ≤ cur.size)
    (h1 : ∀ u ∈ v.cells.toList, u.oneCell' = true) :
    (storeVar t ⟨b, q, none⟩ v).run P w = .ok () (w.setRow b (cur.toList.take q ++ v.cells.toList ++ cur.toList.drop (q + n)).toArray) := by
  have hst := run_storeCells_at P b q t' v.cells.toList 0 cur w hg (by simp; omega) h1
  simp only [Nat.add_zero, Array.length_toList, hv] at hst
  unfold storeVar
  simp [run_size hn, hv, hst]

theorem d_st_box {t : TypeId} {x y : Operand} {x' y' : Opd} {n b off : Nat} {cs : List AV} (hS : SR E) (hf : FR E fr a.tmps) (ho : o.op = .store t x y) (hn : Program.size? P t = some n) (hx : resOpd x = some x') (hy : resOpd y = some y')
    (hg : get fr x' = .ptr b off) (hcs : E.h.boxes[b]? = some cs) (ht : (get fr y').isTup = false) (hl : (get fr y').cells.length = n) (hfit : off + n ≤ cs.length) :
    Does P a o E undefA { E.h with boxes := E.h.boxes.set b (splice cs off (get fr y').cells) } := by
  have hv := opd_sound hf hx
  rw [hg] at hv
  simp only [VR] at hv
  obtain ⟨hb, e⟩ := hv
  obtain ⟨h1, h2⟩ := VR_cells (opd_sound hf hy) ht
  obtain ⟨hb1, cur, t', hc1, hc2, hc3⟩ := hS.boxes b cs hcs
  have hsz : (a.eval y).cells.size = n := by have := VRs_len h1; simp at this; omega
  have hcl : cur.size = cs.length := by have := VRs_len hc2; simpa using this
  have hrun := run_storeVar (P := P) (q := off) hn hc1 hsz (by omega) h2
  have hvs := VRs_splice hc2 h1 off
  rw [show (a.eval y).cells.toList.length = n from by simp [hsz]] at hvs
  refine ⟨_, undef, E.setBox b (cur.toList.take off ++ (a.eval y).cells.toList ++ cur.toList.drop (off + n)).toArray (splice cs off (get fr y').cells), ?_, .inr ⟨rfl, rfl⟩, setBox_ext hS hb _ _, setBox_SR hS hcs hvs ?_, rfl, VR_undef _⟩
  · simp only [execOp, ho, Instr.storeAt, e, Instr.sureAddr, Sem.run_bind, Sem.run_pure, Result.andThen_ok, hrun]
    rfl
  · intro u hu
    simp only [List.mem_append] at hu
    rcases hu with (hu | hu) | hu
    · exact hc3 u (List.mem_of_mem_take hu)
    · exact h2 u hu
    · exact hc3 u (List.mem_of_mem_drop hu)

theorem splice_get {α : Type} {l : List α} {off : Nat} {vs : List α} (hfit : off + vs.length ≤ l.length) (j : Nat) :
    (l.take off ++ vs ++ l.drop (off + vs.length))[j]? = if j < off then l[j]? else if j < off + vs.length then vs[j - off]? else l[j]? := by
  have hl : (l.take off).length = off := by simp; omega
  by_cases h1 : j < off
  · rw [if_pos h1, List.append_assoc, List.getElem?_append_left (by omega), List.getElem?_take, if_pos h1]
  · rw [if_neg h1]
    by_cases h2 : j < off + vs.length
    · rw [if_pos h2, List.append_assoc, List.getElem?_append_right (by omega), hl, List.getElem?_append_left (by omega)]
    · rw [if_neg h2, List.getElem?_append_right (by simp; omega), List.getElem?_drop]
      congr 1
      simp
      omega

theorem reform_cells {x y : AV} {cs : List AV} (h : x.reform cs = some y) (hl : cs.length = x.cells.length) (hflat : ∀ c ∈ cs, c.cells = [c] ∨ x = .agg x.cells) : y.cells = cs := by
  cases x <;> simp only [AV.reform] at h
  case agg => cases h; rfl
  all_goals
    simp only [AV.cells, List.length_cons, List.length_nil] at hl
    cases cs with
    | nil => simp at hl
    | cons c r =>
      have hr : r = [] := by simpa using hl
      subst hr
      simp at h
      subst h
      rcases hflat c (by simp) with h' | h'
      · exact h'
      · cases h'

theorem d_st_row {t : TypeId} {x y : Operand} {x' y' : Opd} {n k m i c : Nat} {f : Fam} {el u z : AV} (hS : SR E) (hf : FR E fr a.tmps) (ho : o.op = .store t x y) (hn : Program.size? P t = some n) (hx : resOpd x = some x') (hy : resOpd y = some y')
    (hg : get fr x' = .ep k m i c) (hfk : E.h.fams[k]? = some f) (hm : f.xs.length = m) (hw : f.wr = true) (hel : f.xs[i]? = some el) (hu : frz E.h false (get fr y') = some u)
    (hl : u.cells.length = n) (hfit : c + n ≤ el.cells.length) (hzc : z.cells = splice el.cells c u.cells) :
    Does P a o E undefA { E.h with fams := E.h.fams.set k { f with xs := f.xs.set i z } } := by
  have hv := opd_sound hf hx
  rw [hg] at hv
  simp only [VR] at hv
  obtain ⟨ad, f', e, hfk', _, had⟩ := hv
  have : f' = f := by rw [hfk] at hfk'; simpa using hfk'.symm
  subst this
  obtain ⟨hlo, rfl⟩ := had hm
  have hF := hS.fams k f' hfk
  obtain ⟨cur, t', c1, c2, c3⟩ := hF.cells
  obtain ⟨e1, e2⟩ := c3 i el hlo hel
  obtain ⟨hPu, hut⟩ := frz_sound hS (am := false) (ok' := E.ok) ⟨fun _ _ h => h, fun h => by cases h⟩ (opd_sound hf hy) hu
  obtain ⟨h1, h2⟩ := PV_cells hPu hut
  obtain ⟨hul, hug⟩ := PVs_get h1
  have hsz : (a.eval y).cells.size = n := by simp at hul; omega
  have hi : i < f'.xs.length := (List.getElem?_eq_some_iff.1 hel).1
  have hroom := hF.room
  have hpos : (E.im k).o + (i - (E.im k).lo) * f'.sz + f'.sz ≤ cur.size := by
    have h3 : (i - (E.im k).lo + 1) * f'.sz ≤ (E.im k).cap * f'.sz := Nat.mul_le_mul_right _ (by omega)
    rw [Nat.succ_mul] at h3
    omega
  have hrun := run_storeVar (P := P) (q := (E.im k).o + (i - (E.im k).lo) * f'.sz + c) hn c1 hsz (by omega) h2
  obtain ⟨us, hus⟩ : ∃ us : Array Value, us = (cur.toList.take ((E.im k).o + (i - (E.im k).lo) * f'.sz + c) ++ (a.eval y).cells.toList ++ cur.toList.drop ((E.im k).o + (i - (E.im k).lo) * f'.sz + c + n)).toArray := ⟨_, rfl⟩
  rw [← hus] at hrun
  have hget : ∀ j : Nat, us[j]? = if j < (E.im k).o + (i - (E.im k).lo) * f'.sz + c then cur[j]? else if j < (E.im k).o + (i - (E.im k).lo) * f'.sz + c + n then (a.eval y).cells[j - ((E.im k).o + (i - (E.im k).lo) * f'.sz + c)]? else cur[j]? := by
    intro j
    have := splice_get (l := cur.toList) (off := (E.im k).o + (i - (E.im k).lo) * f'.sz + c) (vs := (a.eval y).cells.toList) (by simp; omega) j
    simp only [Array.length_toList, hsz, Array.getElem?_toList] at this
    rw [hus, List.getElem?_toArray, this]
  have hussz : us.size = cur.size := by rw [hus]; simp; omega
  refine ⟨_, undef, E.setFam k us { f' with xs := f'.xs.set i z }, ?_, .inr ⟨rfl, rfl⟩,
    setFam_ext hS hfk c1 rfl rfl (by simp) (fun h => by rw [hw] at h; cases h), setFam_SR hS hfk c1 rfl rfl (by simp) (fun h => by rw [hw] at h; cases h) (by simpa using hroom) hussz ?_, rfl, VR_undef _⟩
  · simp only [execOp, ho, Instr.storeAt, e, Instr.sureAddr, Sem.run_bind, Sem.run_pure, Result.andThen_ok, hrun]
    rfl
  · intro j x' hj hx'
    have hx'' : (f'.xs.set i z)[j]? = some x' := hx'
    by_cases hij : i = j
    · subst hij
      rw [List.getElem?_set_self hi] at hx''
      cases hx''
      refine ⟨by rw [hzc]; simp [splice]; omega, fun q y' hq => ?_⟩
      rw [hzc] at hq
      unfold splice at hq
      rw [splice_get (by omega)] at hq
      have hq' : q < f'.sz := by
        rcases Nat.lt_or_ge q f'.sz with h | h
        · exact h
        · rw [if_neg (by omega), if_neg (by omega), List.getElem?_eq_none (by omega)] at hq; cases hq
      rw [hget]
      by_cases hqc : q < c
      · rw [if_pos hqc] at hq
        rw [if_pos (by omega)]
        obtain ⟨v, v1, v2, v3⟩ := e2 q y' hq
        exact ⟨v, by simpa using v1, v2, v3⟩
      · rw [if_neg hqc] at hq
        by_cases hqn : q < c + u.cells.length
        · rw [if_pos hqn] at hq
          rw [if_neg (by omega), if_pos (by omega)]
          obtain ⟨v, v1, v2⟩ := hug hq
          refine ⟨v, ?_, h2 v (List.mem_of_getElem? v1), v2⟩
          rw [show (E.im k).o + (i - (E.im k).lo) * f'.sz + q - ((E.im k).o + (i - (E.im k).lo) * f'.sz + c) = q - c from by omega]
          simpa using v1
        · rw [if_neg hqn] at hq
          rw [if_neg (by omega), if_neg (by omega)]
          obtain ⟨v, v1, v2, v3⟩ := e2 q y' hq
          exact ⟨v, by simpa using v1, v2, v3⟩
    · rw [List.getElem?_set_ne hij] at hx''
      obtain ⟨g1, g2⟩ := c3 j x' hj hx''
      refine ⟨g1, fun q y' hq => ?_⟩
      obtain ⟨v, v1, v2, v3⟩ := g2 q y' hq
      refine ⟨v, ?_, v2, v3⟩
      have hqs : q < f'.sz := by have := (List.getElem?_eq_some_iff.1 hq).1; omega
      rw [hget]
      rcases Nat.lt_or_gt_of_ne (show j ≠ i from fun e => hij e.symm) with hlt | hgt
      · have h3 : (j - (E.im k).lo + 1) * f'.sz ≤ (i - (E.im k).lo) * f'.sz := Nat.mul_le_mul_right _ (by omega)
        rw [Nat.succ_mul] at h3
        rw [if_pos (by omega)]
        simpa using v1
      · have h3 : (i - (E.im k).lo + 1) * f'.sz ≤ (j - (E.im k).lo) * f'.sz := Nat.mul_le_mul_right _ (by omega)
        rw [Nat.succ_mul] at h3
        rw [if_neg (by omega), if_neg (by omega)]
        simpa using v1

end
end Go.Abs

/- A struct that is built; a literal slice; a slice that is made. -/
namespace Go.Abs
open Go.RowKit (Below)
section
variable {E : Env} {P : Program} {fr : Fr} {a : Act} {o : Oper}

/-! ### Parts laid into a row of cells -/

theorem fold_put (off : Nat) : ∀ (l : List Value) (k : Nat) (cells : Array Value), off + k + l.length ≤ cells.size →
    ((l.zipIdx k).foldl (fun cs (x : Value × Nat) => cs.setIfInBounds (off + x.2) x.1) cells).toList = cells.toList.take (off + k) ++ l ++ cells.toList.drop (off + k + l.length)
  | [], k, cells, _ => by simp
  | v :: l, k, cells, h => by
    simp only [List.length_cons] at h
    simp only [List.zipIdx_cons, List.foldl_cons]
    rw [fold_put off l (k + 1) _ (by simp; omega)]
    have := list_seg_step cells.toList (off + k) v l (by simp; omega)
    simp only [Array.toList_setIfInBounds, List.length_cons]
    rw [show off + (k + 1) = off + k + 1 from by omega]
    exact this

theorem fill_step {place : Nat → Option (Nat × Nat)} {cells : Array Value} {i off size : Nat} {v : Value} {rest : List (Nat × Value)} (hp : place i = some (off, size)) (hs : v.cells.size = size) (hfit : off + size ≤ cells.size) :
    Instr.fill place cells ((i, v) :: rest) = Instr.fill place (cells.toList.take off ++ v.cells.toList ++ cells.toList.drop (off + size)).toArray rest := by
  have h := fold_put off v.cells.toList 0 cells (by simp; omega)
  simp only [Nat.add_zero, Array.length_toList, hs] at h
  have h2 : (v.cells.zipIdx.foldl (fun cs (x : Value × Nat) => cs.setIfInBounds (off + x.2) x.1) cells) = (cells.toList.take off ++ v.cells.toList ++ cells.toList.drop (off + size)).toArray := by
    apply Array.ext'
    rw [← h, ← Array.foldl_toList]
    simp
  simp only [Instr.fill, hp, hs]
  rw [if_neg (by simp; omega)]
  exact congrArg (fun c => Instr.fill place c rest) h2

/-! ### A struct -/

theorem build_sound (hf : FR E fr a.tmps) {fs : Array Field} {places : Nat → Option (Nat × Nat)} (hpl : ∀ (j : Nat) (f : Field) (n : Nat), fs[j]? = some f → Program.size? P f.type = some n → places j = some (f.offset, n)) :
    ∀ {parts : List (Nat × Operand)} {ps : List (Nat × Nat × Opd)} {qs : List (Nat × AV)} {cells : Array Value} {zs : List AV}, mapO (resPart P fs) parts = some ps → buildParts fr zs.length ps = some qs → VRs E zs cells.toList → (∀ u ∈ cells.toList, u.oneCell' = true) →
      ∃ us, Instr.fill places cells (parts.map fun p => (p.1, a.eval p.2)) = some us ∧ VRs E (fillParts zs qs) us.toList ∧ ∀ u ∈ us.toList, u.oneCell' = true
  | [], ps, qs, cells, zs, hp, hq, hz, h1 => by
    simp [mapO] at hp; subst hp
    simp [buildParts] at hq; subst hq
    exact ⟨cells, rfl, hz, h1⟩
  | (i, x) :: parts, ps, qs, cells, zs, hp, hq, hz, h1 => by
    simp only [mapO] at hp
    split at hp
    · rename_i y ys hy hys
      cases hp
      obtain ⟨off, n, x'⟩ := y
      unfold resPart at hy
      split at hy
      · rename_i f xx hfi hxx
        split at hy
        · rename_i n' hn'
          simp at hy
          obtain ⟨rfl, rfl, rfl⟩ := hy
          simp only [buildParts] at hq
          split at hq
          · rename_i hc
            simp only [Option.map_eq_some_iff] at hq
            obtain ⟨qs', hqs', rfl⟩ := hq
            obtain ⟨g1, g2⟩ := VR_cells (opd_sound hf hxx) hc.1
            have hsz : (a.eval x).cells.size = n' := by have := VRs_len g1; simp at this; omega
            have hcl : cells.size = zs.length := by have := VRs_len hz; simpa using this
            have hstep := fill_step (place := places) (cells := cells) (rest := parts.map fun p => (p.1, a.eval p.2)) (hpl i f n' hfi hn') hsz (by omega)
            have hvs := VRs_splice hz g1 f.offset
            rw [show (a.eval x).cells.toList.length = n' from by simp [hsz]] at hvs
            have hlen : (splice zs f.offset (get fr xx).cells).length = zs.length := by simp [splice]; omega
            obtain ⟨us, k1, k2, k3⟩ := build_sound hf hpl (cells := (cells.toList.take f.offset ++ (a.eval x).cells.toList ++ cells.toList.drop (f.offset + n')).toArray) (zs := splice zs f.offset (get fr xx).cells) hys (by rw [hlen]; exact hqs') (by simpa using hvs) (by
              intro u hu
              simp only [List.mem_append] at hu
              rcases hu with (hu | hu) | hu
              · exact h1 u (List.mem_of_mem_take hu)
              · exact g2 u hu
              · exact h1 u (List.mem_of_mem_drop hu))
            refine ⟨us, ?_, ?_, k3⟩
            · simp only [List.map_cons]; rw [hstep]; exact k1
            · simpa [fillParts] using k2
          · cases hq
        · cases hy
      · cases hy
    · cases hp

theorem mapM_get {α β : Type} {f : α → Option β} : ∀ {l : List α} {r : List β}, l.mapM f = some r → ∀ {j : Nat} {x : α}, l[j]? = some x → ∃ y, f x = some y ∧ r[j]? = some y
  | [], r, _, j, x, hx => by simp at hx
  | b :: l, r, h, j, x, hx => by
    simp only [List.mapM_cons, Option.bind_eq_bind, Option.pure_def, Option.bind_eq_some_iff] at h
    obtain ⟨y, hy, ys, hys, hr⟩ := h
    cases hr
    cases j with
    | zero => simp at hx; subst hx; exact ⟨y, hy, rfl⟩
    | succ j => simpa using mapM_get hys (j := j) (x := x) (by simpa using hx)

theorem q_build {t : TypeId} {parts : Array (Nat × Operand)} {fs : Array Field} {zs : List AV} {ps : List (Nat × Nat × Opd)} {qs : List (Nat × AV)} (hf : FR E fr a.tmps) (ho : o.op = .build t parts) (hu : P.underlying t = some (.struct fs)) (hz : Program.zeroA P t = some (.agg zs))
    (hs : (fs.toList.mapM fun f => (P.info? f.type).map fun i => (f.offset, i.size)).isSome = true) (hp : mapO (resPart P fs) parts.toList = some ps) (hq : buildParts fr zs.length ps = some qs) : Quiet P a o E (.agg (fillParts zs qs)) := by
  obtain ⟨i, zv, h1, h2, h3, h4, h5⟩ := zeroA_spec hz
  obtain ⟨places, hpl⟩ := Option.isSome_iff_exists.1 hs
  obtain ⟨g1, g2⟩ := VR_cells (E := E) (VR_of_PV _ _ (constAV_sound h4)) h5
  obtain ⟨us, k1, k2, k3⟩ := build_sound (E := E) (P := P) hf (places := fun j => places.toArray[j]?) (fun j f n hj hn => by
    obtain ⟨y, hy, hy'⟩ := mapM_get hpl (j := j) (x := f) (by simpa using hj)
    unfold Program.size? at hn
    simp only [Option.map_eq_some_iff] at hn hy
    obtain ⟨i', hi', rfl⟩ := hn
    obtain ⟨i'', hi'', rfl⟩ := hy
    rw [hi'] at hi''; cases hi''
    simpa using hy') hp hq g1 g2
  have hb : P.built t (parts.map fun (i, x) => (i, a.eval x)).toList = some us := by
    unfold Program.built
    simp only [h1, hu, h2, hpl, Array.toList_map]
    exact k1
  refine ⟨.agg us, ?_, ?_⟩
  · simp only [execOp, ho, Sem.run_bind, run_build E.w t _ us hb, Result.andThen_ok, Sem.run_pure]
  · simp only [VR]
    exact ⟨us, rfl, k3, k2⟩

/-! ### A row of equal elements -/

/-- A list of cells that holds the elements of a list, one behind the other. -/
def RowL (E : Env) (us : List Value) (xs : List AV) (sz : Nat) : Prop :=
  ∀ (i : Nat) (x : AV), xs[i]? = some x → x.cells.length = sz ∧ ∀ (c : Nat) (y : AV), x.cells[c]? = some y → ∃ v, us[i * sz + c]? = some v ∧ v.oneCell' = true ∧ PV E.w E.ok y v

theorem madeCells_get (z : Array Value) (n : Nat) (i c : Nat) (hc : c < z.size) (hi : i < n) : (madeCells z (n * z.size))[i * z.size + c]? = some z[c] := by
  have hlt := mul_room hi hc
  unfold madeCells
  rw [Array.getElem?_map, Array.getElem?_range, if_pos hlt]
  have : (i * z.size + c) % z.size = c := by rw [Nat.add_comm, Nat.mul_comm, Nat.add_mul_mod_self_left, Nat.mod_eq_of_lt hc]
  simp [this, getElem!_pos, hc]

theorem made_RowL {t : TypeId} {z : AV} (hz : Program.zeroA P t = some z) {n : Nat} {i : TypeInfo} (hi : P.info? t = some i) (hpos : 0 < i.size) : ∃ zv, i.zero = some zv ∧ z.cells.length = i.size ∧ zv.cells.size = i.size ∧ RowL E (madeCells zv.cells (n * i.size)).toList (List.replicate n z) i.size ∧ ∀ u ∈ (madeCells zv.cells (n * i.size)).toList, u.oneCell' = true := by
  obtain ⟨i', zv, h1, h2, h3, h4, h5⟩ := zeroA_spec hz
  rw [hi] at h1; cases h1
  have hpv := constAV_sound (w := E.w) (ok := E.ok) h4
  obtain ⟨g1, g2⟩ := PV_cells hpv h5
  obtain ⟨gl, gg⟩ := PVs_get g1
  have hl : z.cells.length = i.size := by simp at gl; omega
  refine ⟨zv, h2, hl, h3, fun j x hx => ?_, fun u hu => ?_⟩
  · rw [List.getElem?_replicate] at hx
    split at hx
    · rename_i hj
      cases hx
      refine ⟨hl, fun c y hy => ?_⟩
      have hc : c < zv.cells.size := by have := (List.getElem?_eq_some_iff.1 hy).1; omega
      obtain ⟨v, v1, v2⟩ := gg hy
      have := madeCells_get zv.cells n j c hc hj
      rw [h3] at this
      refine ⟨zv.cells[c], by rw [Array.getElem?_toList]; exact this, g2 _ (by simp), ?_⟩
      have e : v = zv.cells[c] := by
        rw [Array.getElem?_toList, Array.getElem?_eq_getElem hc] at v1; simpa using v1.symm
      rw [← e]; exact v2
    · cases hx
  · obtain ⟨j, hj⟩ := List.getElem?_of_mem hu
    rw [Array.getElem?_toList] at hj
    unfold madeCells at hj
    rw [Array.getElem?_map, Array.getElem?_range] at hj
    split at hj
    · simp at hj
      have hm : j % zv.cells.size < zv.cells.size := Nat.mod_lt _ (by omega)
      rw [getElem!_pos zv.cells _ hm] at hj
      subst hj
      exact g2 _ (by simp)
    · simp at hj

theorem slice_sound (hS : SR E) (hf : FR E fr a.tmps) {sz : Nat} (hpos : 0 < sz) :
    ∀ {parts : List (Nat × Operand)} {ps : List (Nat × Opd)} {xs ys : List AV} {cells : Array Value}, mapO resElem parts = some ps → sliceParts fr E.h xs ps = some ys → RowL E cells.toList xs sz → cells.size = xs.length * sz → (∀ u ∈ cells.toList, u.oneCell' = true) →
      ∃ us, Instr.fill (fun i => some (i * sz, sz)) cells (parts.map fun p => (p.1, a.eval p.2)) = some us ∧ RowL E us.toList ys sz ∧ us.size = ys.length * sz ∧ ys.length = xs.length
  | [], ps, xs, ys, cells, hp, hq, hr, hs, _ => by
    simp [mapO] at hp; subst hp
    simp [sliceParts] at hq; subst hq
    exact ⟨cells, rfl, hr, hs, rfl⟩
  | (i, x) :: parts, ps, xs, ys, cells, hp, hq, hr, hs, h1 => by
    simp only [mapO] at hp
    split at hp
    · rename_i y yr hy hyr
      cases hp
      unfold resElem at hy
      simp only [Option.map_eq_some_iff] at hy
      obtain ⟨x', hx', rfl⟩ := hy
      simp only [sliceParts] at hq
      split at hq
      · rename_i z y hz hyy
        split at hq
        · rename_i hc
          obtain ⟨hPu, hut⟩ := frz_sound hS (am := false) (ok' := E.ok) ⟨fun _ _ h => h, fun h => by cases h⟩ (opd_sound hf hx') hyy
          obtain ⟨g1, g2⟩ := PV_cells hPu hut
          obtain ⟨gl, gg⟩ := PVs_get g1
          obtain ⟨r1, r2⟩ := hr i z hz
          have hi : i < xs.length := (List.getElem?_eq_some_iff.1 hz).1
          have hsz : (a.eval x).cells.size = sz := by simp at gl; omega
          have hfit : i * sz + sz ≤ cells.size := by
            have : (i + 1) * sz ≤ xs.length * sz := Nat.mul_le_mul_right _ hi
            rw [Nat.succ_mul] at this; omega
          have hstep := fill_step (place := fun i => some (i * sz, sz)) (cells := cells) (i := i) (rest := parts.map fun p => (p.1, a.eval p.2)) rfl hsz hfit
          have hget := fun j => splice_get (l := cells.toList) (off := i * sz) (vs := (a.eval x).cells.toList) (by simp; omega) j
          simp only [Array.length_toList, hsz] at hget
          obtain ⟨us, k1, k2, k3, k4⟩ := slice_sound hS hf hpos (parts := parts) (xs := xs.set i y) (cells := (cells.toList.take (i * sz) ++ (a.eval x).cells.toList ++ cells.toList.drop (i * sz + sz)).toArray) hyr hq (fun j w hw => by
            by_cases hij : i = j
            · subst hij
              rw [List.getElem?_set_self hi] at hw
              cases hw
              refine ⟨by omega, fun c q hq' => ?_⟩
              obtain ⟨v, v1, v2⟩ := gg hq'
              have hcs : c < sz := by have := (List.getElem?_eq_some_iff.1 hq').1; omega
              refine ⟨v, ?_, g2 v (List.mem_of_getElem? v1), v2⟩
              show (List.take _ _ ++ _ ++ List.drop _ _)[_]? = some v
              rw [hget, if_neg (by omega), if_pos (by omega), show i * sz + c - i * sz = c from by omega]
              exact v1
            · rw [List.getElem?_set_ne hij] at hw
              obtain ⟨s1, s2⟩ := hr j w hw
              refine ⟨s1, fun c q hq' => ?_⟩
              obtain ⟨v, v1, v2, v3⟩ := s2 c q hq'
              refine ⟨v, ?_, v2, v3⟩
              have hcs : c < sz := by have := (List.getElem?_eq_some_iff.1 hq').1; omega
              show (List.take _ _ ++ _ ++ List.drop _ _)[_]? = some v
              rw [hget]
              rcases Nat.lt_or_gt_of_ne (show j ≠ i from fun e => hij e.symm) with hlt | hgt
              · have := mul_room hlt hcs
                rw [if_pos this]; exact v1
              · have h3 : (i + 1) * sz ≤ j * sz := Nat.mul_le_mul_right _ hgt
                rw [Nat.succ_mul] at h3
                rw [if_neg (by omega), if_neg (by omega)]; exact v1) (by
              simp only [List.size_toArray, List.length_append, List.length_take, List.length_drop, Array.length_toList, hsz, List.length_set]
              omega) (by
              intro u hu
              simp only [List.mem_append] at hu
              rcases hu with (hu | hu) | hu
              · exact h1 u (List.mem_of_mem_take hu)
              · exact g2 u hu
              · exact h1 u (List.mem_of_mem_drop hu))
          exact ⟨us, by simp only [List.map_cons]; rw [hstep]; exact k1, k2, k3, by simpa using k4⟩
        · cases hq
      · cases hq
    · cases hp

/-- A row in a block of its own that no one will turn. -/
theorem fresh_PV (hS : SR E) {us : Array Value} {e : TypeId} {xs : List AV} {sz : Nat} (hpos : 0 < sz) (hr : RowL E us.toList xs sz) (hm : xs.length ≤ maxLen) :
    PV (E.w.alloc (.cells us e)) ({ E with w := E.w.alloc (.cells us e) } : Env).ok (.vs true sz xs) (.slice (some ⟨E.w.heap.size, 0, none⟩) xs.length xs.length) := by
  have hb : Below E.w.heap.size E.w (E.w.alloc (.cells us e)) := (Below.refl _ _).alloc (Nat.le_refl _) _
  have hx := grow_ext hS hb
  simp only [PV]
  refine ⟨_, _, _, rfl, rfl, Nat.le_refl _, hm, fun _ => rfl, ⟨(fun h => nomatch h), ⟨(fun h => nomatch h), fun e => absurd hpos (by omega)⟩⟩, fun _ => ⟨_, _, rfl, hpos, PEls_of fun j x hj => ?_⟩⟩
  obtain ⟨r1, r2⟩ := hr j x hj
  refine ⟨r1, PCells_of fun c y hc => ?_⟩
  obtain ⟨v, v1, v2, v3⟩ := r2 c y hc
  refine ⟨v, ?_, ?_, v2, PV_mono hx.cells _ _ v3⟩
  · refine .inr ⟨hS.basele, by simp, fun i hi => ?_, fun k f hk he => ?_⟩
    · have := (hS.nb_lt hi).2
      show E.nb i ≠ _
      omega
    · have := (hS.im_lt (List.getElem?_eq_some_iff.1 hk).1).2
      have he' : (E.im k).b = E.w.heap.size := he
      omega
  · rw [Nat.zero_add, cell_of_row _ _ _ _ _ _ (heap_alloc_new _ _)]
    simpa using v1

theorem d_bslice {t e : TypeId} {len : Nat} {parts : Array (Nat × Operand)} {z : AV} {n : Nat} {ps : List (Nat × Opd)} {xs : List AV} (hS : SR E) (hf : FR E fr a.tmps) (ho : o.op = .buildSlice t len parts) (hu : P.underlying t = some (.slice e)) (hz : Program.zeroA P e = some z) (hn : Program.size? P e = some n)
    (hpos : 0 < n) (hlim : len * n ≤ 2 ^ 24) (hp : mapO resElem parts.toList = some ps) (hq : sliceParts fr E.h (List.replicate len z) ps = some xs) : Does P a o E (.vs true z.cells.length xs) E.h := by
  have hn' := hn
  unfold Program.size? at hn'
  simp only [Option.map_eq_some_iff] at hn'
  obtain ⟨i, hi, rfl⟩ := hn'
  obtain ⟨zv, h2, hl, h3, hr, h1⟩ := made_RowL (E := E) hz (n := len) hi hpos
  obtain ⟨us, k1, k2, k3, k4⟩ := slice_sound hS hf hpos hp hq hr (by simp [madeCells]) h1
  have hlen : xs.length = len := by simpa using k4
  have hmax : xs.length ≤ maxLen := by
    have : len * 1 ≤ len * i.size := Nat.mul_le_mul_left _ hpos
    rw [hlen]; unfold maxLen; omega
  have hpv := fresh_PV (e := e) hS hpos k2 hmax
  have hb : Below E.w.heap.size E.w (E.w.alloc (.cells us e)) := (Below.refl _ _).alloc (Nat.le_refl _) _
  rw [hl]
  refine ⟨_, .slice (some ⟨E.w.heap.size, 0, none⟩) xs.length xs.length, { E with w := E.w.alloc (.cells us e) }, ?_, .inl rfl, grow_ext hS hb, grow_SR hS hb, rfl, ?_⟩
  · have hsize : (sizeOf e).run P E.w = .ok i.size E.w := run_size hn _
    by_cases h0 : len * i.size = 0
    · have hc0 : madeCells zv.cells (len * i.size) = #[] := by simp [h0, madeCells]
      rw [hc0] at k1
      simp [execOp, ho, Instr.buildSlice, run_under hu, hsize, h0, newRow, hlen, Array.range_zero', k1]
    · simp [execOp, ho, Instr.buildSlice, run_under hu, hsize, h0, show ¬ (16777216 < len * i.size) from by omega, zeroValue, typeInfo, hi, h2, newRow, hlen]
      unfold madeCells at k1
      simp [k1]
  · simp only [VR]
    exact hpv

end
end Go.Abs

/- A slice that is made; append: in place, in a new block, onto nothing. -/
namespace Go.Abs
open Go.RowKit (Below)
section
variable {E : Env} {P : Program} {fr : Fr} {a : Act} {o : Oper}

theorem RowL_FElem {us : Array Value} {xs : List AV} {sz : Nat} (h : RowL E us.toList xs sz) (i : Nat) (x : AV) (hx : xs[i]? = some x) : FElem E us (i * sz) sz x := by
  obtain ⟨h1, h2⟩ := h i x hx
  exact ⟨h1, fun c y hc => by obtain ⟨v, v1, v2, v3⟩ := h2 c y hc; exact ⟨v, by simpa using v1, v2, v3⟩⟩

theorem d_mkslice {t e : TypeId} {l c : Operand} {l' c' : Opd} {z : AV} {i : TypeInfo} {k1 k2 : IntKind} {x y : Int} (hS : SR E) (hf : FR E fr a.tmps) (ho : o.op = .makeSlice t l c) (hu : P.underlying t = some (.slice e)) (hi : P.info? e = some i) (hz : Program.zeroA P e = some z)
    (hpos : 0 < i.size) (hl : resOpd l = some l') (hc : resOpd c = some c') (hx : get fr l' = .int k1 x) (hy : get fr c' = .int k2 y) (h0 : 0 ≤ x) (hxy : x ≤ y) (hb : y * i.bytes ≤ roomA) (hm : y ≤ maxLen) :
    Does P a o E (.sl E.h.fams.length x.toNat 0 x.toNat) { E.h with fams := E.h.fams ++ [⟨List.replicate x.toNat z, z.cells.length, true⟩] } := by
  have e1 := opd_sound hf hl
  have e2 := opd_sound hf hc
  rw [hx] at e1; rw [hy] at e2
  simp only [VR] at e1 e2
  obtain ⟨zv, h2, hzl, h3, hr, h1⟩ := made_RowL (E := E) hz (n := y.toNat) hi hpos
  have hrun := run_make (P := P) E.w t e i zv hu hi h2 k1 k2 x y h0 hxy (by rw [Int.mul_comm]; unfold roomA at hb; omega) (by unfold maxLen at hm; omega)
  have hlen : (List.replicate x.toNat z).length = x.toNat := by simp
  have hel : ∀ (j : Nat) (w : AV), (List.replicate x.toNat z)[j]? = some w → FElem E (madeCells zv.cells (y.toNat * i.size)) (j * z.cells.length) z.cells.length w := by
    intro j w hw
    rw [hzl]
    refine RowL_FElem hr j w ?_
    rw [List.getElem?_replicate] at hw ⊢
    split at hw
    · rename_i hj
      cases hw
      rw [if_pos (by omega)]
    · cases hw
  refine ⟨_, .slice (some ⟨E.w.heap.size, 0, none⟩) x.toNat y.toNat, E.newFam (madeCells zv.cells (y.toNat * i.size)) e y.toNat ⟨List.replicate x.toNat z, z.cells.length, true⟩, ?_, .inl rfl, newFam_ext hS _ _ _ _,
    newFam_SR hS (by simpa [hzl] using hpos) (by simp; omega) (by omega) (by simp [size_madeCells, hzl]) hel, rfl, ?_⟩
  · simp only [execOp, ho, e1, e2, Sem.run_bind, hrun, Result.andThen_ok, Sem.run_pure, Env.newFam]
  · simp only [VR, Env.newFam, upd_same]
    refine ⟨_, _, ⟨List.replicate x.toNat z, z.cells.length, true⟩, rfl, by simp, by simp, fun _ => ⟨Nat.zero_le _, by simp, by simp, (fun h => nomatch h), fun _ => by simp⟩⟩

/-! ### The source of an append -/

theorem div_cut {n sz j : Nat} (hsz : 0 < sz) (hj : j < n * sz) : j / sz < n ∧ j % sz < sz ∧ j / sz * sz + j % sz = j :=
  ⟨Nat.div_lt_of_lt_mul (by rwa [Nat.mul_comm]), Nat.mod_lt _ hsz, by rw [Nat.mul_comm]; exact Nat.div_add_mod j sz⟩

/-- Elements in memory, one behind the other. -/
def MemRow (E : Env) (b q sz : Nat) (ys : List AV) : Prop :=
  ∀ (i : Nat) (x : AV), ys[i]? = some x → x.cells.length = sz ∧ ∀ (c : Nat) (y : AV), x.cells[c]? = some y → ∃ v, E.w.cell? ⟨b, q + i * sz + c, none⟩ = some v ∧ v.oneCell' = true ∧ PV E.w E.ok y v

theorem MemRow_list {b q sz : Nat} {ys : List AV} (hsz : 0 < sz) (h : MemRow E b q sz ys) :
    ∃ news : List Value, news.length = ys.length * sz ∧ (∀ (j : Nat) (u : Value), news[j]? = some u → E.w.cell? ((⟨b, q, none⟩ : Addr).add j) = some u) ∧ (∀ u ∈ news, u.oneCell' = true) ∧ RowL E news ys sz := by
  have hex : ∀ j, j < ys.length * sz → ∃ u, E.w.cell? ⟨b, q + j, none⟩ = some u ∧ u.oneCell' = true ∧ ∃ y x, ys[j / sz]? = some x ∧ x.cells[j % sz]? = some y ∧ PV E.w E.ok y u := by
    intro j hj
    obtain ⟨h1, h2, h3⟩ := div_cut hsz hj
    obtain ⟨g1, g2⟩ := h (j / sz) _ (List.getElem?_eq_getElem h1)
    obtain ⟨v, v1, v2, v3⟩ := g2 (j % sz) _ (List.getElem?_eq_getElem (by omega))
    rw [show q + j / sz * sz + j % sz = q + j from by omega] at v1
    exact ⟨v, v1, v2, _, _, List.getElem?_eq_getElem h1, List.getElem?_eq_getElem _, v3⟩
  have hpick : ∃ g : Nat → Value, ∀ j, j < ys.length * sz → E.w.cell? ⟨b, q + j, none⟩ = some (g j) ∧ (g j).oneCell' = true ∧ ∃ y x, ys[j / sz]? = some x ∧ x.cells[j % sz]? = some y ∧ PV E.w E.ok y (g j) := by
    refine ⟨fun j => if hj : j < ys.length * sz then Classical.choose (hex j hj) else default, fun j hj => ?_⟩
    simp only [hj, dif_pos]
    exact Classical.choose_spec (hex j hj)
  obtain ⟨g, hg⟩ := hpick
  refine ⟨(List.range (ys.length * sz)).map g, by simp, fun j u hu => ?_, fun u hu => ?_, fun i x hx => ?_⟩
  · rw [List.getElem?_map] at hu
    by_cases hj : j < ys.length * sz
    · rw [List.getElem?_range hj] at hu
      simp at hu; subst hu
      rw [add_addr]; exact (hg j hj).1
    · rw [List.getElem?_eq_none (by simpa using hj)] at hu; simp at hu
  · simp at hu
    obtain ⟨j, hj, rfl⟩ := hu
    exact (hg j hj).2.1
  · obtain ⟨g1, g2⟩ := h i x hx
    refine ⟨g1, fun c y hc => ?_⟩
    obtain ⟨v, v1, v2, v3⟩ := g2 c y hc
    have hi : i < ys.length := (List.getElem?_eq_some_iff.1 hx).1
    have hcs : c < sz := by have := (List.getElem?_eq_some_iff.1 hc).1; omega
    have hlt := mul_room hi hcs
    refine ⟨v, ?_, v2, v3⟩
    rw [List.getElem?_map, List.getElem?_range hlt]
    have := (hg _ hlt).1
    rw [show q + (i * sz + c) = q + i * sz + c from by omega] at this
    rw [this] at v1
    simpa using v1

theorem elems_sound (hS : SR E) {sz : Nat} (hsz : 0 < sz) {x : AV} {v : Value} {ys : List AV} (hv : VR E x v) (h : elems E.h sz x = some ys) :
    ∃ ad c, v = .slice ad ys.length c ∧ (ad = none → ys.length = 0) ∧ (ys ≠ [] → ∃ b q, ad = some ⟨b, q, none⟩ ∧ MemRow E b q sz ys) := by
  unfold elems at h
  split at h
  · rename_i full z xs
    split at h
    · rename_i hz
      cases h
      simp only [VR, PV] at hv
      obtain ⟨ad, len, cap, rfl, rfl, h2, h3, h4, h5, h6⟩ := hv
      refine ⟨ad, cap, rfl, fun hn => by have := h5.1 hn; omega, fun hne => ?_⟩
      obtain ⟨b, q, rfl, _, hels⟩ := h6 hne
      have : z = sz := by
        rcases hz with hz | hz
        · exact hz
        · exact absurd (List.eq_nil_of_length_eq_zero hz) hne
      subst this
      refine ⟨b, q, rfl, fun i x hx => ?_⟩
      obtain ⟨p1, p2⟩ := PEls_get hels hx
      refine ⟨p1, fun c y hc => ?_⟩
      obtain ⟨u, _, u2, u3, u4⟩ := PCells_get p2 hc
      exact ⟨u, u2, u3, u4⟩
    · cases h
  · rename_i k n off len
    split at h
    · rename_i f hfk
      split at h
      · rename_i hc
        cases h
        obtain ⟨hn, hz, ho⟩ := hc
        simp only [VR] at hv
        obtain ⟨ad, cap, f', rfl, hf', _, hcc⟩ := hv
        have : f' = f := by rw [hfk] at hf'; simpa using hf'.symm
        subst this
        obtain ⟨l1, l2, l3, l4, l5⟩ := hcc hn
        have hF := hS.fams k f' hfk
        have hroom := hF.room
        have hlen : ((f'.xs.drop off).take len).length = len := by simp; omega
        refine ⟨ad, cap, by rw [hlen], fun h => absurd h l4, fun hne => ?_⟩
        have hpos : 0 < len := by
          rcases Nat.eq_zero_or_pos len with h0 | h0
          · subst h0; simp at hne
          · exact h0
        refine ⟨_, _, l5 (by omega), fun i x hx => ?_⟩
        have hi : i < len := by have := (List.getElem?_eq_some_iff.1 hx).1; omega
        have hx' : f'.xs[off + i]? = some x := by
          rw [List.getElem?_take, if_pos hi, List.getElem?_drop] at hx; exact hx
        obtain ⟨cur, t, c1, c2, c3⟩ := hF.cells
        obtain ⟨e1, e2⟩ := c3 (off + i) x (by omega) hx'
        refine ⟨by omega, fun c y hc => ?_⟩
        obtain ⟨u, u1, u2, u3⟩ := e2 c y hc
        refine ⟨u, ?_, u2, u3⟩
        rw [cell_of_row _ _ _ _ _ _ c1]
        rw [show (E.im k).o + (off - (E.im k).lo) * f'.sz + i * sz + c = (E.im k).o + (off + i - (E.im k).lo) * f'.sz + c from by
          rw [show off + i - (E.im k).lo = (off - (E.im k).lo) + i from by omega, Nat.add_mul, hz]; omega]
        exact u1
      · cases h
    · cases h
  · cases h

/-! ### Append in the model -/

theorem run_append_zero (t ty e : TypeId) (i : TypeInfo) (ht : P.underlying t = some (.slice e)) (hi : P.info? e = some i) (base ad : Option Addr) (n c m : Nat) (hnc : n ≤ c) (w : World) :
    (Builtin.append_ #[t, t] ty #[.slice base n c, .slice ad 0 m]).run P w = .ok (.slice base n c) w := by
  have hf : (Builtin.firstCells i.size 0 (.slice ad 0 m)).run P w = .ok #[] w := by
    cases ad <;> simp [Builtin.firstCells, loadCells, loadCellsFrom]
  cases base <;> simp [Builtin.append_, run_underlying ht, sizeOf, typeInfo, hi, Builtin.lenOf, hnc, hf, storeCells]

theorem run_append_in (t ty e : TypeId) (i : TypeInfo) (ht : P.underlying t = some (.slice e)) (hi : P.info? e = some i)
    (g q sLen sCap : Nat) (cur : Array Value) (t' : TypeId) (w : World) (hg : w.heap[g]? = some (.cells cur t' (0, 0)))
    (a : Addr) (m c : Nat) (news : List Value) (hl : news.length = m * i.size) (hnews : ∀ j u, news[j]? = some u → w.cell? (a.add j) = some u) (h1 : ∀ u ∈ news, u.oneCell' = true)
    (hroom : sLen + m ≤ sCap) (hfit : q + sLen * i.size + news.length ≤ cur.size) :
    (Builtin.append_ #[t, t] ty #[.slice (some ⟨g, q, none⟩) sLen sCap, .slice (some a) m c]).run P w =
      .ok (.slice (some ⟨g, q, none⟩) (sLen + m) sCap) (w.setRow g (cur.toList.take (q + sLen * i.size) ++ news ++ cur.toList.drop (q + sLen * i.size + news.length)).toArray) := by
  have hf := run_firstCells_some (P := P) w i.size m a m c news hl hnews
  have hst := run_storeCells_at P g (q + sLen * i.size) t' news 0 cur w hg (by simpa using hfit) h1
  simp only [Nat.add_zero] at hst
  simp [Builtin.append_, run_underlying ht, sizeOf, typeInfo, hi, Builtin.lenOf, hroom, hf, add_addr, hst]

theorem drew_below {B : Nat} (w : World) : Below B w w.drew := (Below.refl B w).drew

theorem RowL_append {us vs : List Value} {xs ys : List AV} {sz : Nat} (h1 : RowL E us xs sz) (hl : us.length = xs.length * sz) (h2 : RowL E vs ys sz) : RowL E (us ++ vs) (xs ++ ys) sz := by
  intro i x hx
  by_cases hi : i < xs.length
  · rw [List.getElem?_append_left hi] at hx
    obtain ⟨g1, g2⟩ := h1 i x hx
    refine ⟨g1, fun c y hc => ?_⟩
    obtain ⟨v, v1, v2⟩ := g2 c y hc
    exact ⟨v, by rw [List.getElem?_append_left (List.getElem?_eq_some_iff.1 v1).1]; exact v1, v2⟩
  · rw [List.getElem?_append_right (by omega)] at hx
    obtain ⟨g1, g2⟩ := h2 _ x hx
    refine ⟨g1, fun c y hc => ?_⟩
    obtain ⟨v, v1, v2⟩ := g2 c y hc
    refine ⟨v, ?_, v2⟩
    have : xs.length * sz ≤ i * sz := Nat.mul_le_mul_right _ (by omega)
    rw [List.getElem?_append_right (by omega), hl, show i * sz + c - xs.length * sz = (i - xs.length) * sz + c from by rw [Nat.sub_mul]; omega]
    exact v1

theorem RowL_more {us vs : List Value} {xs : List AV} {sz : Nat} (h1 : RowL E us xs sz) : RowL E (us ++ vs) xs sz := by
  intro i x hx
  obtain ⟨g1, g2⟩ := h1 i x hx
  refine ⟨g1, fun c y hc => ?_⟩
  obtain ⟨v, v1, v2⟩ := g2 c y hc
  exact ⟨v, by rw [List.getElem?_append_left (List.getElem?_eq_some_iff.1 v1).1]; exact v1, v2⟩

theorem RowL_ext {E' : Env} (h : Ext E E') {us : List Value} {xs : List AV} {sz : Nat} (h1 : RowL E us xs sz) : RowL E' us xs sz := by
  intro i x hx
  obtain ⟨g1, g2⟩ := h1 i x hx
  refine ⟨g1, fun c y hc => ?_⟩
  obtain ⟨v, v1, v2, v3⟩ := g2 c y hc
  exact ⟨v, v1, v2, PV_mono h.cells _ _ v3⟩

end
end Go.Abs

/- Append: what it does to the abstract heap is what it does to memory. -/
namespace Go.Abs
open Go.RowKit (Below)
section
variable {E : Env} {P : Program} {fr : Fr} {a : Act} {o : Oper}

theorem exec_append {args : Array Operand} {ats : Array TypeId} {s x : Operand} {t : TypeId} (ho : o.op = .call { callee := .builtin .append, args := args, argTypes := ats }) (h1 : args.toList = [s, x]) (h2 : ats.toList = [t, t]) {v : Value} {w w' : World}
    (h : (Builtin.append_ #[t, t] o.type #[a.eval s, a.eval x]).run P w = .ok v w') : (execOp a.eval o).run P w = .ok (.value v) w' := by
  rw [arr_two h1, arr_two h2] at ho
  simp only [execOp, ho, resolve, invoke, builtin, Sem.run_bind, Sem.run_pure, Result.andThen_ok, List.map_toArray, List.map_cons, List.map_nil, h]

theorem grown_row {us : List Value} {xs : List AV} {sz n cap : Nat} (hr : RowL E us xs sz) (hl : us.length = n * sz) (z : Array Value) (hz : z.size = sz) (hcap : n ≤ cap) :
    RowL E (us.toArray ++ Builtin.zeroCells z (cap - n)).toList xs sz ∧ cap * sz ≤ (us.toArray ++ Builtin.zeroCells z (cap - n)).size := by
  refine ⟨?_, ?_⟩
  · rw [Array.toList_append]
    exact RowL_more hr
  · rw [Array.size_append, size_zeroCells, hz, List.size_toArray, hl, ← Nat.add_mul]
    exact Nat.mul_le_mul_right _ (by omega)

/-- An append that makes a new block: onto nothing, or onto a row that has no room. -/
theorem run_append_new {t ty e : TypeId} {i : TypeInfo} {z : Value} (ht : P.underlying t = some (.slice e)) (hi : P.info? e = some i) (hz : i.zero = some z) (hzs : z.cells.size = i.size)
    {base : Option Addr} {n cap : Nat} {olds : List Value} {xs : List AV} (hb : base = none → cap = 0) (hnc : n ≤ cap) (hold : olds.length = n * i.size) (hxs : xs.length = n)
    (holds : ∀ b, base = some b → ∀ (j : Nat) (u : Value), olds[j]? = some u → E.w.cell? (b.add j) = some u) (hro : RowL E olds xs i.size)
    {ad : Addr} {ys : List AV} {c : Nat} {news : List Value} (hl : news.length = ys.length * i.size) (hnews : ∀ (j : Nat) (u : Value), news[j]? = some u → E.w.cell? (ad.add j) = some u) (hrn : RowL E news ys i.size)
    (hg : cap < n + ys.length) (hm : n + ys.length ≤ maxLen) (hbytes : (n + ys.length) * i.bytes ≤ roomA) :
    ∃ us newCap, (Builtin.append_ #[t, t] ty #[.slice base n cap, .slice (some ad) ys.length c]).run P E.w = .ok (.slice (some ⟨E.w.heap.size, 0, none⟩) (n + ys.length) newCap) (E.w.drew.alloc (.cells us e)) ∧
      n + ys.length ≤ newCap ∧ newCap ≤ maxLen ∧ newCap * i.size ≤ us.size ∧ RowL E us.toList (xs ++ ys) i.size := by
  have hfit := growslice_fits hg hbytes
  have h63 : ((n + ys.length : Nat) : Int) ≤ 9223372036854775807 := by unfold maxLen at hm; omega
  refine ⟨(olds ++ news).toArray ++ Builtin.zeroCells z.cells (grownCap E.w (n + ys.length) cap e - (n + ys.length)), grownCap E.w (n + ys.length) cap e, ?_, grownCap_ge _ _ _ _, grownCap_le_maxLen _ _ _ _ hm, ?_, ?_⟩
  rotate_left 1
  · exact (grown_row (us := olds ++ news) (xs := xs ++ ys) (n := n + ys.length) (RowL_append hro (by rw [hold, hxs]) hrn) (by rw [List.length_append, hold, hl, Nat.add_mul]) z.cells hzs (grownCap_ge E.w _ cap e)).2
  · exact (grown_row (us := olds ++ news) (xs := xs ++ ys) (n := n + ys.length) (RowL_append hro (by rw [hold, hxs]) hrn) (by rw [List.length_append, hold, hl, Nat.add_mul]) z.cells hzs (grownCap_ge E.w _ cap e)).1
  · cases base with
    | none =>
      have hc := hb rfl
      subst hc
      have hn0 : n = 0 := by omega
      subst hn0
      have ho0 : olds = [] := List.eq_nil_of_length_eq_zero (by simpa using hold)
      subst ho0
      have := run_append_nil (P := P) E.w t ty e i z ht hi hz ad ys.length c news hl hnews (by omega) (by simpa using h63) (by simp at hbytes; unfold roomA at hbytes; omega)
      simpa using this
    | some b =>
      have := run_append_grow (P := P) E.w t ty e i z ht hi hz b n cap olds hold (holds b rfl) ad ys.length c news hl hnews hg h63 hfit
      rw [this]
      simp

theorem drew_ext (hS : SR E) : Ext E { E with w := E.w.drew } := grow_ext hS (drew_below _)
theorem drew_SR (hS : SR E) : SR { E with w := E.w.drew } := grow_SR hS (drew_below _)

theorem d_app_full {c : Ctx} {args : Array Operand} {ats : Array TypeId} {s x : Operand} {s' x' : Opd} {t e : TypeId} {i : TypeInfo} {z : AV} {z0 : Nat} {xs ys : List AV} (hS : SR E) (hf : FR E fr a.tmps)
    (ho : o.op = .call { callee := .builtin .append, args := args, argTypes := ats }) (h1 : args.toList = [s, x]) (h2 : ats.toList = [t, t]) (ht : P.underlying t = some (.slice e)) (hi : P.info? e = some i) (hz : Program.zeroA P e = some z) (hpos : 0 < i.size)
    (hs : resOpd s = some s') (hx : resOpd x = some x') (hg : get fr s' = .vs true z0 xs) (hys : elems E.h i.size (get fr x') = some ys) (hne : ys.length ≠ 0) (hz0 : z0 = i.size ∨ xs.length = 0)
    (hb : (xs.length + ys.length) * i.bytes ≤ roomA) (hm : xs.length + ys.length ≤ maxLen) :
    Does P a o E (.sl E.h.fams.length (xs.length + ys.length) 0 (xs.length + ys.length)) { E.h with fams := E.h.fams ++ [⟨xs ++ ys, i.size, c.mutApp⟩] } := by
  obtain ⟨i', zv, q1, q2, q3, q4, q5⟩ := zeroA_spec hz
  rw [hi] at q1; cases q1
  have e1 := opd_sound hf hs
  rw [hg] at e1
  simp only [VR, PV] at e1
  obtain ⟨base, len, cap, e2, rfl, e4, e5, e6, e7, e8⟩ := e1
  have ecap : cap = xs.length := e6 trivial
  obtain ⟨ad, cx, f1, f2, f3⟩ := elems_sound hS hpos (opd_sound hf hx) hys
  obtain ⟨b, q, rfl, f4⟩ := f3 (by intro h; subst h; simp at hne)
  obtain ⟨news, n1, n2, _, n4⟩ := MemRow_list hpos f4
  have hold : ∃ olds : List Value, olds.length = xs.length * i.size ∧ (∀ b, base = some b → ∀ (j : Nat) (u : Value), olds[j]? = some u → E.w.cell? (b.add j) = some u) ∧ RowL E olds xs i.size := by
    by_cases hxe : xs = []
    · subst hxe
      exact ⟨[], by simp, fun b _ j u h => by simp at h, fun j x h => by simp at h⟩
    · obtain ⟨b', q', rfl, _, hels⟩ := e8 hxe
      have : z0 = i.size := by
        rcases hz0 with h | h
        · exact h
        · exact absurd (List.eq_nil_of_length_eq_zero h) hxe
      subst this
      obtain ⟨olds, o1, o2, _, o4⟩ := MemRow_list (E := E) (b := b') (q := q') hpos (ys := xs) (fun j x hj => by
        obtain ⟨p1, p2⟩ := PEls_get hels hj
        refine ⟨p1, fun c y hc => ?_⟩
        obtain ⟨u, _, u2, u3, u4⟩ := PCells_get p2 hc
        exact ⟨u, u2, u3, u4⟩)
      exact ⟨olds, o1, fun b'' hb'' => by cases hb''; exact o2, o4⟩
  obtain ⟨olds, o1, o2, o3⟩ := hold
  obtain ⟨us, newCap, r1, r2, r3, r4, r5⟩ := run_append_new (P := P) (ty := o.type) ht hi q2 q3 e7.1 e4 o1 rfl o2 o3 n1 n2 n4 (c := cx) (by omega) hm hb
  have hE1 := drew_SR hS
  have hx1 := drew_ext hS
  refine ⟨_, .slice (some ⟨E.w.heap.size, 0, none⟩) (xs.length + ys.length) newCap, ({ E with w := E.w.drew } : Env).newFam us e newCap ⟨xs ++ ys, i.size, c.mutApp⟩, ?_, .inl rfl, hx1.trans (newFam_ext hE1 _ _ _ _),
    newFam_SR hE1 hpos (by simpa using r2) r3 r4 (fun j x hj => RowL_FElem (RowL_ext hx1 r5) j x hj), rfl, ?_⟩
  · refine exec_append ho h1 h2 ?_
    rw [e2, f1, r1]
    rfl
  · simp only [VR, Env.newFam, upd_same]
    exact ⟨_, _, ⟨xs ++ ys, i.size, c.mutApp⟩, rfl, by simp, by simp, fun _ => ⟨Nat.zero_le _, by simp, by simp, (fun h => nomatch h), fun _ => by simp⟩⟩

theorem set_same {α : Type} {l : List α} {k : Nat} {x : α} (h : l[k]? = some x) : l.set k x = l := by
  apply List.ext_getElem?
  intro j
  rw [List.getElem?_set]
  split
  · rename_i hj; subst hj
    have := (List.getElem?_eq_some_iff.1 h).1
    rw [if_pos this]; exact h.symm
  · rfl

theorem d_app_row {args : Array Operand} {ats : Array TypeId} {s x : Operand} {s' x' : Opd} {t e : TypeId} {i : TypeInfo} {z : AV} {k n off len : Nat} {f : Fam} {ys : List AV} (hS : SR E) (hf : FR E fr a.tmps)
    (ho : o.op = .call { callee := .builtin .append, args := args, argTypes := ats }) (h1 : args.toList = [s, x]) (h2 : ats.toList = [t, t]) (ht : P.underlying t = some (.slice e)) (hi : P.info? e = some i) (hz : Program.zeroA P e = some z) (hpos : 0 < i.size)
    (hs : resOpd s = some s') (hx : resOpd x = some x') (hg : get fr s' = .sl k n off len) (hys : elems E.h i.size (get fr x') = some ys) (hfk : E.h.fams[k]? = some f) (hn : f.xs.length = n) (hsz : f.sz = i.size) (hoff : off + len = n)
    (hb : (n + ys.length) * i.bytes ≤ roomA) (hm : n + ys.length ≤ maxLen) :
    Does P a o E (.sl k (n + ys.length) off (len + ys.length)) { E.h with fams := E.h.fams.set k { f with xs := f.xs ++ ys } } := by
  obtain ⟨i', zv, q1, q2, q3, q4, q5⟩ := zeroA_spec hz
  rw [hi] at q1; cases q1
  have e1 := opd_sound hf hs
  rw [hg] at e1
  have e1' := e1
  simp only [VR] at e1
  obtain ⟨base, cap, f', e2, hf', e4, e5⟩ := e1
  have : f' = f := by rw [hfk] at hf'; simpa using hf'.symm
  subst this
  obtain ⟨l1, l2, l3, l4, l5⟩ := e5 hn
  have hF := hS.fams k f' hfk
  have hroom := hF.room
  have hk' := (List.getElem?_eq_some_iff.1 hfk).1
  obtain ⟨ad, cx, f1, f2, f3⟩ := elems_sound hS hpos (opd_sound hf hx) hys
  have hlencap : len ≤ cap := by omega
  by_cases h0 : ys = []
  · subst h0
    have hset : E.h.fams.set k { f' with xs := f'.xs ++ [] } = E.h.fams := set_same (by rw [List.append_nil]; exact hfk)
    refine ⟨_, .slice base len cap, E, exec_append ho h1 h2 ?_, .inl rfl, Ext.refl E, hS, by rw [hset], by rw [e2] at e1'; simpa using e1'⟩
    rw [e2, f1]
    exact run_append_zero t _ e i ht hi base ad len cap cx hlencap E.w
  have hylen : 0 < ys.length := by
    rcases Nat.eq_zero_or_pos ys.length with h | h
    · exact absurd (List.eq_nil_of_length_eq_zero h) h0
    · exact h
  obtain ⟨b, q, rfl, f4⟩ := f3 h0
  obtain ⟨news, n1, n2, n3, n4⟩ := MemRow_list hpos f4
  by_cases hin : len + ys.length ≤ cap
  · -- there is room
    have hbase := l5 (by omega)
    obtain ⟨cur, t', c1, c2, c3⟩ := hF.cells
    have hnl : off - (E.im k).lo + len = n - (E.im k).lo := by omega
    have epos : (E.im k).o + (off - (E.im k).lo) * f'.sz + len * i.size = (E.im k).o + (n - (E.im k).lo) * f'.sz := by
      rw [← hnl, Nat.add_mul, hsz]; omega
    have hfit : (E.im k).o + (n - (E.im k).lo) * f'.sz + news.length ≤ cur.size := by
      have h3 : (n - (E.im k).lo + ys.length) * f'.sz ≤ (E.im k).cap * f'.sz := Nat.mul_le_mul_right _ (by omega)
      rw [Nat.add_mul] at h3
      rw [n1, ← hsz]; omega
    have hrun := run_append_in (P := P) t o.type e i ht hi (E.im k).b ((E.im k).o + (off - (E.im k).lo) * f'.sz) len cap cur t' E.w c1 ⟨b, q, none⟩ ys.length cx news n1 n2 n3 hin (by rw [epos]; exact hfit)
    rw [epos] at hrun
    obtain ⟨us, hus⟩ : ∃ us : Array Value, us = (cur.toList.take ((E.im k).o + (n - (E.im k).lo) * f'.sz) ++ news ++ cur.toList.drop ((E.im k).o + (n - (E.im k).lo) * f'.sz + news.length)).toArray := ⟨_, rfl⟩
    rw [← hus] at hrun
    have hget : ∀ j : Nat, us[j]? = if j < (E.im k).o + (n - (E.im k).lo) * f'.sz then cur[j]? else if j < (E.im k).o + (n - (E.im k).lo) * f'.sz + news.length then news[j - ((E.im k).o + (n - (E.im k).lo) * f'.sz)]? else cur[j]? := by
      intro j
      have := splice_get (l := cur.toList) (off := (E.im k).o + (n - (E.im k).lo) * f'.sz) (vs := news) (by simpa using hfit) j
      simp only [Array.getElem?_toList] at this
      rw [hus, List.getElem?_toArray, this]
    have hkeep : f'.wr = false → ∀ j, j < (E.im k).o + (f'.xs.length - (E.im k).lo) * f'.sz → us[j]? = cur[j]? := by
      intro _ j hj
      rw [hn] at hj
      rw [hget, if_pos hj]
    refine ⟨_, .slice base (len + ys.length) cap, E.setFam k us { f' with xs := f'.xs ++ ys }, exec_append ho h1 h2 ?_, .inl rfl, setFam_ext hS hfk c1 rfl rfl (by simp) hkeep,
      setFam_SR hS hfk c1 rfl rfl (by simp) hkeep (by simp; omega) (by rw [hus]; simp; omega) ?_, rfl, ?_⟩
    · rw [e2, f1, hbase, hrun]
      rfl
    · intro j x' hj hx'
      have hx'' : (f'.xs ++ ys)[j]? = some x' := hx'
      by_cases hjn : j < n
      · rw [List.getElem?_append_left (by omega)] at hx''
        obtain ⟨g1, g2⟩ := c3 j x' hj hx''
        refine ⟨g1, fun c y hc => ?_⟩
        obtain ⟨v, v1, v2⟩ := g2 c y hc
        have hcs : c < f'.sz := by have := (List.getElem?_eq_some_iff.1 hc).1; omega
        have := mul_room (show j - (E.im k).lo < n - (E.im k).lo by omega) hcs
        exact ⟨v, by rw [hget, if_pos (by omega)]; exact v1, v2⟩
      · rw [List.getElem?_append_right (by omega), hn] at hx''
        obtain ⟨g1, g2⟩ := n4 _ x' hx''
        refine ⟨by omega, fun c y hc => ?_⟩
        obtain ⟨v, v1, v2⟩ := g2 c y hc
        have hcs : c < f'.sz := by have := (List.getElem?_eq_some_iff.1 hc).1; omega
        have hjy : j - n < ys.length := by have := (List.getElem?_eq_some_iff.1 hx'').1; omega
        have h5 := mul_room hjy hcs
        have ej : (j - (E.im k).lo) * f'.sz = (n - (E.im k).lo) * f'.sz + (j - n) * f'.sz := by
          rw [← Nat.add_mul]; congr 1; omega
        refine ⟨v, ?_, v2⟩
        rw [hget, ej, if_neg (by omega), if_pos (by rw [n1, ← hsz]; omega)]
        rw [show (E.im k).o + ((n - (E.im k).lo) * f'.sz + (j - n) * f'.sz) + c - ((E.im k).o + (n - (E.im k).lo) * f'.sz) = (j - n) * i.size + c from by rw [← hsz]; omega]
        exact v1
    · simp only [VR, Env.setFam]
      refine ⟨base, cap, { f' with xs := f'.xs ++ ys }, rfl, by simp [hk'], by simp [hn], fun _ => ⟨l1, by omega, l3, l4, l5⟩⟩
  · -- there is none
    have hold : ∃ olds : List Value, olds.length = len * i.size ∧ (∀ b, base = some b → ∀ (j : Nat) (u : Value), olds[j]? = some u → E.w.cell? (b.add j) = some u) ∧ RowL E olds ((f'.xs.drop off).take len) i.size := by
      have hll : ((f'.xs.drop off).take len).length = len := by simp; omega
      by_cases hl0 : len = 0
      · subst hl0
        exact ⟨[], by simp, fun b _ j u h => by simp at h, fun j x h => by simp at h⟩
      · obtain ⟨ad', cx', g1, g2, g3⟩ := elems_sound hS (sz := i.size) hpos e1' (ys := (f'.xs.drop off).take len) (by simp only [elems, hfk]; rw [if_pos ⟨hn, hsz, by omega⟩])
        obtain ⟨b', q', rfl, g4⟩ := g3 (by intro h; rw [h] at hll; simp at hll; omega)
        obtain ⟨olds, o1, o2, _, o4⟩ := MemRow_list hpos g4
        rw [e2] at g1
        have : base = some ⟨b', q', none⟩ := by simp at g1; exact g1.1
        subst this
        exact ⟨olds, by rw [o1, hll], fun b'' hb'' => by cases hb''; exact o2, o4⟩
    obtain ⟨olds, o1, o2, o3⟩ := hold
    have hll : ((f'.xs.drop off).take len).length = len := by simp; omega
    obtain ⟨us, newCap, r1, r2, r3, r4, r5⟩ := run_append_new (P := P) (ty := o.type) ht hi q2 q3 (fun e => absurd e l4) hlencap o1 hll o2 o3 n1 n2 n4 (c := cx) (by omega) (by omega) (by
      refine Nat.le_trans (Nat.mul_le_mul_right _ ?_) hb
      omega)
    have hE1 := drew_SR hS
    have hx1 := drew_ext hS
    refine ⟨_, .slice (some ⟨E.w.heap.size, 0, none⟩) (len + ys.length) newCap, ({ E with w := E.w.drew } : Env).moveFam k us e off newCap { f' with xs := f'.xs ++ ys }, exec_append ho h1 h2 ?_, .inl rfl,
      hx1.trans (moveFam_ext hE1 hfk _ _ _ _ rfl (by simp; omega)),
      moveFam_SR hE1 hfk rfl (by simp; omega) (by simp; omega) (by simp; omega) r3 (by rw [hsz]; exact r4) ?_, rfl, ?_⟩
    · rw [e2, f1, r1]
      rfl
    · intro j x' hj hx'
      have hx'' : (f'.xs ++ ys)[j]? = some x' := hx'
      rw [hsz]
      refine RowL_FElem (RowL_ext hx1 r5) (j - off) x' ?_
      by_cases hjn : j < n
      · rw [List.getElem?_append_left (by omega)] at hx''
        rw [List.getElem?_append_left (by omega), List.getElem?_take, if_pos (by omega), List.getElem?_drop, show off + (j - off) = j from by omega]
        exact hx''
      · rw [List.getElem?_append_right (by omega)] at hx''
        rw [List.getElem?_append_right (by omega), hll, show j - off - len = j - f'.xs.length from by omega]
        exact hx''
    · simp only [VR, Env.moveFam, upd_same]
      refine ⟨_, _, { f' with xs := f'.xs ++ ys }, rfl, by simp [hk'], by simp [hn], fun _ => ⟨Nat.le_refl _, by omega, by omega, (fun h => nomatch h), fun _ => by simp⟩⟩

end
end Go.Abs

/- Every operation but a call: the abstract step is followed by the model's. -/
namespace Go.Abs
open Go.RowKit (Below)
section
variable {E : Env} {P : Program} {fr : Fr} {a : Act} {o : Oper} {O : Orc} {c : Ctx}

def ROp.isCall : ROp → Bool
  | .call .. | .callv .. => true
  | _ => false

theorem reform_ok {el z : AV} {cs : List AV} (h : el.reform cs = some z) (hl : cs.length = el.cells.length) (hf : ∀ x ∈ cs, x.cells = [x] ∨ ∃ aas, el = .agg aas) : z.cells = cs := by
  cases el <;> simp only [AV.reform] at h
  case agg => cases h; rfl
  all_goals
    simp only [AV.cells, List.length_cons, List.length_nil] at hl
    cases cs with
    | nil => simp at hl
    | cons c r =>
      have hr : r = [] := by simpa using hl
      subst hr
      simp at h
      subst h
      rcases hf c (by simp) with h' | ⟨aas, h'⟩
      · exact h'
      · cases h'

theorem op_does (hS : SR E) (hf : FR E fr a.tmps) {r r0 : ROp} (hr : resOp P o.op = some r0) (hlax : r = r0 ∨ r = r0.lax) {v : AV} {h' : AH} (hev : evalOp O c r fr E.h = some (v, h')) (hnc : r.isCall = false) : Does P a o E v h' := by
  cases hop : o.op with
  | move x =>
    rw [hop] at hr; simp only [resOp, Option.map_eq_some_iff] at hr
    obtain ⟨y, hy, rfl⟩ := hr
    obtain rfl : r = .mov y := by rcases hlax with h | h <;> exact h
    simp only [evalOp] at hev; cases hev
    exact (q_mov hf (.inl hop) hy).does hS
  | assign x =>
    rw [hop] at hr; simp only [resOp, Option.map_eq_some_iff] at hr
    obtain ⟨y, hy, rfl⟩ := hr
    obtain rfl : r = .mov y := by rcases hlax with h | h <;> exact h
    simp only [evalOp] at hev; cases hev
    exact (q_mov hf (.inr hop) hy).does hS
  | pick q x y =>
    rw [hop] at hr; simp only [resOp] at hr
    split at hr
    · rename_i q' x' y' h1 h2 h3
      cases hr
      obtain rfl : r = .pick q' x' y' := by rcases hlax with h | h <;> exact h
      simp only [evalOp] at hev
      split at hev
      · rename_i t ht
        cases hev
        exact (q_pick hf hop h1 h2 h3 ht).does hS
      · cases hev
    · cases hr
  | alloc t =>
    rw [hop] at hr; simp only [resOp, Option.map_eq_some_iff] at hr
    obtain ⟨z, hz, rfl⟩ := hr
    obtain rfl : r = .alloc z := by rcases hlax with h | h <;> exact h
    simp only [evalOp] at hev; cases hev
    exact d_alloc hS hop hz
  | box t x =>
    rw [hop] at hr; simp only [resOp, Option.map_eq_some_iff] at hr
    obtain ⟨y, hy, rfl⟩ := hr
    obtain rfl : r = .box y := by rcases hlax with h | h <;> exact h
    simp only [evalOp] at hev
    split at hev
    · cases hev
    · rename_i ht
      cases hev
      exact d_box hS hf hop hy (by simpa using ht)
  | build t parts =>
    rw [hop] at hr; simp only [resOp] at hr
    split at hr
    · rename_i fs zs hu hz
      split at hr
      · rename_i hs
        simp only [Option.map_eq_some_iff] at hr
        obtain ⟨ps, hp, rfl⟩ := hr
        obtain rfl : r = .build (.agg zs) ps := by rcases hlax with h | h <;> exact h
        simp only [evalOp, AV.cells] at hev
        split at hev
        · rename_i qs hq
          cases hev
          exact (q_build hf hop hu hz hs hp hq).does hS
        · cases hev
      · cases hr
    · cases hr
  | buildSlice t len parts =>
    rw [hop] at hr; simp only [resOp] at hr
    split at hr
    · rename_i e hu
      split at hr
      · rename_i z n ps hz hn hp
        split at hr
        · rename_i hc
          cases hr
          obtain rfl : r = .bslice len z ps := by rcases hlax with h | h <;> exact h
          simp only [evalOp] at hev
          split at hev
          · rename_i xs hx
            cases hev
            exact d_bslice hS hf hop hu hz hn hc.1 hc.2 hp hx
          · cases hev
        · cases hr
      · cases hr
    · cases hr
  | load t x =>
    rw [hop] at hr; simp only [resOp] at hr
    split at hr
    · rename_i b n y hb hn hy
      cases hr
      have key : ∃ w, loadA E.h b n (get fr y) = some w ∧ (w, E.h) = (v, h') := by
        rcases hlax with rfl | rfl
        · simp only [evalOp] at hev
          split at hev
          · rename_i w hw; exact ⟨w, hw, by simpa using hev⟩
          · cases hev
        · simp only [ROp.lax, evalOp] at hev
          split at hev
          · cases hev
          · split at hev
            · rename_i w hw; exact ⟨w, hw, by simpa using hev⟩
            · cases hev
      obtain ⟨w, hw, he⟩ := key
      cases he
      exact (q_ld hS hf hop hb hn hy hw).does hS
    · cases hr
  | store t x y =>
    rw [hop] at hr; simp only [resOp] at hr
    split at hr
    · rename_i n x' y' hn hx hy
      cases hr
      obtain rfl : r = .st n x' y' := by rcases hlax with h | h <;> exact h
      simp only [evalOp] at hev
      split at hev
      · rename_i h1 hst
        cases hev
        unfold storeA at hst
        split at hst
        · rename_i b off hg
          split at hst
          · rename_i cs hcs
            split at hst
            · rename_i hc
              cases hst
              exact d_st_box hS hf hop hn hx hy hg hcs hc.1 hc.2.1 hc.2.2
            · cases hst
          · cases hst
        · rename_i k m i q hg
          split at hst
          · rename_i f hfk
            split at hst
            · rename_i hc
              split at hst
              · rename_i el u hel hu
                split at hst
                · rename_i hl
                  simp only [Option.map_eq_some_iff] at hst
                  obtain ⟨z, hz, rfl⟩ := hst
                  refine d_st_row hS hf hop hn hx hy hg hfk hc.1 hc.2 hel hu hl.1 hl.2 (reform_ok hz (by simp [splice]; omega) fun w hw => ?_)
                  -- the cells of an element, and of a value laid to rest, are single
                  by_cases hag : ∃ aas, el = .agg aas
                  · exact .inr hag
                  · refine .inl ?_
                    have hel1 : el.cells = [el] := by cases el <;> first | rfl | exact absurd ⟨_, rfl⟩ hag
                    rw [hel1] at hw hl
                    simp only [List.length_cons, List.length_nil] at hl
                    have hF := hS.fams k f hfk
                    obtain ⟨hPu, hut⟩ := frz_sound hS (am := false) (ok' := E.ok) ⟨fun _ _ h => h, fun h => by cases h⟩ (opd_sound hf hy) hu
                    obtain ⟨g1, g2⟩ := PV_cells hPu hut
                    have hcell : ∀ {w : AV} {u : Value}, PV E.w E.ok w u → u.oneCell' = true → w.cells = [w] := by
                      intro w u h1 h2
                      cases w <;> first | rfl | (simp only [PV] at h1; obtain ⟨us, rfl, _⟩ := h1; simp [Value.oneCell'] at h2)
                    unfold splice at hw
                    simp only [List.mem_append] at hw
                    rcases hw with (hw | hw) | hw
                    · have := List.mem_of_mem_take hw
                      simp at this; subst this; exact hel1
                    · obtain ⟨j, hj⟩ := List.getElem?_of_mem hw
                      obtain ⟨u', k1, k2⟩ := (PVs_get g1).2 hj
                      exact hcell k2 (g2 u' (List.mem_of_getElem? k1))
                    · have := List.mem_of_mem_drop hw
                      simp at this; subst this; exact hel1
                · cases hst
              · cases hst
            · cases hst
          · cases hst
        · cases hst
      · cases hev
    · cases hr
  | nilCheck x =>
    rw [hop] at hr; simp only [resOp, Option.map_eq_some_iff] at hr
    obtain ⟨y, hy, rfl⟩ := hr
    obtain rfl : r = .nilck y := by rcases hlax with h | h <;> exact h
    simp only [evalOp] at hev
    have : h' = E.h := by split at hev <;> first | (cases hev; rfl) | cases hev
    subst this
    exact (q_nilck hf hop hy hev).does hS
  | binOp op t x y t' =>
    rw [hop] at hr; simp only [resOp] at hr
    split at hr
    · rename_i x' y' hx hy
      have gen : r0 = .bin op x' y' → Does P a o E v h' := by
        intro h; subst h
        obtain rfl : r = .bin op x' y' := by rcases hlax with h | h <;> exact h
        simp only [evalOp] at hev
        split at hev
        · rename_i w hw; cases hev; exact (q_bin hf hop hx hy hw).does hS
        · cases hev
      split at hr
      · rename_i ht
        cases hr
        obtain rfl : r = .beq false x' y' := by rcases hlax with h | h <;> exact h
        simp only [evalOp] at hev
        split at hev
        · rename_i i j hi hj; cases hev; exact (q_beq (neg := false) hf hop ht hx hy hi hj).does hS
        · cases hev
      · rename_i ht
        cases hr
        obtain rfl : r = .beq true x' y' := by rcases hlax with h | h <;> exact h
        simp only [evalOp] at hev
        split at hev
        · rename_i i j hi hj; cases hev; exact (q_beq (neg := true) hf hop ht hx hy hi hj).does hS
        · cases hev
      · rename_i ht
        split at hr
        · cases hr
          obtain rfl : r = .nileq false x' := by rcases hlax with h | h <;> exact h
          simp only [evalOp] at hev
          split at hev
          · rename_i hi; cases hev; exact (q_nileq (neg := false) hf hop ht hx hy hi).does hS
          · cases hev
        · cases hr
      · rename_i ht
        split at hr
        · cases hr
          obtain rfl : r = .nileq true x' := by rcases hlax with h | h <;> exact h
          simp only [evalOp] at hev
          split at hev
          · rename_i hi; cases hev; exact (q_nileq (neg := true) hf hop ht hx hy hi).does hS
          · cases hev
        · cases hr
      · cases hr; exact gen rfl
    · cases hr
  | unOp op t x =>
    rw [hop] at hr; simp only [resOp, Option.map_eq_some_iff] at hr
    obtain ⟨y, hy, rfl⟩ := hr
    obtain rfl : r = .un op y := by rcases hlax with h | h <;> exact h
    simp only [evalOp] at hev
    split at hev
    · rename_i w hw; cases hev; exact (q_un hf hop hy hw).does hS
    · cases hev
  | convert s d x =>
    rw [hop] at hr; simp only [resOp] at hr
    split at hr
    · rename_i k0 k hs hd
      simp only [Option.map_eq_some_iff] at hr
      obtain ⟨y, hy, rfl⟩ := hr
      obtain rfl : r = .conv k y := by rcases hlax with h | h <;> exact h
      simp only [evalOp] at hev
      split at hev
      · rename_i q n hq; cases hev; exact (q_conv hf hop hs hd hy hq).does hS
      · cases hev
    · rename_i hs hd
      simp only [Option.map_eq_some_iff] at hr
      obtain ⟨y, hy, rfl⟩ := hr
      obtain rfl : r = .cstr y := by rcases hlax with h | h <;> exact h
      simp only [evalOp] at hev
      split at hev
      · rename_i n hq; cases hev; exact (q_cstr hf hop hs hd hy hq).does hS
      · cases hev
    · cases hr
  | makeFunc fn first caps =>
    rw [hop] at hr
    cases fn <;> simp only [resOp] at hr <;> try (cases hr; done)
    split at hr
    · rename_i f h0
      simp only [Option.map_eq_some_iff] at hr
      obtain ⟨cs, hc, rfl⟩ := hr
      obtain rfl : r = .clos _ cs := by rcases hlax with h | h <;> exact h
      simp only [evalOp] at hev; cases hev
      exact (q_clos hf hop h0 hc).does hS
    · cases hr
  | makeSlice t l q =>
    rw [hop] at hr; simp only [resOp] at hr
    split at hr
    · rename_i e hu
      split at hr
      · rename_i i z l' q' hi hz hl hq
        split at hr
        · rename_i hpos
          cases hr
          obtain rfl : r = .mkslice z i.bytes l' q' := by rcases hlax with h | h <;> exact h
          simp only [evalOp] at hev
          split at hev
          · rename_i k1 x k2 y hx hy
            split at hev
            · rename_i hc
              cases hev
              exact d_mkslice hS hf hop hu hi hz hpos hl hq hx hy hc.1 hc.2.1 hc.2.2.1 hc.2.2.2
            · cases hev
          · cases hev
        · cases hr
      · cases hr
    · cases hr
  | slice t x lo hi mx =>
    rw [hop] at hr; simp only [resOp] at hr
    split at hr
    · rename_i x' lo' hi' ht hx hlo hhi hmx
      cases hr
      obtain rfl : r = .slc 0 x' lo' hi' none := by rcases hlax with h | h <;> exact h
      have hmn : mx = none := by
        cases mx with
        | none => rfl
        | some m => simp [resOpt] at hmx
      subst hmn
      simp only [evalOp] at hev
      split at hev
      · rename_i l u m hl hu hm
        simp only [boundA] at hm
        cases hm
        split at hev
        · rename_i w hw
          cases hev
          unfold sliceA at hw
          split at hw
          · rename_i s hs
            dsimp only at hw
            split at hw
            · rename_i hc
              cases hw
              exact (q_slc_str hf hop ht hx hlo hhi hs hl hu hc.2.2.1 hc.2.2.2.1 hc.2.2.2.2).does hS
            · cases hw
          · simp at hw
          · split at hw <;> simp at hw
          · cases hw
        · cases hev
      · cases hev
    · rename_i e x' lo' hi' mx' ht hx hlo hhi hmx
      split at hr
      · rename_i n hn
        split at hr
        · rename_i hpos
          cases hr
          obtain rfl : r = .slc n x' lo' hi' mx' := by rcases hlax with h | h <;> exact h
          simp only [evalOp] at hev
          split at hev
          · rename_i l u m hl hu hm
            split at hev
            · rename_i w hw
              cases hev
              unfold sliceA at hw
              split at hw
              · simp [show ¬ n = 0 from by omega] at hw
              · rename_i full z xs hg
                dsimp only at hw
                simp only [hpos, true_and] at hw
                split at hw
                · rename_i hz
                  split at hw
                  · split at hw
                    · rename_i hc
                      cases hw
                      exact (q_slc_vs hf hop ht hn hx hlo hhi hmx hg hl hu hm hz hc.1 hc.2.1 (.inl ⟨rfl, hc.2.2, rfl⟩)).does hS
                    · cases hw
                  · rename_i q
                    split at hw
                    · rename_i hc
                      cases hw
                      exact (q_slc_vs hf hop ht hn hx hlo hhi hmx hg hl hu hm hz hc.2.1 hc.2.2.1 (.inr ⟨q, rfl, hc.1, hc.2.2.2.1, hc.2.2.2.2, rfl⟩)).does hS
                    · cases hw
                · cases hw
              · rename_i k m0 off len hg
                dsimp only at hw
                split at hw
                · rename_i f hfk
                  simp only [hpos, true_and] at hw
                  split at hw
                  · rename_i hz
                    split at hw
                    · split at hw
                      · rename_i hc
                        cases hw
                        exact (q_slc_sl hS hf hop ht hn hx hlo hhi hmx hg hl hu hm hfk hz.1 hz.2 (.inl ⟨rfl, hc.1, hc.2.1, hc.2.2, rfl⟩)).does hS
                      · cases hw
                    · rename_i q
                      split at hw
                      · rename_i hc
                        cases hw
                        obtain ⟨c1, c2, c3, rfl⟩ := hc
                        exact (q_slc_sl hS hf hop ht hn hx hlo hhi hmx hg hl hu hm hfk hz.1 hz.2 (.inr ⟨rfl, c1, c2, c3, rfl⟩)).does hS
                      · cases hw
                  · cases hw
                · cases hw
              · cases hw
            · cases hev
          · cases hev
        · cases hr
      · cases hr
    · cases hr
  | fieldAddr s x i =>
    rw [hop] at hr; simp only [resOp] at hr
    split at hr
    · rename_i fs x' hs hx
      split at hr
      · rename_i f hi
        split at hr
        · rename_i n hn
          split at hr
          · rename_i hpos
            cases hr
            obtain rfl : r = .faddr f.offset x' := by rcases hlax with h | h <;> exact h
            simp only [evalOp] at hev
            have : h' = E.h := by split at hev <;> first | (cases hev; rfl) | cases hev
            subst this
            exact (q_faddr hf hop hs hi hn hpos hx hev).does hS
          · cases hr
        · cases hr
      · cases hr
    · cases hr
  | field s x i =>
    rw [hop] at hr; simp only [resOp] at hr
    split at hr
    · rename_i fs x' hs hx
      split at hr
      · rename_i f hi
        split at hr
        · rename_i b n hb hn
          cases hr
          obtain rfl : r = .fld b f.offset n x' := by rcases hlax with h | h <;> exact h
          simp only [evalOp] at hev
          split at hev
          · rename_i cs hg
            split at hev
            · rename_i w hw; cases hev; exact (q_fld hf hop hs hi hb hn hx hg hw).does hS
            · cases hev
          · cases hev
        · cases hr
      · cases hr
    · cases hr
  | indexAddr t x i =>
    rw [hop] at hr; simp only [resOp] at hr
    split at hr
    · rename_i e x' i' ht hx hi
      split at hr
      · rename_i n hn
        split at hr
        · cases hr
          obtain rfl : r = .iaddr n x' i' := by rcases hlax with h | h <;> exact h
          simp only [evalOp] at hev
          have : h' = E.h := by
            split at hev
            · split at hev
              · split at hev <;> first | (cases hev; rfl) | cases hev
              · cases hev
            · split at hev
              · split at hev <;> first | (cases hev; rfl) | cases hev
              · cases hev
            · cases hev
          subst this
          exact (q_iaddr hS hf hop ht hn hx hi hev).does hS
        · cases hr
      · cases hr
    · cases hr
  | index t x i =>
    rw [hop] at hr; simp only [resOp] at hr
    split at hr
    · rename_i x' i' ht hx hi
      cases hr
      obtain rfl : r = .idx x' i' := by rcases hlax with h | h <;> exact h
      simp only [evalOp] at hev
      split at hev
      · rename_i s q j hg hj
        split at hev
        · rename_i h0
          split at hev
          · rename_i b hb; cases hev; exact (q_idx hf hop ht hx hi hg hj h0 hb).does hS
          · cases hev
        · cases hev
      · cases hev
    · cases hr
  | extract x i =>
    rw [hop] at hr; simp only [resOp, Option.map_eq_some_iff] at hr
    obtain ⟨y, hy, rfl⟩ := hr
    obtain rfl : r = .ext y i := by rcases hlax with h | h <;> exact h
    simp only [evalOp] at hev
    split at hev
    · rename_i vs hg
      split at hev
      · rename_i w hw; cases hev; exact (q_ext hf hop hy hg hw).does hS
      · cases hev
    · cases hev
  | call q =>
    rw [hop] at hr
    obtain ⟨callee, args, ats⟩ := q
    cases callee with
    | invoke x m => simp [resOp] at hr
    | value x =>
      cases x <;> simp only [resOp] at hr <;> try (cases hr; done)
      · simp only [Option.map_eq_some_iff] at hr
        obtain ⟨aas, _, rfl⟩ := hr
        rcases hlax with rfl | rfl <;> simp [ROp.isCall, ROp.lax] at hnc
      · split at hr
        · simp only [Option.map_eq_some_iff] at hr
          obtain ⟨aas, _, rfl⟩ := hr
          rcases hlax with rfl | rfl <;> simp [ROp.isCall, ROp.lax] at hnc
        · cases hr
    | builtin b =>
      cases b <;> simp only [resOp] at hr <;> try (cases hr; done)
      case append =>
        split at hr
        · rename_i s x t u h1 h2
          split at hr
          · rename_i e ht
            split at hr
            · rename_i i z s' x' hi hz hs hx
              split at hr
              · rename_i hc
                cases hr
                obtain ⟨hpos, rfl⟩ := hc
                obtain rfl : r = .app i.size i.bytes s' x' := by rcases hlax with h | h <;> exact h
                simp only [evalOp, appendA] at hev
                split at hev
                · cases hev
                · rename_i ys hys
                  split at hev
                  · rename_i z0 xs hg
                    split at hev
                    · rename_i h0
                      cases hev
                      -- nothing is appended
                      have e1 := opd_sound hf hs
                      have e1' := e1
                      rw [hg] at e1
                      simp only [VR, PV] at e1
                      obtain ⟨base, len, cap, e2, _, e4, _⟩ := e1
                      obtain ⟨ad, cx, f1, _⟩ := elems_sound hS hpos (opd_sound hf hx) hys
                      refine ⟨_, .slice base len cap, E, exec_append hop h1 h2 ?_, .inl rfl, Ext.refl E, hS, rfl, by rw [hg, e2] at e1'; exact e1'⟩
                      rw [e2, f1, h0]
                      exact run_append_zero t _ e i ht hi base ad len cap cx e4 E.w
                    · rename_i h0
                      split at hev
                      · rename_i hb
                        cases hev
                        exact d_app_full hS hf hop h1 h2 ht hi hz hpos hs hx hg hys h0 hb.1 hb.2.1 hb.2.2
                      · cases hev
                  · rename_i k n off len hg
                    split at hev
                    · rename_i f hfk
                      split at hev
                      · rename_i hb
                        cases hev
                        exact d_app_row hS hf hop h1 h2 ht hi hz hpos hs hx hg hys hfk hb.1 hb.2.1 hb.2.2.1 hb.2.2.2.1 hb.2.2.2.2
                      · cases hev
                    · cases hev
                  · cases hev
              · cases hr
            · cases hr
          · cases hr
        · cases hr
      case len =>
        split at hr
        · rename_i x t h1 h2
          split at hr
          · rename_i ht
            simp only [Option.map_eq_some_iff] at hr
            obtain ⟨y, hy, rfl⟩ := hr
            obtain rfl : r = .len true y := by rcases hlax with h | h <;> exact h
            simp only [evalOp] at hev
            split at hev
            · rename_i s hs; cases hev; exact (q_len_str hf hop h1 h2 ht hy hs).does hS
            · cases hev
          · rename_i e ht
            simp only [Option.map_eq_some_iff] at hr
            obtain ⟨y, hy, rfl⟩ := hr
            obtain rfl : r = .len false y := by rcases hlax with h | h <;> exact h
            simp only [evalOp] at hev
            have : h' = E.h := by split at hev <;> first | (cases hev; rfl) | cases hev
            subst this
            exact (q_len hf hop h1 h2 ht hy hev).does hS
          · cases hr
        · cases hr
      case max =>
        split at hr
        · rename_i x y h1
          split at hr
          · rename_i x' y' hx hy
            cases hr
            obtain rfl : r = .max x' y' := by rcases hlax with h | h <;> exact h
            simp only [evalOp] at hev
            split at hev
            · rename_i k i k' j hi hj
              split at hev
              · cases hev; exact (q_max hf hop h1 hx hy hi hj).does hS
              · cases hev
            · cases hev
          · cases hr
        · cases hr
  | _ => rw [hop] at hr; simp [resOp] at hr

end
end Go.Abs

/- Calls: of functions that are pure, of functions that share the heap. -/
namespace Go.Abs
open Go.RowKit (Below)

/-- What a pure function gives, in whatever memory its arguments lie. -/
def PureS (P : Program) (O : Orc) : Prop :=
  ∀ (f : FuncId) (args : List AV) (r : AV), O.pure f args = some r → Program.enterable P f = true ∧
    ∀ (w : World) (ok0 : Nat → Nat → Prop) (vs : Array Value), (∀ b o, ok0 b o → b < w.heap.size) → PVs w ok0 args vs.toList →
      Calls P f vs w fun e w' => ∃ u, e = .returned u ∧ Below w.heap.size w w' ∧ PV w' (fun b o => ok0 b o ∨ (w.heap.size ≤ b ∧ b < w'.heap.size)) r u

/-- What a function that shares the heap does. -/
def RawS (P : Program) (O : Orc) : Prop :=
  ∀ (f : FuncId) (args : List AV) (h : AH) (r : AV) (h' : AH), O.raw f args h = some (r, h') → Program.enterable P f = true ∧
    ∀ (E : Env) (vs : Array Value), SR E → E.h = h → VRs E args vs.toList →
      Calls P f vs E.w fun e w' => ∃ u E', e = .returned u ∧ w' = E'.w ∧ Ext E E' ∧ SR E' ∧ E'.h = h' ∧ VR E' r u

mutual
theorem scalar1_PV {w w' : World} {ok ok' : Nat → Nat → Prop} : ∀ {x : AV} {v : Value}, x.scalar1 = true → PV w ok x v → PV w' ok' x v := by
  intro x v hs h
  cases x <;> simp only [AV.scalar1] at hs <;> first | (cases hs; done) | simpa [PV] using h
end

theorem scalars_PVs {w w' : World} {ok ok' : Nat → Nat → Prop} : ∀ {xs : List AV} {vs : List Value}, (∀ x ∈ xs, x.scalar1 = true) → PVs w ok xs vs → PVs w' ok' xs vs
  | [], vs, _, h => by simpa [PVs] using h
  | x :: xs, vs, hs, h => by
    simp only [PVs] at h ⊢
    obtain ⟨u, us, rfl, h1, h2⟩ := h
    exact ⟨u, us, rfl, scalar1_PV (hs x (by simp)) h1, scalars_PVs (fun y hy => hs y (by simp [hy])) h2⟩

theorem scalar0_PV {w w' : World} {ok ok' : Nat → Nat → Prop} {x : AV} {v : Value} (hs : x.scalar0 = true) (h : PV w ok x v) : PV w' ok' x v := by
  unfold AV.scalar0 at hs
  split at hs
  · rename_i cs
    simp only [PV] at h ⊢
    obtain ⟨us, rfl, h1, h2⟩ := h
    exact ⟨us, rfl, h1, scalars_PVs (by simpa using hs) h2⟩
  · exact scalar1_PV hs h

theorem scalars0_PVs {w w' : World} {ok ok' : Nat → Nat → Prop} : ∀ {xs : List AV} {vs : List Value}, (∀ x ∈ xs, x.scalar0 = true) → PVs w ok xs vs → PVs w' ok' xs vs
  | [], vs, _, h => by simpa [PVs] using h
  | x :: xs, vs, hs, h => by
    simp only [PVs] at h ⊢
    obtain ⟨u, us, rfl, h1, h2⟩ := h
    exact ⟨u, us, rfl, scalar0_PV (hs x (by simp)) h1, scalars0_PVs (fun y hy => hs y (by simp [hy])) h2⟩

theorem scalar_PV {w w' : World} {ok ok' : Nat → Nat → Prop} {x : AV} {v : Value} (hs : x.scalar = true) (h : PV w ok x v) : PV w' ok' x v := by
  unfold AV.scalar at hs
  split at hs
  · rename_i vs
    simp only [PV] at h ⊢
    obtain ⟨us, rfl, h2⟩ := h
    exact ⟨us, rfl, scalars0_PVs (by simpa using hs) h2⟩
  · exact scalar0_PV hs h

theorem frz1_tame {h : AH} {x : AV} (ht : tame1 h x = true) : frz1 h true x = frz1 h false x := by
  cases x <;> simp only [frz1]
  rename_i k n off len
  unfold tame1 at ht
  cases hf : h.fams[k]? with
  | none => rfl
  | some f =>
    simp only [hf] at ht ⊢
    simp [ht]

theorem frzL_tame {h : AH} : ∀ {xs : List AV}, xs.all (tame1 h) = true → frzL h true xs = frzL h false xs
  | [], _ => rfl
  | x :: xs, ht => by
    simp only [List.all_cons, Bool.and_eq_true] at ht
    simp only [frzL, frz1_tame ht.1, frzL_tame ht.2]

theorem frz_tame {h : AH} {x : AV} (ht : tame h x = true) : frz h true x = frz h false x := by
  unfold frz
  split
  · rename_i cs
    rw [frzL_tame (by simpa [tame] using ht)]
  · rename_i hx
    refine frz1_tame ?_
    unfold tame at ht
    split at ht
    · exact absurd rfl (hx _)
    · exact ht

theorem frzAll_tame {h : AH} : ∀ {xs : List AV}, xs.all (tame h) = true → frzAll h true xs = frzAll h false xs
  | [], _ => rfl
  | x :: xs, ht => by
    simp only [List.all_cons, Bool.and_eq_true] at ht
    simp only [frzAll, frz_tame ht.1, frzAll_tame ht.2]

section
variable {E : Env} {P : Program} {fr : Fr} {a : Act} {o : Oper} {O : Orc} {c : Ctx}

theorem call_sound (hP : PureS P O) (hR : RawS P O) (hS : SR E) {f : FuncId} {args : List AV} {vs : Array Value} {r : AV} {h' : AH} (hv : VRs E args vs.toList) (h : callA O c f args E.h = some (r, h')) :
    Program.enterable P f = true ∧ Calls P f vs E.w fun e w' => ∃ u E', e = .returned u ∧ w' = E'.w ∧ Ext E E' ∧ SR E' ∧ E'.h = h' ∧ VR E' r u := by
  unfold callA at h
  split at h
  · obtain ⟨h1, h2⟩ := hR f args E.h r h' h
    exact ⟨h1, h2 E vs hS rfl hv⟩
  · split at h
    · cases h
    · rename_i aas has
      split at h
      · cases h
      · rename_i q hq
        split at h
        · rename_i hc
          cases h
          obtain ⟨h1, h2⟩ := hP f aas r hq
          refine ⟨h1, ?_⟩
          by_cases hs : r.scalar = true
          · have hpv := frzAll_sound hS (am := true) (ok' := fun b _ => b < E.w.heap.size) ⟨fun b o ho => ok_lt hS ho, fun _ b _ _ hb => hb⟩ hv has
            refine (h2 E.w (fun b _ => b < E.w.heap.size) vs (fun _ _ hb => hb) hpv).mono fun e w' ⟨u, he, hb, hu⟩ => ?_
            exact ⟨u, { E with w := w' }, he, rfl, grow_ext hS hb, grow_SR hS hb, rfl, VR_of_PV _ _ (scalar_PV hs hu)⟩
          · have ht : args.all (tame E.h) = true := by simpa [hs] using hc
            rw [frzAll_tame ht] at has
            have hpv := frzAll_sound hS (am := false) (ok' := E.ok) ⟨fun _ _ h => h, fun h => by cases h⟩ hv has
            refine (h2 E.w E.ok vs (fun b o hb => ok_lt hS hb) hpv).mono fun e w' ⟨u, he, hb, hu⟩ => ?_
            have hx := grow_ext hS hb
            refine ⟨u, { E with w := w' }, he, rfl, hx, grow_SR hS hb, rfl, VR_of_PV _ _ (PV_mono (fun b o ho => ⟨?_, rfl⟩) _ _ hu)⟩
            rcases ho with ho | ho
            · exact (hx.cells b o ho).1
            · refine .inr ⟨Nat.le_trans hS.basele ho.1, ho.2, fun i hi => ?_, fun k g hk he => ?_⟩
              · have := (hS.nb_lt hi).2
                show E.nb i ≠ b
                omega
              · have := (hS.im_lt (List.getElem?_eq_some_iff.1 hk).1).2
                have he' : (E.im k).b = b := he
                omega
        · cases h

theorem enter_of {f : FuncId} (he : Program.enterable P f = true) (args : Array Value) (w : World) : (callFunc f args).run P w = .ok (.enter f args) w := by
  unfold Program.enterable at he
  unfold callFunc
  split at he
  · rename_i fn hfn
    simp only [Bool.and_eq_true, Bool.not_eq_true'] at he
    have hne : fn.name ≠ "runtime.NumGoroutine" := by simpa using he.2
    have h1 : fn.body ≠ none := by intro h; rw [h] at he; simp at he
    simp [hfn, hne, h1]
  · cases he

theorem map_form {α β : Type} {f : α → β} {x : Option α} {r : β} (h : x.map f = some r) : ∃ y, r = f y := by
  cases x with
  | none => cases h
  | some y => exact ⟨y, by simpa using h.symm⟩

def isCallOp : Op → Bool
  | .call { callee := .value _, args := _, argTypes := _ } => true
  | _ => false

theorem call_form {p : Op} {r : ROp} (hr : resOp P p = some r) (hp : isCallOp p = false) : r.isCall = false := by
  unfold resOp at hr
  repeat' (split at hr)
  all_goals first
    | (cases hr; done)
    | (cases hr; rfl)
    | (obtain ⟨y, rfl⟩ := map_form hr; rfl)
    | (exfalso; simp [isCallOp] at hp; done)

/-- Every operation: the abstract step is followed by the model's. -/
theorem op_wp (hP : PureS P O) (hR : RawS P O) (hS : SR E) (hf : FR E fr a.tmps) {r r0 : ROp} (hr : resOp P o.op = some r0) (hlax : r = r0 ∨ r = r0.lax) {v : AV} {h' : AH} (hev : evalOp O c r fr E.h = some (v, h'))
    {K : Act → World → Prop} {Q : Exit → Act → World → Prop} (hK : ∀ u E', Ext E E' → SR E' → E'.h = h' → VR E' v u → K (a.put o.dst u) E'.w) : o.wp P a E.w K Q := by
  by_cases hnc : r.isCall = false
  · obtain ⟨nx, u, E', h1, h2, h3, h4, h5, h6⟩ := op_does (c := c) hS hf hr hlax hev hnc
    unfold Oper.wp
    rw [h1]
    rcases h2 with rfl | ⟨rfl, rfl⟩
    · exact hK u E' h3 h4 h5 h6
    · exact hK undef E' h3 h4 h5 h6
  · have hcalls : ∀ (f : FuncId) (vs : Array Value) (args : List AV), VRs E args vs.toList → callA O c f args E.h = some (v, h') → (execOp a.eval o).run P E.w = (callFunc f vs).run P E.w → o.wp P a E.w K Q := by
      intro f vs args hv hc hx
      obtain ⟨h1, h2⟩ := call_sound hP hR hS hv hc
      unfold Oper.wp
      rw [hx, enter_of h1]
      refine Calls.mono h2 fun e w' ⟨u, E', he, hw, k1, k2, k3, k4⟩ => ?_
      subst he; subst hw
      exact hK u E' k1 k2 k3 k4
    by_cases hp : isCallOp o.op = false
    · have h1 := call_form hr hp
      rcases hlax with rfl | rfl
      · exact absurd h1 hnc
      · refine absurd ?_ hnc
        cases r0 <;> first | rfl | exact h1
    · cases hop : o.op <;> rw [hop] at hp hr <;> try (exact absurd rfl hp)
      rename_i q
      obtain ⟨callee, args, ats⟩ := q
      cases callee with
      | invoke x m => exact absurd rfl hp
      | builtin b => exact absurd rfl hp
      | value x =>
        cases x <;> simp only [resOp] at hr <;> try (cases hr; done)
        case tmp t =>
          simp only [Option.map_eq_some_iff] at hr
          obtain ⟨aas, has, rfl⟩ := hr
          obtain rfl : r = .callv (.t t) aas := by rcases hlax with h | h <;> exact h
          simp only [evalOp] at hev
          split at hev
          · rename_i f caps hg
            have hv := hf.val t
            have hg' : fr.getD t undefA = .fn f caps := hg
            rw [hg'] at hv
            simp only [VR] at hv
            obtain ⟨us, e1, e2⟩ := hv
            refine hcalls f (args.map a.eval ++ us) _ ?_ hev ?_
            · have := VRs_append (opds_sound hf has) e2
              simpa using this
            · simp [execOp, hop, resolve, Act.eval, e1, Deferred.ofValue, invoke]
          · cases hev
        case func f =>
          split at hr
          · simp only [Option.map_eq_some_iff] at hr
            obtain ⟨aas, has, rfl⟩ := hr
            obtain rfl : r = .call f aas := by rcases hlax with h | h <;> exact h
            simp only [evalOp] at hev
            refine hcalls f (args.map a.eval) _ (opds_sound hf has) hev ?_
            simp [execOp, hop, resolve, Act.eval, Deferred.ofValue, invoke]
          · cases hr

end
end Go.Abs

namespace Go.Abs
open Go.RowKit (Below)

/-- One operation, its guard looked at. -/
def stepA (O : Orc) (c : Ctx) (o : RO) (fr : Fr) (h : AH) : Option (AV × AH) :=
  match wantedA fr o.guard with
  | some true => evalOp O c o.op fr h
  | some false => some (undefA, h)
  | none => none

theorem evalOps_cons (O : Orc) (c : Ctx) (o : RO) (rest : List RO) (fr : Fr) (h : AH) :
    evalOps O c (o :: rest) fr h = (stepA O c o fr h).bind fun x => evalOps O c rest (put fr o.dst x.1) x.2 := by
  unfold stepA
  simp only [evalOps]
  cases wantedA fr o.guard with
  | none => rfl
  | some b =>
    cases b with
    | false => rfl
    | true =>
      dsimp only
      cases evalOp O c o.op fr h with
      | none => rfl
      | some x => rfl

/-- A resolved operation and the one that it stands for. -/
structure RORel (P : Program) (ops : List Oper) (o : Oper) (ro : RO) : Prop where
  dst : ro.dst = o.dst
  guard : resGuard ops o.guard = some ro.guard
  op : ∃ r0, resOp P o.op = some r0 ∧ (ro.op = r0 ∨ ro.op = r0.lax)

theorem resRO_rel {P : Program} {ops : List Oper} {o : Oper} {ro : RO} (h : resRO P ops o = some ro) : RORel P ops o ro := by
  unfold resRO at h
  split at h
  · rename_i r g h1 h2
    cases h
    exact ⟨rfl, h2, r, h1, .inl rfl⟩
  · cases h

theorem RORel.lax {P : Program} {ops : List Oper} {o : Oper} {ro : RO} (h : resRO P ops o = some ro) : RORel P ops o ro.lax := by
  unfold resRO at h
  split at h
  · rename_i r g h1 h2
    cases h
    exact ⟨rfl, h2, r, h1, .inr rfl⟩
  · cases h

section
variable {P : Program} {O : Orc} {c : Ctx}

theorem wanted_sound {E : Env} {fr : Fr} {a : Act} (hf : FR E fr a.tmps) {ops : Array Oper} {o : Oper} {g : Option (Nat × Bool)} (hg : resGuard ops.toList o.guard = some g) {b : Bool} (hw : wantedA fr g = some b) :
    Region.wanted o (yielded ops a.tmps) = b := by
  unfold resGuard at hg
  unfold Region.wanted
  split at hg
  · rename_i h0
    cases hg
    simp [wantedA] at hw
    simp [h0, hw]
  · rename_i j want h0
    split at hg
    · rename_i o' ho'
      split at hg
      · rename_i d hd
        cases hg
        have hv := hf.val d
        have hy : ((ops[j]?).bind (·.dst)) = some d := by
          have : ops[j]? = some o' := by simpa using ho'
          simp [this, hd]
        simp only [h0]
        simp only [wantedA] at hw
        unfold yielded
        simp only [hy, Option.bind_some]
        split at hw
        · rename_i b' hb
          cases hw
          rw [hb] at hv
          simp only [VR] at hv
          have : a.tmps[d]? = some (.bool b') := by
            rw [Array.getD_eq_getD_getElem?] at hv
            cases h1 : a.tmps[d]? with
            | none => rw [h1] at hv; simp [undef] at hv
            | some u => rw [h1] at hv; simpa using hv
          simp only [this]
          cases b' <;> cases want <;> rfl
        · rename_i vs hb
          cases hw
          rw [hb] at hv
          simp only [VR] at hv
          obtain ⟨us, e, _⟩ := hv
          have : ∀ b', a.tmps[d]? ≠ some (.bool b') := by
            intro b' h1
            rw [Array.getD_eq_getD_getElem?, h1] at e
            simp at e
          cases h1 : a.tmps[d]? with
          | none => rfl
          | some u =>
            cases u <;> first | rfl | exact absurd h1 (this _)
        · cases hw
      · cases hg
    · cases hg

theorem step_wp (hP : PureS P O) (hR : RawS P O) {E : Env} {fr : Fr} {a : Act} (hS : SR E) (hf : FR E fr a.tmps) {ops : Array Oper} {o : Oper} {ro : RO} (hr : RORel P ops.toList o ro) {v : AV} {h' : AH} (hev : stepA O c ro fr E.h = some (v, h'))
    {K : Act → World → Prop} {Q : Exit → Act → World → Prop} (hK : ∀ u E', Ext E E' → SR E' → E'.h = h' → VR E' v u → K (a.put o.dst u) E'.w) :
    if Region.wanted o (yielded ops a.tmps) then o.wp P a E.w K Q else K (a.put o.dst undef) E.w := by
  unfold stepA at hev
  split at hev
  · rename_i hw
    rw [if_pos (wanted_sound hf hr.guard hw)]
    obtain ⟨r0, h1, h2⟩ := hr.op
    exact op_wp hP hR hS hf h1 h2 hev hK
  · rename_i hw
    cases hev
    have := wanted_sound hf hr.guard hw
    rw [if_neg (by simp [this])]
    exact hK undef E (Ext.refl E) hS rfl (VR_undef E)
  · cases hev

theorem ops_text (hP : PureS P O) (hR : RawS P O) {ops : Array Oper} {Q : Exit → Act → World → Prop} :
    ∀ (l : List Oper) (ros : List RO), ros.length = l.length → (∀ (i : Nat) (o : Oper) (ro : RO), l[i]? = some o → ros[i]? = some ro → RORel P ops.toList o ro) →
      ∀ (E : Env) (fr : Fr) (a : Act) (fr' : Fr) (h' : AH), SR E → FR E fr a.tmps → evalOps O c ros fr E.h = some (fr', h') →
        (∀ a' E', Ext E E' → SR E' → E'.h = h' → FR E' fr' a'.tmps → a'.defers = a.defers → Q .normal a' E'.w) → wpList P ops Q l a E.w
  | [], ros, hl, _, E, fr, a, fr', h', hS, hf, hev, hQ => by
    have : ros = [] := List.eq_nil_of_length_eq_zero (by simpa using hl)
    subst this
    simp only [evalOps] at hev
    cases hev
    exact hQ a E (Ext.refl E) hS rfl hf rfl
  | o :: l, ros, hl, hrel, E, fr, a, fr', h', hS, hf, hev, hQ => by
    cases ros with
    | nil => simp at hl
    | cons ro ros =>
      rw [evalOps_cons, Option.bind_eq_some_iff] at hev
      obtain ⟨⟨v, h1⟩, hst, hrest⟩ := hev
      have hr := hrel 0 o ro rfl rfl
      have := step_wp (Q := Q) hP hR hS hf hr hst (K := wpList P ops Q l) (fun u E' hx hS' he hv => by
        refine ops_text hP hR l ros (by simpa using hl) (fun i o' ro' h1 h2 => hrel (i + 1) o' ro' (by simpa using h1) (by simpa using h2)) E' (put fr ro.dst v) (a.put o.dst u) fr' h' hS' ?_ (by rw [he]; exact hrest) fun a' E'' hx' hS'' he' hf' hd => ?_
        · rw [hr.dst]; exact FR.put (FR.ext hx hf) o.dst hv
        · refine hQ a' E'' (hx.trans hx') hS'' he' hf' (hd.trans ?_)
          cases o.dst <;> rfl)
      unfold wpList
      split
      · rename_i hw; rw [if_pos hw] at this; exact .inl this
      · rename_i hw; rw [if_neg hw] at this; exact this

end
end Go.Abs
