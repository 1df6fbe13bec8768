/- Rows of the abstract heap: a new row, a row that is written or grows in its place, a row that moves. -/
import Derived.WalkKit
/- An abstract interpreter for resolved code: pure immutable slices as lists, boxes and growable rows as an abstract heap, calls by an oracle. Definitions only. -/
namespace Go.Abs

/-- Abstract values. `vs`: an immutable slice (its elements are pure, of sz cells each; `full`: no spare capacity); `sl k n off len`: a view of row k, valid while the row has n elements; `pv`: the address of immutable cells; `ep k n i c`: cell c of element i of row k; `ptr b off`: cell of box b. -/
inductive AV where
  | junk
  | bool (b : Bool)
  | int (k : IntKind) (n : Int)
  | str (s : ByteArray)
  | agg (cs : List AV)
  | tup (vs : List AV)
  | vs (full : Bool) (sz : Nat) (xs : List AV)
  | sl (k n off len : Nat)
  | pv (cs : List AV)
  | ep (k n i c : Nat)
  | ptr (b off : Nat)
  | nilp
  | fn (f : FuncId) (caps : List AV)
  | nilf
  deriving Inhabited

def AV.cells : AV → List AV
  | .agg cs => cs
  | v => [v]

def undefA : AV := .tup []

/-- A value of several results, or none. -/
def AV.isTup : AV → Bool
  | .tup _ => true
  | _ => false

structure Fam where
  xs : List AV
  sz : Nat
  wr : Bool

structure AH where
  boxes : List (List AV)
  fams : List Fam

def AH.empty : AH := ⟨[], []⟩

inductive Opd where
  | t (n : Nat)
  | c (v : AV)

inductive ROp where
  | mov (x : Opd)
  | pick (c a b : Opd)
  | box (x : Opd)
  | alloc (z : AV)
  | build (z : AV) (parts : List (Nat × Nat × Opd))
  | bslice (n : Nat) (z : AV) (parts : List (Nat × Opd))
  | ld (agg : Bool) (n : Nat) (x : Opd)
  | ldb (agg : Bool) (n : Nat) (x : Opd)
  | st (n : Nat) (a x : Opd)
  | nilck (x : Opd)
  | bin (op : BinOp) (x y : Opd)
  | beq (neg : Bool) (x y : Opd)
  | nileq (neg : Bool) (x : Opd)
  | un (op : UnOp) (x : Opd)
  | conv (k : IntKind) (x : Opd)
  | cstr (x : Opd)
  | clos (f : FuncId) (caps : List Opd)
  | mkslice (z : AV) (bytes : Nat) (len cap : Opd)
  | slc (sz : Nat) (x : Opd) (lo hi mx : Option Opd)
  | faddr (off : Nat) (x : Opd)
  | fld (agg : Bool) (off n : Nat) (x : Opd)
  | iaddr (sz : Nat) (x i : Opd)
  | idx (x i : Opd)
  | ext (x : Opd) (i : Nat)
  | len (str : Bool) (x : Opd)
  | app (sz bytes : Nat) (s x : Opd)
  | max (x y : Opd)
  | call (f : FuncId) (args : List Opd)
  | callv (x : Opd) (args : List Opd)

structure RO where
  dst : Option Nat
  op : ROp
  guard : Option (Nat × Bool)

inductive RCode where
  | skip
  | region (draw : Bool) (ops : List RO)
  | seq (a b : RCode)
  | cond (c : Opd) (a b : RCode)
  | block (id : Nat) (a : RCode)
  | loop (a : RCode)
  | exit (id : Nat)
  | ret

inductive RRes where
  | tmp (t : Nat)
  | cell (a : Nat) (agg : Bool) (n : Nat)

structure RFunc where
  ntmps : Nat
  results : List RRes
  body : RCode

inductive Ex where
  | normal
  | exit (id : Nat)
  | ret

abbrev Fr := List AV
abbrev St := Fr × AH

/-- What evaluation asks for: calls of pure functions, calls that share the heap, loops. -/
structure Orc where
  pure : FuncId → List AV → Option AV
  raw : FuncId → List AV → AH → Option (AV × AH)
  loop : (St → Option (Ex × St)) → St → Option (Ex × St)

/-- Settings of one function: which callees share the heap; whether rows that its appends begin may be written to. -/
structure Ctx where
  raw : FuncId → Bool
  mutApp : Bool

def get (fr : Fr) : Opd → AV
  | .t n => fr.getD n undefA
  | .c v => v

def put (fr : Fr) (dst : Option Nat) (v : AV) : Fr :=
  match dst with
  | some d => fr.set d v
  | none => fr

def ofCells (agg : Bool) (n : Nat) (cs : List AV) : Option AV :=
  match agg with
  | true => if n ≤ cs.length then some (.agg (cs.take n)) else none
  | false => cs.head?

def AV.reform (x : AV) (cs : List AV) : Option AV :=
  match x with
  | .agg _ => some (.agg cs)
  | _ => cs.head?

/-- The elements of a slice that can be read. -/
def elems (h : AH) (sz : Nat) : AV → Option (List AV)
  | .vs _ z xs => if z = sz ∨ xs.length = 0 then some xs else none
  | .sl k n off len =>
    match h.fams[k]? with
    | some f => if f.xs.length = n ∧ f.sz = sz ∧ off + len ≤ n then some ((f.xs.drop off).take len) else none
    | none => none
  | _ => none

/-- A value (of one cell) laid to rest: a view of a row becomes its elements. `am`: views of rows that may be written to are let. -/
def AV.flat : AV → Bool
  | .sl .. | .ep .. | .ptr .. | .agg _ | .tup _ => false
  | .fn _ cs => cs.isEmpty
  | _ => true

def frz1 (h : AH) (am : Bool) : AV → Option AV
  | .sl k n off len =>
    match h.fams[k]? with
    | some f => if f.xs.length = n ∧ off + len ≤ n ∧ (am || !f.wr) = true then some (.vs false f.sz ((f.xs.drop off).take len)) else none
    | none => none
  | .ep .. => none
  | .ptr .. => none
  | .agg _ => none
  | .tup _ => none
  | .fn f caps => if caps.all AV.flat then some (.fn f caps) else none
  | x => some x

def frzL (h : AH) (am : Bool) : List AV → Option (List AV)
  | [] => some []
  | x :: xs => (frz1 h am x).bind fun y => (frzL h am xs).map (y :: ·)

def frz (h : AH) (am : Bool) : AV → Option AV
  | .agg cs => (frzL h am cs).map .agg
  | x => frz1 h am x

def frzAll (h : AH) (am : Bool) : List AV → Option (List AV)
  | [] => some []
  | x :: xs => (frz h am x).bind fun y => (frzAll h am xs).map (y :: ·)

/-- A result laid to rest. -/
def frzRes (h : AH) : AV → Option AV
  | .tup vs => (frzAll h true vs).map .tup
  | x => frz h true x

def AV.scalar1 : AV → Bool
  | .bool _ | .int .. | .str _ | .nilp | .nilf => true
  | _ => false

def AV.scalar0 : AV → Bool
  | .agg cs => cs.all AV.scalar1
  | v => v.scalar1

def AV.scalar : AV → Bool
  | .tup us => us.all AV.scalar0
  | v => v.scalar0

/-- No view of a row that may be written to. -/
def tame1 (h : AH) : AV → Bool
  | .sl k _ _ _ => match h.fams[k]? with | some f => !f.wr | none => false
  | _ => true

def tame (h : AH) : AV → Bool
  | .agg cs => cs.all (tame1 h)
  | v => tame1 h v

def loadA (h : AH) (agg : Bool) (n : Nat) : AV → Option AV
  | .pv cs => ofCells agg n cs
  | .ptr b off =>
    match h.boxes[b]? with
    | some cs => ofCells agg n (cs.drop off)
    | none => none
  | .ep k m i c =>
    match h.fams[k]? with
    | some f => if f.xs.length = m then (match f.xs[i]? with | some x => ofCells agg n (x.cells.drop c) | none => none) else none
    | none => none
  | _ => none

def splice (cs : List AV) (off : Nat) (new : List AV) : List AV := cs.take off ++ new ++ cs.drop (off + new.length)

def storeA (h : AH) (n : Nat) (v : AV) : AV → Option AH
  | .ptr b off =>
    match h.boxes[b]? with
    | some cs => if v.isTup = false ∧ v.cells.length = n ∧ off + n ≤ cs.length then some { h with boxes := h.boxes.set b (splice cs off v.cells) } else none
    | none => none
  | .ep k m i c =>
    match h.fams[k]? with
    | some f =>
      if f.xs.length = m ∧ f.wr = true then
        match f.xs[i]?, frz h false v with
        | some x, some u =>
          if u.cells.length = n ∧ c + n ≤ x.cells.length then
            (x.reform (splice x.cells c u.cells)).map fun y => { h with fams := h.fams.set k { f with xs := f.xs.set i y } }
          else none
        | _, _ => none
      else none
    | none => none
  | _ => none

def evalBin (op : BinOp) : AV → AV → Option AV
  | .int k a, .int k' b =>
    match op with
    | .add => if k = k' then some (.int k (k.wrap (a + b))) else none
    | .sub => if k = k' then some (.int k (k.wrap (a - b))) else none
    | .mul => if k = k' then some (.int k (k.wrap (a * b))) else none
    | .quo => if k = k' ∧ b ≠ 0 then some (.int k (k.wrap (a.tdiv b))) else none
    | .rem => if k = k' ∧ b ≠ 0 then some (.int k (a.tmod b)) else none
    | .eql => if k = k' then some (.bool (a == b)) else none
    | .neq => if k = k' then some (.bool (a != b)) else none
    | .lss => if k = k' then some (.bool (decide (a < b))) else none
    | .leq => if k = k' then some (.bool (decide (a ≤ b))) else none
    | .gtr => if k = k' then some (.bool (decide (a > b))) else none
    | .geq => if k = k' then some (.bool (decide (a ≥ b))) else none
    | .shl => if 0 ≤ b then some (.int k (k.wrap (a * 2 ^ (min b.toNat k.bits)))) else none
    | .shr => if 0 ≤ b then some (.int k (a.fdiv (2 ^ (min b.toNat k.bits)))) else none
    | .and => if k = k' then some (.int k (k.wrap (BitVec.ofInt k.bits a &&& BitVec.ofInt k.bits b).toNat)) else none
    | .or => if k = k' then some (.int k (k.wrap (BitVec.ofInt k.bits a ||| BitVec.ofInt k.bits b).toNat)) else none
    | .xor => if k = k' then some (.int k (k.wrap (BitVec.ofInt k.bits a ^^^ BitVec.ofInt k.bits b).toNat)) else none
    | _ => none
  | .str a, .str b =>
    match op with
    | .add => if ((a.size + b.size : Nat) : Int) > IntKind.i64.max then none else some (.str (a ++ b))
    | .eql => some (.bool (a.toList == b.toList))
    | .neq => some (.bool !(a.toList == b.toList))
    | .lss => some (.bool (Op.bytesLess a.toList b.toList))
    | .leq => some (.bool (Op.bytesLess a.toList b.toList || a.toList == b.toList))
    | .gtr => some (.bool !(Op.bytesLess a.toList b.toList || a.toList == b.toList))
    | .geq => some (.bool !(Op.bytesLess a.toList b.toList))
    | _ => none
  | _, _ => none

def evalUn (op : UnOp) : AV → Option AV
  | .bool b => match op with | .not => some (.bool !b) | _ => none
  | .int k n => match op with | .neg => some (.int k (k.wrap (0 - n))) | _ => none
  | _ => none

def fillParts (cs : List AV) : List (Nat × AV) → List AV
  | [] => cs
  | (off, v) :: rest => fillParts (splice cs off v.cells) rest

/-- The parts of a struct that is built: offset, size, value. -/
def buildParts (fr : Fr) (len : Nat) : List (Nat × Nat × Opd) → Option (List (Nat × AV))
  | [] => some []
  | (off, n, x) :: rest =>
    if (get fr x).isTup = false ∧ (get fr x).cells.length = n ∧ off + n ≤ len then (buildParts fr len rest).map ((off, get fr x) :: ·) else none

def sliceParts (fr : Fr) (h : AH) (xs : List AV) : List (Nat × Opd) → Option (List AV)
  | [] => some xs
  | (i, x) :: rest =>
    match xs[i]?, frz h false (get fr x) with
    | some z, some y => if y.cells.length = z.cells.length then sliceParts fr h (xs.set i y) rest else none
    | _, _ => none

def boundA (fr : Fr) : Option Opd → Option (Option Int)
  | none => some none
  | some x => match get fr x with | .int _ i => some (some i) | _ => none

def sliceA (H : AH) (sz : Nat) (x : AV) (lo hi mx : Option Int) : Option AV :=
  match x with
  | .str s =>
    let l := lo.getD 0
    let h := hi.getD s.size
    if sz = 0 ∧ mx = none ∧ 0 ≤ l ∧ l ≤ h ∧ h ≤ s.size then some (.str (s.extract l.toNat h.toNat)) else none
  | .vs full z xs =>
    let l := lo.getD 0
    let h := hi.getD xs.length
    if 0 < sz ∧ (z = sz ∨ xs.length = 0) then
      match mx with
      | none =>
        if 0 ≤ l ∧ l ≤ h ∧ h ≤ xs.length then some (.vs (full && decide (h = xs.length)) z ((xs.drop l.toNat).take (h - l).toNat)) else none
      | some m =>
        if hi.isSome ∧ 0 ≤ l ∧ l ≤ h ∧ h ≤ m ∧ m ≤ xs.length then some (.vs (decide (m = h)) z ((xs.drop l.toNat).take (h - l).toNat)) else none
    else none
  | .sl k n off len =>
    let l := lo.getD 0
    let h := hi.getD len
    match H.fams[k]? with
    | some f =>
      if 0 < sz ∧ f.sz = sz ∧ f.xs.length = n then
        match mx with
        | none => if 0 ≤ l ∧ l ≤ h ∧ h ≤ len then some (.sl k n (off + l.toNat) (h - l).toNat) else none
        | some m => if hi.isSome ∧ l = 0 ∧ h = 0 ∧ m = 0 then some (.vs true sz []) else none
      else none
    | none => none
  | _ => none

def roomA : Nat := 140737488355328

def appendA (c : Ctx) (h : AH) (sz bytes : Nat) (s x : AV) : Option (AV × AH) :=
  match elems h sz x with
  | none => none
  | some ys =>
    match s with
    | .vs true z xs =>
      if ys.length = 0 then some (.vs true z xs, h)
      else if (z = sz ∨ xs.length = 0) ∧ (xs.length + ys.length) * bytes ≤ roomA ∧ xs.length + ys.length ≤ maxLen then
        some (.sl h.fams.length (xs.length + ys.length) 0 (xs.length + ys.length), { h with fams := h.fams ++ [⟨xs ++ ys, sz, c.mutApp⟩] })
      else none
    | .sl k n off len =>
      match h.fams[k]? with
      | some f =>
        if f.xs.length = n ∧ f.sz = sz ∧ off + len = n ∧ (n + ys.length) * bytes ≤ roomA ∧ n + ys.length ≤ maxLen then
          some (.sl k (n + ys.length) off (len + ys.length), { h with fams := h.fams.set k { f with xs := f.xs ++ ys } })
        else none
      | none => none
    | _ => none

def callA (O : Orc) (c : Ctx) (f : FuncId) (args : List AV) (h : AH) : Option (AV × AH) :=
  if c.raw f then O.raw f args h
  else
    match frzAll h true args with
    | none => none
    | some aas =>
      match O.pure f aas with
      | none => none
      | some r => if r.scalar || args.all (tame h) then some (r, h) else none

def evalOp (O : Orc) (c : Ctx) (o : ROp) (fr : Fr) (h : AH) : Option (AV × AH) :=
  match o with
  | .mov x => some (get fr x, h)
  | .pick q a b => match get fr q with | .bool t => some (if t then get fr a else get fr b, h) | _ => none
  | .box x => if (get fr x).isTup then none else some (.ptr h.boxes.length 0, { h with boxes := h.boxes ++ [(get fr x).cells] })
  | .alloc z => some (.ptr h.boxes.length 0, { h with boxes := h.boxes ++ [z.cells] })
  | .build z parts => match buildParts fr z.cells.length parts with | some ps => some (.agg (fillParts z.cells ps), h) | none => none
  | .bslice n z parts => match sliceParts fr h (List.replicate n z) parts with | some xs => some (.vs true z.cells.length xs, h) | none => none
  | .ldb agg n x => match get fr x with | .ep .. => none | p => (match loadA h agg n p with | some v => some (v, h) | none => none)
  | .ld agg n x => match loadA h agg n (get fr x) with | some v => some (v, h) | none => none
  | .st n a x => match storeA h n (get fr x) (get fr a) with | some h' => some (undefA, h') | none => none
  | .nilck x => match get fr x with | .pv cs => some (.pv cs, h) | .ptr b o => some (.ptr b o, h) | .ep k n i q => some (.ep k n i q, h) | .fn f cs => some (.fn f cs, h) | _ => none
  | .bin op x y => match evalBin op (get fr x) (get fr y) with | some v => some (v, h) | none => none
  | .beq neg x y => match get fr x, get fr y with | .bool a, .bool b => some (.bool (if neg then !(a == b) else a == b), h) | _, _ => none
  | .nileq neg x => match get fr x with | .vs _ z _ => some (.bool (if neg then !(z == 0) else z == 0), h) | _ => none
  | .un op x => match evalUn op (get fr x) with | some v => some (v, h) | none => none
  | .conv k x => match get fr x with | .int _ n => some (.int k (k.wrap n), h) | _ => none
  | .cstr x => match get fr x with | .str s => some (.str s, h) | _ => none
  | .clos f caps => some (.fn f (caps.map (get fr)), h)
  | .mkslice z bytes l q =>
    match get fr l, get fr q with
    | .int _ a, .int _ b =>
      if 0 ≤ a ∧ a ≤ b ∧ b * bytes ≤ roomA ∧ b ≤ maxLen then
        some (.sl h.fams.length a.toNat 0 a.toNat, { h with fams := h.fams ++ [⟨List.replicate a.toNat z, z.cells.length, true⟩] })
      else none
    | _, _ => none
  | .slc sz x lo hi mx =>
    match boundA fr lo, boundA fr hi, boundA fr mx with
    | some l, some u, some m => match sliceA h sz (get fr x) l u m with | some v => some (v, h) | none => none
    | _, _, _ => none
  | .faddr off x => match get fr x with | .pv cs => some (.pv (cs.drop off), h) | .ptr b o => some (.ptr b (o + off), h) | .ep k n i q => some (.ep k n i (q + off), h) | _ => none
  | .fld agg off n x => match get fr x with | .agg cs => (match ofCells agg n (cs.drop off) with | some v => some (v, h) | none => none) | _ => none
  | .iaddr sz x i =>
    match get fr x, get fr i with
    | .vs _ z xs, .int _ j => if 0 ≤ j ∧ z = sz then (match xs[j.toNat]? with | some e => some (.pv e.cells, h) | none => none) else none
    | .sl k n off len, .int _ j =>
      match h.fams[k]? with
      | some f => if 0 ≤ j ∧ j < len ∧ f.sz = sz ∧ f.xs.length = n then some (.ep k n (off + j.toNat) 0, h) else none
      | none => none
    | _, _ => none
  | .idx x i =>
    match get fr x, get fr i with
    | .str s, .int _ j => if 0 ≤ j then (match s[j.toNat]? with | some b => some (.int .u8 b.toNat, h) | none => none) else none
    | _, _ => none
  | .ext x i => match get fr x with | .tup vs => (match vs[i]? with | some v => some (v, h) | none => none) | _ => none
  | .len true x => match get fr x with | .str s => some (.int .i64 s.size, h) | _ => none
  | .len false x =>
    match get fr x with
    | .vs _ _ xs => some (.int .i64 xs.length, h)
    | .sl _ _ _ len => some (.int .i64 len, h)
    | _ => none
  | .app sz bytes s x => appendA c h sz bytes (get fr s) (get fr x)
  | .max x y => match get fr x, get fr y with | .int k a, .int k' b => if k = k' then some (.int k (if b > a then b else a), h) else none | _, _ => none
  | .call f args => callA O c f (args.map (get fr)) h
  | .callv x args => match get fr x with | .fn f caps => callA O c f (args.map (get fr) ++ caps) h | _ => none

/-- Is an operation to be carried out? (`none`: it can't be told.) -/
def wantedA (fr : Fr) : Option (Nat × Bool) → Option Bool
  | none => some true
  | some (s, want) =>
    match fr.getD s undefA with
    | .bool b => some (b == want)
    | .tup _ => some false
    | _ => none

def evalOps (O : Orc) (c : Ctx) : List RO → Fr → AH → Option (Fr × AH)
  | [], fr, h => some (fr, h)
  | o :: rest, fr, h =>
    match wantedA fr o.guard with
    | some true =>
      match evalOp O c o.op fr h with
      | some (v, h') => evalOps O c rest (put fr o.dst v) h'
      | none => none
    | some false => evalOps O c rest (put fr o.dst undefA) h
    | none => none

def evalCode (O : Orc) (c : Ctx) : RCode → St → Option (Ex × St)
  | .skip, s => some (.normal, s)
  | .region _ ops, s =>
    match evalOps O c ops s.1 s.2 with
    | some s' => some (.normal, s')
    | none => none
  | .seq a b, s =>
    match evalCode O c a s with
    | some (.normal, s') => evalCode O c b s'
    | r => r
  | .cond q a b, s =>
    match get s.1 q with
    | .bool true => evalCode O c a s
    | .bool false => evalCode O c b s
    | _ => none
  | .block id a, s =>
    match evalCode O c a s with
    | some (.exit id', s') => if id' = id then some (.normal, s') else some (.exit id', s')
    | r => r
  | .loop a, s => O.loop (evalCode O c a) s
  | .exit id, s => some (.exit id, s)
  | .ret, s => some (.ret, s)

def resA (fr : Fr) (h : AH) : List RRes → Option (List AV)
  | [] => some []
  | .tmp t :: rest => (resA fr h rest).map (fr.getD t undefA :: ·)
  | .cell a agg n :: rest => (loadA h agg n (fr.getD a undefA)).bind fun v => (resA fr h rest).map (v :: ·)

def tupled : List AV → AV
  | [v] => v
  | vs => .tup vs

/-- What a program's functions are, and their settings. `spec`: functions taken by a contract. -/
structure Cfg where
  code : FuncId → Option RFunc
  ctx : FuncId → Ctx
  spec : FuncId → Option (List AV → Option AV)

def startFr (rf : RFunc) (args : List AV) : Fr := args ++ List.replicate (rf.ntmps - args.length) undefA

def evalBody (O : Orc) (c : Ctx) (rf : RFunc) (args : List AV) (h : AH) : Option (AV × AH) :=
  match evalCode O c rf.body (startFr rf args, h) with
  | some (.normal, s) => (resA s.1 s.2 rf.results).map fun vs => (tupled vs, s.2)
  | some (.ret, s) => (resA s.1 s.2 rf.results).map fun vs => (tupled vs, s.2)
  | _ => none

def rawA (C : Cfg) (O : Orc) (f : FuncId) (args : List AV) (h : AH) : Option (AV × AH) :=
  match C.code f with
  | some rf => evalBody O (C.ctx f) rf args h
  | none => none

def pureA (C : Cfg) (O : Orc) (f : FuncId) (args : List AV) : Option AV :=
  match C.spec f with
  | some s => s args
  | none =>
    match rawA C O f args AH.empty with
    | some (r, h) => frzRes h r
    | none => none

def iter (step : St → Option (Ex × St)) : Nat → St → Option (Ex × St)
  | 0, _ => none
  | n + 1, s =>
    match step s with
    | some (.normal, s') => iter step n s'
    | r => r

def orc (C : Cfg) : Nat → Orc
  | 0 => ⟨fun _ _ => none, fun _ _ _ => none, fun _ _ => none⟩
  | n + 1 => ⟨pureA C (orc C n), rawA C (orc C n), fun step s => iter step (n + 1) s⟩

end Go.Abs

/- The resolved form of a program's functions: types looked up, operands laid out; a statement whose order is open is let only where each pair of operations that could disturb each other is ordered. -/
namespace Go.Abs

def constAV1 : Value → Option AV
  | .bool b => some (.bool b)
  | .int k n => some (.int k n)
  | .string s => some (.str s)
  | .slice none 0 0 => some (.vs true 0 [])
  | .pointer none => some .nilp
  | .nilFunc => some .nilf
  | .func (.func f) a b => if a.size = 0 ∧ b.size = 0 then some (.fn f []) else none
  | _ => none

def mapO {α β : Type} (f : α → Option β) : List α → Option (List β)
  | [] => some []
  | x :: xs => match f x, mapO f xs with | some y, some ys => some (y :: ys) | _, _ => none

def constAV : Value → Option AV
  | .agg cs => (mapO constAV1 cs.toList).map .agg
  | .tuple vs => if vs.size = 0 then some (.tup []) else none
  | v => constAV1 v

def resOpd : Operand → Option Opd
  | .tmp t => some (.t t)
  | .const v => (constAV v).map .c
  | .func f => some (.c (.fn f []))
  | .global _ => none

def resOpt : Option Operand → Option (Option Opd)
  | none => some none
  | some x => (resOpd x).map some

def Program.agg? (P : Program) (t : TypeId) : Option Bool :=
  match P.underlying t with
  | some (.struct _) | some (.array _ _) => some true
  | some _ => some false
  | none => none

def Program.size? (P : Program) (t : TypeId) : Option Nat := (P.info? t).map (·.size)

/-- The zero value, where its number of cells is the type's. -/
def Program.zeroA (P : Program) (t : TypeId) : Option AV :=
  match P.info? t with
  | some i =>
    match i.zero with
    | some z =>
      match constAV z with
      | some x => if z.cells.size = i.size ∧ x.isTup = false then some x else none
      | none => none
    | none => none
  | none => none

def Program.enterable (P : Program) (f : FuncId) : Bool :=
  match P.funcs[f]? with
  | some fn => fn.body.isSome && !(fn.name == "runtime.NumGoroutine")
  | none => false

def resPart (P : Program) (fs : Array Field) (p : Nat × Operand) : Option (Nat × Nat × Opd) :=
  match fs[p.1]?, resOpd p.2 with
  | some f, some x => match Program.size? P f.type with | some n => some (f.offset, n, x) | none => none
  | _, _ => none

def resElem (p : Nat × Operand) : Option (Nat × Opd) := (resOpd p.2).map fun x => (p.1, x)

def resOp (P : Program) : Op → Option ROp
  | .move x => (resOpd x).map .mov
  | .assign x => (resOpd x).map .mov
  | .pick c a b => match resOpd c, resOpd a, resOpd b with | some c, some a, some b => some (.pick c a b) | _, _, _ => none
  | .alloc t => (Program.zeroA P t).map .alloc
  | .box _ x => (resOpd x).map .box
  | .build t parts =>
    match P.underlying t, Program.zeroA P t with
    | some (.struct fs), some (.agg zs) =>
      if (fs.toList.mapM fun f => (P.info? f.type).map fun i => (f.offset, i.size)).isSome then (mapO (resPart P fs) parts.toList).map (.build (.agg zs)) else none
    | _, _ => none
  | .buildSlice t len parts =>
    match P.underlying t with
    | some (.slice e) =>
      match Program.zeroA P e, Program.size? P e, mapO resElem parts.toList with
      | some z, some n, some ps => if 0 < n ∧ len * n ≤ 2 ^ 24 then some (.bslice len z ps) else none
      | _, _, _ => none
    | _ => none
  | .load t x => match Program.agg? P t, Program.size? P t, resOpd x with | some b, some n, some x => some (.ld b n x) | _, _, _ => none
  | .store t a x => match Program.size? P t, resOpd a, resOpd x with | some n, some a, some x => some (.st n a x) | _, _, _ => none
  | .nilCheck x => (resOpd x).map .nilck
  | .binOp op t x y _ =>
    match resOpd x, resOpd y with
    | some x, some y =>
      match P.underlying t, op with
      | some .bool, .eql => some (.beq false x y)
      | some .bool, .neq => some (.beq true x y)
      | some (.slice _), .eql => match y with | .c (.vs true 0 []) => some (.nileq false x) | _ => none
      | some (.slice _), .neq => match y with | .c (.vs true 0 []) => some (.nileq true x) | _ => none
      | _, _ => some (.bin op x y)
    | _, _ => none
  | .unOp op _ x => (resOpd x).map (.un op)
  | .convert s d x =>
    match P.underlying s, P.underlying d with
    | some (.int _), some (.int k) => (resOpd x).map (.conv k)
    | some .string, some .string => (resOpd x).map .cstr
    | _, _ => none
  | .makeFunc (.func f) first caps => if first.size = 0 then (mapO resOpd caps.toList).map (.clos f) else none
  | .makeSlice t l c =>
    match P.underlying t with
    | some (.slice e) =>
      match P.info? e, Program.zeroA P e, resOpd l, resOpd c with
      | some i, some z, some l, some c => if 0 < i.size then some (.mkslice z i.bytes l c) else none
      | _, _, _, _ => none
    | _ => none
  | .slice t x lo hi mx =>
    match P.underlying t, resOpd x, resOpt lo, resOpt hi, resOpt mx with
    | some .string, some x, some lo, some hi, some none => some (.slc 0 x lo hi none)
    | some (.slice e), some x, some lo, some hi, some mx => match Program.size? P e with | some n => if 0 < n then some (.slc n x lo hi mx) else none | none => none
    | _, _, _, _, _ => none
  | .fieldAddr s x i =>
    match P.underlying s, resOpd x with
    | some (.struct fs), some x =>
      match fs[i]? with
      | some f => match Program.size? P f.type with | some n => if 0 < n then some (.faddr f.offset x) else none | none => none
      | none => none
    | _, _ => none
  | .field s x i =>
    match P.underlying s, resOpd x with
    | some (.struct fs), some x =>
      match fs[i]? with
      | some f => match Program.agg? P f.type, Program.size? P f.type with | some b, some n => some (.fld b f.offset n x) | _, _ => none
      | none => none
    | _, _ => none
  | .indexAddr t x i =>
    match P.underlying t, resOpd x, resOpd i with
    | some (.slice e), some x, some i => match Program.size? P e with | some n => if 0 < n then some (.iaddr n x i) else none | none => none
    | _, _, _ => none
  | .index t x i => match P.underlying t, resOpd x, resOpd i with | some .string, some x, some i => some (.idx x i) | _, _, _ => none
  | .extract x i => (resOpd x).map fun x => .ext x i
  | .call { callee := .builtin .len, args, argTypes } =>
    match args.toList, argTypes.toList with
    | [x], [t] =>
      match P.underlying t with
      | some .string => (resOpd x).map (.len true)
      | some (.slice _) => (resOpd x).map (.len false)
      | _ => none
    | _, _ => none
  | .call { callee := .builtin .append, args, argTypes } =>
    match args.toList, argTypes.toList with
    | [s, x], [t, u] =>
      match P.underlying t with
      | some (.slice e) =>
        match P.info? e, Program.zeroA P e, resOpd s, resOpd x with
        | some i, some _, some s, some x => if 0 < i.size ∧ t = u then some (.app i.size i.bytes s x) else none
        | _, _, _, _ => none
      | _ => none
    | _, _ => none
  | .call { callee := .builtin .max, args, argTypes := _ } =>
    match args.toList with
    | [x, y] => match resOpd x, resOpd y with | some x, some y => some (.max x y) | _, _ => none
    | _ => none
  | .call { callee := .value (.func f), args, argTypes := _ } => if Program.enterable P f then (mapO resOpd args.toList).map (.call f) else none
  | .call { callee := .value (.tmp t), args, argTypes := _ } => (mapO resOpd args.toList).map (.callv (.t t))
  | _ => none

/-- The slot of the operation that a guard names. -/
def resGuard (ops : List Oper) : Option (Nat × Bool) → Option (Option (Nat × Bool))
  | none => some none
  | some (j, want) =>
    match ops[j]? with
    | some o => match o.dst with | some d => some (some (d, want)) | none => none
    | none => none

def resRO (P : Program) (ops : List Oper) (o : Oper) : Option RO :=
  match resOp P o.op, resGuard ops o.guard with
  | some r, some g => some ⟨o.dst, r, g⟩
  | _, _ => none

/-! ### Which orders matter -/

def Opd.slots : Opd → List Nat
  | .t n => [n]
  | .c _ => []

def optSlots : Option Opd → List Nat
  | some x => x.slots
  | none => []

def ROp.slots : ROp → List Nat
  | .mov x | .box x | .ld _ _ x | .ldb _ _ x | .nilck x | .un _ x | .nileq _ x | .conv _ x | .cstr x | .faddr _ x | .fld _ _ _ x | .ext x _ | .len _ x => x.slots
  | .pick c a b => c.slots ++ a.slots ++ b.slots
  | .alloc _ => []
  | .build _ ps => ps.flatMap fun p => p.2.2.slots
  | .bslice _ _ ps => ps.flatMap fun p => p.2.slots
  | .st _ a x | .bin _ a x | .beq _ a x | .mkslice _ _ a x | .iaddr _ a x | .idx a x | .app _ _ a x | .max a x => a.slots ++ x.slots
  | .clos _ cs => cs.flatMap Opd.slots
  | .slc _ x a b c => x.slots ++ optSlots a ++ optSlots b ++ optSlots c
  | .call _ aas => aas.flatMap Opd.slots
  | .callv x aas => x.slots ++ aas.flatMap Opd.slots

def RO.slots (o : RO) : List Nat := o.op.slots ++ (match o.guard with | some (s, _) => [s] | none => [])

/-- Operations that may turn the boxes. -/
def ROp.writesB (c : Ctx) : ROp → Bool
  | .box _ | .alloc _ | .st .. | .callv .. => true
  | .call f _ => c.raw f
  | _ => false

/-- Operations that may turn the rows. -/
def ROp.writesF (c : Ctx) : ROp → Bool
  | .st .. | .mkslice .. | .app .. | .callv .. => true
  | .call f _ => c.raw f
  | _ => false

/-- Operations that look at the boxes. -/
def ROp.looksB (c : Ctx) : ROp → Bool
  | .box _ | .alloc _ | .st .. | .callv .. | .ld .. | .ldb .. => true
  | .call f _ => c.raw f
  | _ => false

/-- Operations that look at the rows. -/
def ROp.looksF : ROp → Bool
  | .st .. | .mkslice .. | .app .. | .callv .. | .call .. | .ld .. | .bslice .. | .iaddr .. | .slc .. => true
  | _ => false

def ROp.lax : ROp → ROp
  | .ld b n x => .ldb b n x
  | o => o

def RO.lax (o : RO) : RO := { o with op := o.op.lax }

/-- For each operation the set (as a number's bits) of those that surely come before it. -/
def before : List Oper → List Nat → List Nat
  | [], acc => acc
  | o :: rest, acc => before rest (acc ++ [o.after.toList.foldl (fun s e => if Region.binds .any e then s ||| 2 ^ e.on ||| acc.getD e.on 0 else s) 0])

def pairOk (c : Ctx) (bj : Nat) (i : Nat) (oi oj : RO) : Bool :=
  bj.testBit i ||
    ((match oi.dst with | some d => !oj.slots.contains d && oj.dst != some d | none => true) &&
     (match oj.dst with | some d => !oi.slots.contains d | none => true) &&
     !(oi.op.writesB c && oj.op.looksB c) && !(oi.op.looksB c && oj.op.writesB c) && !(oi.op.writesF c && oj.op.looksF) && !(oi.op.looksF && oj.op.writesF c))

def edgesOk : List Oper → Nat → Bool
  | [], _ => true
  | o :: rest, i => o.after.toList.all (fun e => !Region.binds .any e || decide (e.on < i)) && edgesOk rest (i + 1)

def pairsOk (c : Ctx) (bs : List Nat) (ros : List RO) : Bool :=
  (List.range ros.length).all fun j => (List.range j).all fun i =>
    match ros[i]?, ros[j]? with
    | some oi, some oj => pairOk c (bs.getD j 0) i oi oj && (match oi.dst, oj.dst with | some d, some e => d != e | _, _ => true)
    | _, _ => false

def orderOk (c : Ctx) (ops : List Oper) (ros : List RO) : Bool := edgesOk ops 0 && pairsOk c (before ops []) ros

def resCode (P : Program) (c : Ctx) : Code → Option RCode
  | .skip => some .skip
  | .region _ ops draw =>
    match mapO (resRO P ops.toList) ops.toList with
    | some ros =>
      if !draw || orderOk c ops.toList ros then some (.region draw ros)
      else if orderOk c ops.toList (ros.map RO.lax) then some (.region true (ros.map RO.lax)) else none
    | none => none
  | .seq a b => match resCode P c a, resCode P c b with | some a, some b => some (.seq a b) | _, _ => none
  | .cond q a b => match resOpd q, resCode P c a, resCode P c b with | some q, some a, some b => some (.cond q a b) | _, _, _ => none
  | .block id a => (resCode P c a).map (.block id)
  | .loop a => (resCode P c a).map .loop
  | .exit id => some (.exit id)
  | .ret => some .ret
  | _ => none

def resRes (P : Program) : ResultVar → Option RRes
  | .tmp t => some (.tmp t)
  | .cell a t => match Program.agg? P t, Program.size? P t with | some b, some n => some (.cell a b n) | _, _ => none

def resFunc (P : Program) (ctx : FuncId → Ctx) (f : FuncId) : Option RFunc :=
  if Program.enterable P f then
    match P.funcs[f]? with
    | some fn =>
      match fn.body with
      | some b =>
        match mapO (resRes P) fn.results.toList, resCode P (ctx f) b with
        | some rs, some rb => some ⟨fn.ntmps, rs, rb⟩
        | _, _ => none
      | none => none
    | none => none
  else none

end Go.Abs

/- How abstract values stand to the model's values and memory. -/
namespace Go.Abs

mutual
/-- A pure value: `ok b o`: cell o of block b may be leant on. -/
def PV (w : World) (ok : Nat → Nat → Prop) : AV → Value → Prop
  | .junk, v => v.oneCell' = true
  | .bool b, v => v = .bool b
  | .int k n, v => v = .int k n
  | .str s, v => v = .string s
  | .agg cs, v => ∃ us : Array Value, v = .agg us ∧ (∀ u ∈ us.toList, u.oneCell' = true) ∧ PVs w ok cs us.toList
  | .tup cs, v => ∃ us : Array Value, v = .tuple us ∧ PVs w ok cs us.toList
  | .vs full sz xs, v => ∃ a len cap, v = .slice a len cap ∧ len = xs.length ∧ len ≤ cap ∧ cap ≤ maxLen ∧ (full = true → cap = len) ∧ ((a = none → cap = 0) ∧ (a = none ↔ sz = 0)) ∧ (xs ≠ [] → ∃ b o, a = some ⟨b, o, none⟩ ∧ 0 < sz ∧ PEls w ok sz b o xs)
  | .pv cs, v => ∃ b o, v = .pointer (some ⟨b, o, none⟩) ∧ PCells w ok b o cs
  | .nilp, v => v = .pointer none
  | .fn f caps, v => ∃ us : Array Value, v = .func (.func f) #[] us ∧ PVs w ok caps us.toList
  | .nilf, v => v = .nilFunc
  | .sl .., _ => False
  | .ep .., _ => False
  | .ptr .., _ => False
def PVs (w : World) (ok : Nat → Nat → Prop) : List AV → List Value → Prop
  | [], us => us = []
  | c :: cs, us => ∃ u us', us = u :: us' ∧ PV w ok c u ∧ PVs w ok cs us'
def PCells (w : World) (ok : Nat → Nat → Prop) (b o : Nat) : List AV → Prop
  | [] => True
  | c :: cs => (∃ u, ok b o ∧ w.cell? ⟨b, o, none⟩ = some u ∧ u.oneCell' = true ∧ PV w ok c u) ∧ PCells w ok b (o + 1) cs
def PEls (w : World) (ok : Nat → Nat → Prop) (sz b o : Nat) : List AV → Prop
  | [] => True
  | .agg cs :: xs => cs.length = sz ∧ PCells w ok b o cs ∧ PEls w ok sz b (o + sz) xs
  | x :: xs => sz = 1 ∧ (∃ u, ok b o ∧ w.cell? ⟨b, o, none⟩ = some u ∧ u.oneCell' = true ∧ PV w ok x u) ∧ PEls w ok sz b (o + sz) xs
end

/-- One element in memory. -/
def PElem (w : World) (ok : Nat → Nat → Prop) (sz b o : Nat) (x : AV) : Prop := x.cells.length = sz ∧ PCells w ok b o x.cells

theorem PEls_cons {w : World} {ok : Nat → Nat → Prop} {sz b o : Nat} {x : AV} {xs : List AV} :
    PEls w ok sz b o (x :: xs) ↔ PElem w ok sz b o x ∧ PEls w ok sz b (o + sz) xs := by
  cases x with
  | agg cs => simp only [PEls, PElem, AV.cells, and_assoc]
  | _ =>
    simp only [PEls, PElem, AV.cells, PCells, and_true, List.length_cons, List.length_nil, Nat.zero_add]
    exact ⟨fun h => ⟨⟨h.1.symm, h.2.1⟩, h.2.2⟩, fun h => ⟨h.1.1.symm, h.1.2, h.2⟩⟩

theorem PEls_get {w : World} {ok : Nat → Nat → Prop} {sz b : Nat} {xs : List AV} : ∀ {o : Nat}, PEls w ok sz b o xs → ∀ {j : Nat} {x : AV}, xs[j]? = some x → PElem w ok sz b (o + j * sz) x := by
  induction xs with
  | nil => intro o _ j x h; simp at h
  | cons y ys ih =>
    intro o h j x hj
    rw [PEls_cons] at h
    cases j with
    | zero => simp at hj; subst hj; simpa using h.1
    | succ j =>
      have := ih h.2 (j := j) (x := x) (by simpa using hj)
      rwa [show o + sz + j * sz = o + (j + 1) * sz from by rw [Nat.succ_mul]; omega] at this

theorem PEls_of {w : World} {ok : Nat → Nat → Prop} {sz b : Nat} {xs : List AV} : ∀ {o : Nat}, (∀ j x, xs[j]? = some x → PElem w ok sz b (o + j * sz) x) → PEls w ok sz b o xs := by
  induction xs with
  | nil => intro o _; simp [PEls]
  | cons y ys ih =>
    intro o h
    rw [PEls_cons]
    refine ⟨by simpa using h 0 y rfl, ih fun j x hj => ?_⟩
    have := h (j + 1) x (by simpa using hj)
    rwa [show o + (j + 1) * sz = o + sz + j * sz from by rw [Nat.succ_mul]; omega] at this

theorem PCells_get {w : World} {ok : Nat → Nat → Prop} {b : Nat} {cs : List AV} : ∀ {o : Nat}, PCells w ok b o cs → ∀ {j : Nat} {c : AV}, cs[j]? = some c →
    ∃ u, ok b (o + j) ∧ w.cell? ⟨b, o + j, none⟩ = some u ∧ u.oneCell' = true ∧ PV w ok c u := by
  induction cs with
  | nil => intro o _ j c h; simp at h
  | cons y ys ih =>
    intro o h j c hj
    simp only [PCells] at h
    cases j with
    | zero => simp at hj; subst hj; simpa using h.1
    | succ j =>
      have := ih h.2 (j := j) (c := c) (by simpa using hj)
      rwa [show o + 1 + j = o + (j + 1) from by omega] at this

theorem PCells_of {w : World} {ok : Nat → Nat → Prop} {b : Nat} {cs : List AV} : ∀ {o : Nat}, (∀ j c, cs[j]? = some c → ∃ u, ok b (o + j) ∧ w.cell? ⟨b, o + j, none⟩ = some u ∧ u.oneCell' = true ∧ PV w ok c u) → PCells w ok b o cs := by
  induction cs with
  | nil => intro o _; simp [PCells]
  | cons y ys ih =>
    intro o h
    simp only [PCells]
    refine ⟨by simpa using h 0 y rfl, ih fun j c hj => ?_⟩
    have := h (j + 1) c (by simpa using hj)
    rwa [show o + (j + 1) = o + 1 + j from by omega] at this

theorem PVs_get {w : World} {ok : Nat → Nat → Prop} {cs : List AV} : ∀ {us : List Value}, PVs w ok cs us → us.length = cs.length ∧ ∀ {j : Nat} {c : AV}, cs[j]? = some c → ∃ u, us[j]? = some u ∧ PV w ok c u := by
  induction cs with
  | nil => intro us h; simp [PVs] at h; subst h; simp
  | cons y ys ih =>
    intro us h
    simp only [PVs] at h
    obtain ⟨u, us', rfl, h1, h2⟩ := h
    obtain ⟨hl, hg⟩ := ih h2
    refine ⟨by simp [hl], fun {j c} hj => ?_⟩
    cases j with
    | zero => simp at hj; subst hj; exact ⟨u, rfl, h1⟩
    | succ j => simpa using hg (j := j) (c := c) (by simpa using hj)

theorem PVs_of {w : World} {ok : Nat → Nat → Prop} {cs : List AV} : ∀ {us : List Value}, us.length = cs.length → (∀ (j : Nat) (c : AV) (u : Value), cs[j]? = some c → us[j]? = some u → PV w ok c u) → PVs w ok cs us := by
  induction cs with
  | nil => intro us hl _; simp [PVs]; simpa using hl
  | cons y ys ih =>
    intro us hl h
    cases us with
    | nil => simp at hl
    | cons u us' =>
      simp only [PVs]
      exact ⟨u, us', rfl, h 0 y u rfl rfl, ih (by simpa using hl) fun j c v hc hv => h (j + 1) c v (by simpa using hc) (by simpa using hv)⟩

/-! ### Pure values stay what they are while the cells that they lean on stay -/

mutual
theorem PV_mono {w w' : World} {ok ok' : Nat → Nat → Prop} (h : ∀ b o, ok b o → ok' b o ∧ w'.cell? ⟨b, o, none⟩ = w.cell? ⟨b, o, none⟩) : ∀ (x : AV) (v : Value), PV w ok x v → PV w' ok' x v
  | .junk, v, hx => by simpa [PV] using hx
  | .bool b, v, hx => by simpa [PV] using hx
  | .int k n, v, hx => by simpa [PV] using hx
  | .str s, v, hx => by simpa [PV] using hx
  | .agg cs, v, hx => by
    simp only [PV] at hx ⊢
    obtain ⟨us, rfl, h1, hu⟩ := hx
    exact ⟨us, rfl, h1, PVs_mono h cs us.toList hu⟩
  | .tup cs, v, hx => by
    simp only [PV] at hx ⊢
    obtain ⟨us, rfl, hu⟩ := hx
    exact ⟨us, rfl, PVs_mono h cs us.toList hu⟩
  | .vs full sz xs, v, hx => by
    simp only [PV] at hx ⊢
    obtain ⟨a, len, cap, rfl, h1, h2, h3, h4, h5, h6⟩ := hx
    refine ⟨a, len, cap, rfl, h1, h2, h3, h4, h5, fun hne => ?_⟩
    obtain ⟨b, o, ha, hs, he⟩ := h6 hne
    exact ⟨b, o, ha, hs, PEls_mono h sz b o xs he⟩
  | .pv cs, v, hx => by
    simp only [PV] at hx ⊢
    obtain ⟨b, o, rfl, hc⟩ := hx
    exact ⟨b, o, rfl, PCells_mono h b o cs hc⟩
  | .nilp, v, hx => by simpa [PV] using hx
  | .fn f caps, v, hx => by
    simp only [PV] at hx ⊢
    obtain ⟨us, rfl, hu⟩ := hx
    exact ⟨us, rfl, PVs_mono h caps us.toList hu⟩
  | .nilf, v, hx => by simpa [PV] using hx
  | .sl .., _, hx => by simp [PV] at hx
  | .ep .., _, hx => by simp [PV] at hx
  | .ptr .., _, hx => by simp [PV] at hx
theorem PVs_mono {w w' : World} {ok ok' : Nat → Nat → Prop} (h : ∀ b o, ok b o → ok' b o ∧ w'.cell? ⟨b, o, none⟩ = w.cell? ⟨b, o, none⟩) : ∀ (cs : List AV) (us : List Value), PVs w ok cs us → PVs w' ok' cs us
  | [], us, hx => by simpa [PVs] using hx
  | c :: cs, us, hx => by
    simp only [PVs] at hx ⊢
    obtain ⟨u, us', rfl, h1, h2⟩ := hx
    exact ⟨u, us', rfl, PV_mono h c u h1, PVs_mono h cs us' h2⟩
theorem PCells_mono {w w' : World} {ok ok' : Nat → Nat → Prop} (h : ∀ b o, ok b o → ok' b o ∧ w'.cell? ⟨b, o, none⟩ = w.cell? ⟨b, o, none⟩) (b o : Nat) : ∀ (cs : List AV), PCells w ok b o cs → PCells w' ok' b o cs
  | [], _ => by simp [PCells]
  | c :: cs, hx => by
    simp only [PCells] at hx ⊢
    obtain ⟨⟨u, h1, h2, h3, h4⟩, h5⟩ := hx
    exact ⟨⟨u, (h b o h1).1, by rw [(h b o h1).2]; exact h2, h3, PV_mono h c u h4⟩, PCells_mono h b (o + 1) cs h5⟩
theorem PEls_mono {w w' : World} {ok ok' : Nat → Nat → Prop} (h : ∀ b o, ok b o → ok' b o ∧ w'.cell? ⟨b, o, none⟩ = w.cell? ⟨b, o, none⟩) (sz b o : Nat) : ∀ (xs : List AV), PEls w ok sz b o xs → PEls w' ok' sz b o xs
  | [], _ => by simp [PEls]
  | .agg cs :: xs, hx => by
    simp only [PEls] at hx ⊢
    exact ⟨hx.1, PCells_mono h b o cs hx.2.1, PEls_mono h sz b (o + sz) xs hx.2.2⟩
  | x :: xs, hx => by
    rw [PEls_cons] at hx ⊢
    refine ⟨?_, PEls_mono h sz b (o + sz) xs hx.2⟩
    cases x with
    | agg cs => exact ⟨hx.1.1, PCells_mono h b o cs hx.1.2⟩
    | _ =>
      refine ⟨hx.1.1, ?_⟩
      have hc := hx.1.2
      simp only [AV.cells, PCells] at hc ⊢
      obtain ⟨⟨u, h1, h2, h3, h4⟩, h5⟩ := hc
      exact ⟨⟨u, (h b o h1).1, by rw [(h b o h1).2]; exact h2, h3, PV_mono h _ u h4⟩, trivial⟩
end

/-! ### A whole state -/

/-- Where a row lies: element i (from `lo` on) at cell `o + (i - lo) * sz` of block b; room for `cap` elements from `lo` on. -/
structure Img where
  b : Nat
  o : Nat
  cap : Nat
  lo : Nat

structure Env where
  w : World
  base : Nat
  ok0 : Nat → Nat → Prop
  nb : Nat → Nat
  im : Nat → Img
  h : AH

/-- The cells that pure values may lean on. -/
def Env.ok (E : Env) (b o : Nat) : Prop :=
  (b < E.base ∧ E.ok0 b o) ∨
  (E.base ≤ b ∧ b < E.w.heap.size ∧ (∀ i, i < E.h.boxes.length → E.nb i ≠ b) ∧
    ∀ k f, E.h.fams[k]? = some f → (E.im k).b = b → f.wr = false ∧ o < (E.im k).o + (f.xs.length - (E.im k).lo) * f.sz)

mutual
def VR (E : Env) : AV → Value → Prop
  | .agg cs, v => ∃ us : Array Value, v = .agg us ∧ (∀ u ∈ us.toList, u.oneCell' = true) ∧ VRs E cs us.toList
  | .tup cs, v => ∃ us : Array Value, v = .tuple us ∧ VRs E cs us.toList
  | .fn f caps, v => ∃ us : Array Value, v = .func (.func f) #[] us ∧ VRs E caps us.toList
  | .sl k n off len, v => ∃ a cap f, v = .slice a len cap ∧ E.h.fams[k]? = some f ∧ n ≤ f.xs.length ∧ (f.xs.length = n →
      (E.im k).lo ≤ off ∧ off + len ≤ n ∧ cap + (off - (E.im k).lo) = (E.im k).cap ∧ a ≠ none ∧
      (cap ≠ 0 → a = some ⟨(E.im k).b, (E.im k).o + (off - (E.im k).lo) * f.sz, none⟩))
  | .ep k n i c, v => ∃ a f, v = .pointer (some a) ∧ E.h.fams[k]? = some f ∧ n ≤ f.xs.length ∧ (f.xs.length = n →
      (E.im k).lo ≤ i ∧ a = ⟨(E.im k).b, (E.im k).o + (i - (E.im k).lo) * f.sz + c, none⟩)
  | .ptr b off, v => b < E.h.boxes.length ∧ v = .pointer (some ⟨E.nb b, off, none⟩)
  | .junk, v => v.oneCell' = true
  | .bool b, v => v = .bool b
  | .int k n, v => v = .int k n
  | .str s, v => v = .string s
  | .vs full sz xs, v => PV E.w E.ok (.vs full sz xs) v
  | .pv cs, v => PV E.w E.ok (.pv cs) v
  | .nilp, v => v = .pointer none
  | .nilf, v => v = .nilFunc
def VRs (E : Env) : List AV → List Value → Prop
  | [], us => us = []
  | c :: cs, us => ∃ u us', us = u :: us' ∧ VR E c u ∧ VRs E cs us'
end

theorem VRs_get {E : Env} {cs : List AV} : ∀ {us : List Value}, VRs E cs us → us.length = cs.length ∧ ∀ {j : Nat} {c : AV}, cs[j]? = some c → ∃ u, us[j]? = some u ∧ VR E c u := by
  induction cs with
  | nil => intro us h; simp [VRs] at h; subst h; simp
  | cons y ys ih =>
    intro us h
    simp only [VRs] at h
    obtain ⟨u, us', rfl, h1, h2⟩ := h
    obtain ⟨hl, hg⟩ := ih h2
    refine ⟨by simp [hl], fun {j c} hj => ?_⟩
    cases j with
    | zero => simp at hj; subst hj; exact ⟨u, rfl, h1⟩
    | succ j => simpa using hg (j := j) (c := c) (by simpa using hj)

theorem VRs_of {E : Env} {cs : List AV} : ∀ {us : List Value}, us.length = cs.length → (∀ (j : Nat) (c : AV) (u : Value), cs[j]? = some c → us[j]? = some u → VR E c u) → VRs E cs us := by
  induction cs with
  | nil => intro us hl _; simp [VRs]; simpa using hl
  | cons y ys ih =>
    intro us hl h
    cases us with
    | nil => simp at hl
    | cons u us' =>
      simp only [VRs]
      exact ⟨u, us', rfl, h 0 y u rfl rfl, ih (by simpa using hl) fun j c v hc hv => h (j + 1) c v (by simpa using hc) (by simpa using hv)⟩

mutual
theorem VR_of_PV {E : Env} : ∀ (x : AV) (v : Value), PV E.w E.ok x v → VR E x v
  | .junk, v, hx => by simpa [VR, PV] using hx
  | .bool b, v, hx => by simpa [PV, VR] using hx
  | .int k n, v, hx => by simpa [PV, VR] using hx
  | .str s, v, hx => by simpa [PV, VR] using hx
  | .agg cs, v, hx => by
    simp only [PV, VR] at hx ⊢
    obtain ⟨us, rfl, h1, hu⟩ := hx
    exact ⟨us, rfl, h1, VRs_of_PVs cs us.toList hu⟩
  | .tup cs, v, hx => by
    simp only [PV, VR] at hx ⊢
    obtain ⟨us, rfl, hu⟩ := hx
    exact ⟨us, rfl, VRs_of_PVs cs us.toList hu⟩
  | .vs full sz xs, v, hx => by simp only [VR]; exact hx
  | .pv cs, v, hx => by simp only [VR]; exact hx
  | .nilp, v, hx => by simpa [PV, VR] using hx
  | .fn f caps, v, hx => by
    simp only [PV, VR] at hx ⊢
    obtain ⟨us, rfl, hu⟩ := hx
    exact ⟨us, rfl, VRs_of_PVs caps us.toList hu⟩
  | .nilf, v, hx => by simpa [PV, VR] using hx
  | .sl .., _, hx => by simp [PV] at hx
  | .ep .., _, hx => by simp [PV] at hx
  | .ptr .., _, hx => by simp [PV] at hx
theorem VRs_of_PVs {E : Env} : ∀ (cs : List AV) (us : List Value), PVs E.w E.ok cs us → VRs E cs us
  | [], us, hx => by simpa [PVs, VRs] using hx
  | c :: cs, us, hx => by
    simp only [PVs, VRs] at hx ⊢
    obtain ⟨u, us', rfl, h1, h2⟩ := hx
    exact ⟨u, us', rfl, VR_of_PV c u h1, VRs_of_PVs cs us' h2⟩
end

/-- What one state hands on to a later one: what pure values lean on stays; boxes keep their places; a row that has kept its length has kept its place. -/
structure Ext (E E' : Env) : Prop where
  cells : ∀ b o, E.ok b o → E'.ok b o ∧ E'.w.cell? ⟨b, o, none⟩ = E.w.cell? ⟨b, o, none⟩
  boxes : E.h.boxes.length ≤ E'.h.boxes.length
  nb : ∀ i, i < E.h.boxes.length → E'.nb i = E.nb i
  fams : E.h.fams.length ≤ E'.h.fams.length
  im : ∀ k f f', E.h.fams[k]? = some f → E'.h.fams[k]? = some f' → f'.sz = f.sz ∧ f.xs.length ≤ f'.xs.length ∧ (f'.xs.length = f.xs.length → E'.im k = E.im k)
  base : E'.base = E.base
  ok0 : E'.ok0 = E.ok0
  below : Go.RowKit.Below E.base E.w E'.w

theorem Ext.refl (E : Env) : Ext E E :=
  ⟨fun _ _ h => ⟨h, rfl⟩, Nat.le_refl _, fun _ _ => rfl, Nat.le_refl _, fun k f f' h h' => by rw [h] at h'; cases h'; exact ⟨rfl, Nat.le_refl _, fun _ => rfl⟩, rfl, rfl, Go.RowKit.Below.refl _ _⟩

theorem Ext.trans {E E' E'' : Env} (h : Ext E E') (k : Ext E' E'') : Ext E E'' := by
  refine ⟨fun b o ho => ?_, Nat.le_trans h.boxes k.boxes, fun i hi => (k.nb i (Nat.lt_of_lt_of_le hi h.boxes)).trans (h.nb i hi), Nat.le_trans h.fams k.fams, fun j f f'' hf hf'' => ?_, k.base.trans h.base, k.ok0.trans h.ok0, ?_⟩
  · obtain ⟨h1, h2⟩ := h.cells b o ho
    obtain ⟨h3, h4⟩ := k.cells b o h1
    exact ⟨h3, h4.trans h2⟩
  · have hlt : j < E'.h.fams.length := Nat.lt_of_lt_of_le (List.getElem?_eq_some_iff.1 hf).1 h.fams
    obtain ⟨a1, a2, a3⟩ := h.im j f _ hf (List.getElem?_eq_getElem hlt)
    obtain ⟨b1, b2, b3⟩ := k.im j _ f'' (List.getElem?_eq_getElem hlt) hf''
    refine ⟨b1.trans a1, Nat.le_trans a2 b2, fun he => ?_⟩
    rw [b3 (by omega), a3 (by omega)]
  · have hk := k.below
    rw [h.base] at hk
    exact h.below.trans hk

mutual
theorem VR_ext {E E' : Env} (h : Ext E E') : ∀ (x : AV) (v : Value), VR E x v → VR E' x v
  | .junk, v, hx => by simpa [VR] using hx
  | .bool b, v, hx => by simpa [VR] using hx
  | .int k n, v, hx => by simpa [VR] using hx
  | .str s, v, hx => by simpa [VR] using hx
  | .agg cs, v, hx => by
    simp only [VR] at hx ⊢
    obtain ⟨us, rfl, h1, hu⟩ := hx
    exact ⟨us, rfl, h1, VRs_ext h cs us.toList hu⟩
  | .tup cs, v, hx => by
    simp only [VR] at hx ⊢
    obtain ⟨us, rfl, hu⟩ := hx
    exact ⟨us, rfl, VRs_ext h cs us.toList hu⟩
  | .vs full sz xs, v, hx => by
    simp only [VR] at hx ⊢
    exact PV_mono h.cells _ _ hx
  | .pv cs, v, hx => by
    simp only [VR] at hx ⊢
    exact PV_mono h.cells _ _ hx
  | .nilp, v, hx => by simpa [VR] using hx
  | .fn f caps, v, hx => by
    simp only [VR] at hx ⊢
    obtain ⟨us, rfl, hu⟩ := hx
    exact ⟨us, rfl, VRs_ext h caps us.toList hu⟩
  | .nilf, v, hx => by simpa [VR] using hx
  | .sl k n off len, v, hx => by
    simp only [VR] at hx ⊢
    obtain ⟨a, cap, f, rfl, hf, hn, hc⟩ := hx
    have hlt : k < E'.h.fams.length := Nat.lt_of_lt_of_le (List.getElem?_eq_some_iff.1 hf).1 h.fams
    obtain ⟨h1, h2, h3⟩ := h.im k f _ hf (List.getElem?_eq_getElem hlt)
    refine ⟨a, cap, _, rfl, List.getElem?_eq_getElem hlt, by omega, fun he => ?_⟩
    rw [h3 (by omega), h1]
    exact hc (by omega)
  | .ep k n i c, v, hx => by
    simp only [VR] at hx ⊢
    obtain ⟨a, f, rfl, hf, hn, hc⟩ := hx
    have hlt : k < E'.h.fams.length := Nat.lt_of_lt_of_le (List.getElem?_eq_some_iff.1 hf).1 h.fams
    obtain ⟨h1, h2, h3⟩ := h.im k f _ hf (List.getElem?_eq_getElem hlt)
    refine ⟨a, _, rfl, List.getElem?_eq_getElem hlt, by omega, fun he => ?_⟩
    rw [h3 (by omega), h1]
    exact hc (by omega)
  | .ptr b off, v, hx => by
    simp only [VR] at hx ⊢
    exact ⟨Nat.lt_of_lt_of_le hx.1 h.boxes, by rw [h.nb b hx.1]; exact hx.2⟩
theorem VRs_ext {E E' : Env} (h : Ext E E') : ∀ (cs : List AV) (us : List Value), VRs E cs us → VRs E' cs us
  | [], us, hx => by simpa [VRs] using hx
  | c :: cs, us, hx => by
    simp only [VRs] at hx ⊢
    obtain ⟨u, us', rfl, h1, h2⟩ := hx
    exact ⟨u, us', rfl, VR_ext h c u h1, VRs_ext h cs us' h2⟩
end

end Go.Abs

/- A whole state of the abstract machine and the model's memory: what each kind of step does to it. -/
namespace Go.Abs
open Go.RowKit (Below)

/-- An element of a row as its cells hold it. -/
def FElem (E : Env) (cur : Array Value) (p sz : Nat) (x : AV) : Prop :=
  x.cells.length = sz ∧ ∀ (c : Nat) (y : AV), x.cells[c]? = some y → ∃ v, cur[p + c]? = some v ∧ v.oneCell' = true ∧ PV E.w E.ok y v

structure FamR (E : Env) (k : Nat) (f : Fam) : Prop where
  base : E.base ≤ (E.im k).b
  sz : 0 < f.sz
  lo : (E.im k).lo ≤ f.xs.length
  room : f.xs.length ≤ (E.im k).lo + (E.im k).cap
  cap : (E.im k).cap ≤ maxLen
  cells : ∃ cur t, E.w.heap[(E.im k).b]? = some (.cells cur t (0, 0)) ∧ (E.im k).o + (E.im k).cap * f.sz ≤ cur.size ∧
    ∀ (i : Nat) (x : AV), (E.im k).lo ≤ i → f.xs[i]? = some x → FElem E cur ((E.im k).o + (i - (E.im k).lo) * f.sz) f.sz x

def BoxR (E : Env) (i : Nat) (cs : List AV) : Prop :=
  E.base ≤ E.nb i ∧ ∃ cur t, E.w.heap[E.nb i]? = some (.cells cur t (0, 0)) ∧ VRs E cs cur.toList ∧ ∀ v ∈ cur.toList, v.oneCell' = true

structure SR (E : Env) : Prop where
  basele : E.base ≤ E.w.heap.size
  boxes : ∀ (i : Nat) (cs : List AV), E.h.boxes[i]? = some cs → BoxR E i cs
  fams : ∀ (k : Nat) (f : Fam), E.h.fams[k]? = some f → FamR E k f
  inj : ∀ i j, i < E.h.boxes.length → j < E.h.boxes.length → E.nb i = E.nb j → i = j
  injf : ∀ k j, k < E.h.fams.length → j < E.h.fams.length → (E.im k).b = (E.im j).b → k = j
  sep : ∀ i k, i < E.h.boxes.length → k < E.h.fams.length → E.nb i ≠ (E.im k).b

section
variable {E : Env}

theorem heap_lt {w : World} {b : Nat} {o : Obj} (h : w.heap[b]? = some o) : b < w.heap.size := (Array.getElem?_eq_some_iff.1 h).1

theorem SR.nb_lt (h : SR E) {i : Nat} (hi : i < E.h.boxes.length) : E.base ≤ E.nb i ∧ E.nb i < E.w.heap.size := by
  obtain ⟨h1, cur, t, h2, _⟩ := h.boxes i _ (List.getElem?_eq_getElem hi)
  exact ⟨h1, heap_lt h2⟩

theorem SR.im_lt (h : SR E) {k : Nat} (hk : k < E.h.fams.length) : E.base ≤ (E.im k).b ∧ (E.im k).b < E.w.heap.size := by
  have hf := h.fams k _ (List.getElem?_eq_getElem hk)
  obtain ⟨cur, t, h2, _⟩ := hf.cells
  exact ⟨hf.base, heap_lt h2⟩

theorem ok_lt (h : SR E) {b o : Nat} (hb : E.ok b o) : b < E.w.heap.size := by
  rcases hb with ⟨hb, _⟩ | ⟨_, hb, _⟩
  · exact Nat.lt_of_lt_of_le hb h.basele
  · exact hb

theorem cell_eq {w w' : World} {b o : Nat} (h : w'.heap[b]? = w.heap[b]?) : w'.cell? ⟨b, o, none⟩ = w.cell? ⟨b, o, none⟩ := World.cell?_of_block (a := ⟨b, o, none⟩) h

/-- What goes on when a state goes on: boxes and rows that are as they were. -/
theorem BoxR.ext {E' : Env} (h : Ext E E') {i : Nat} {cs : List AV} (hi : i < E.h.boxes.length) (hb : E'.w.heap[E.nb i]? = E.w.heap[E.nb i]?) (hx : BoxR E i cs) : BoxR E' i cs := by
  obtain ⟨h1, cur, t, h2, h3, h4⟩ := hx
  refine ⟨by rw [h.base, h.nb i hi]; exact h1, cur, t, by rw [h.nb i hi, hb]; exact h2, VRs_ext h _ _ h3, h4⟩

theorem FElem.ext {E' : Env} (h : Ext E E') {cur : Array Value} {p sz : Nat} {x : AV} (hx : FElem E cur p sz x) : FElem E' cur p sz x :=
  ⟨hx.1, fun c y hc => by obtain ⟨v, h1, h2, h3⟩ := hx.2 c y hc; exact ⟨v, h1, h2, PV_mono h.cells _ _ h3⟩⟩

theorem FamR.ext {E' : Env} (h : Ext E E') {k : Nat} {f : Fam} (him : E'.im k = E.im k) (hb : E'.w.heap[(E.im k).b]? = E.w.heap[(E.im k).b]?) (hx : FamR E k f) : FamR E' k f := by
  obtain ⟨cur, t, h1, h2, h3⟩ := hx.cells
  refine ⟨by rw [h.base, him]; exact hx.base, hx.sz, by rw [him]; exact hx.lo, by rw [him]; exact hx.room, by rw [him]; exact hx.cap, cur, t, by rw [him, hb]; exact h1, by rw [him]; exact h2, ?_⟩
  rw [him]
  exact fun i x hi hx' => (h3 i x hi hx').ext h

/-! ### The world alone goes on (draws; new blocks of others; calls of pure functions) -/

theorem grow_ext (h : SR E) {w' : World} (hb : Below E.w.heap.size E.w w') : Ext E { E with w := w' } := by
  refine ⟨fun b o ho => ?_, Nat.le_refl _, fun _ _ => rfl, Nat.le_refl _, fun k f f' hf hf' => ?_, rfl, rfl, hb.mono h.basele⟩
  · have hlt := ok_lt h ho
    refine ⟨?_, cell_eq (hb.block b hlt)⟩
    rcases ho with ho | ⟨h1, _, h3, h4⟩
    · exact .inl ho
    · exact .inr ⟨h1, Nat.lt_of_lt_of_le hlt hb.size, h3, h4⟩
  · have : f = f' := by have := hf.symm.trans hf'; simpa using this
    subst this
    exact ⟨rfl, Nat.le_refl _, fun _ => rfl⟩

theorem grow_SR (h : SR E) {w' : World} (hb : Below E.w.heap.size E.w w') : SR { E with w := w' } := by
  have hx := grow_ext h hb
  refine ⟨Nat.le_trans h.basele hb.size, fun i cs hi => ?_, fun k f hk => ?_, h.inj, h.injf, h.sep⟩
  · have hi' := (List.getElem?_eq_some_iff.1 hi).1
    exact (h.boxes i cs hi).ext hx hi' (hb.block _ (h.nb_lt hi').2)
  · have hk' := (List.getElem?_eq_some_iff.1 hk).1
    exact (h.fams k f hk).ext hx rfl (hb.block _ (h.im_lt hk').2)

/-! ### A new box -/

def upd {α : Type} (f : Nat → α) (n : Nat) (x : α) : Nat → α := fun i => if i = n then x else f i
theorem upd_same {α : Type} (f : Nat → α) (n : Nat) (x : α) : upd f n x n = x := by simp [upd]
theorem upd_other {α : Type} (f : Nat → α) {n i : Nat} (x : α) (h : i ≠ n) : upd f n x i = f i := by simp [upd, h]

def Env.newBox (E : Env) (us : Array Value) (t : TypeId) (cs : List AV) : Env :=
  { E with w := E.w.alloc (.cells us t), nb := upd E.nb E.h.boxes.length E.w.heap.size, h := { E.h with boxes := E.h.boxes ++ [cs] } }

theorem newBox_ext (h : SR E) (us : Array Value) (t : TypeId) (cs : List AV) : Ext E (E.newBox us t cs) := by
  refine ⟨fun b o ho => ?_, by simp [Env.newBox], fun i hi => upd_other _ _ (by omega), Nat.le_refl _, fun k f f' hf hf' => ?_, rfl, rfl, (Below.refl _ _).alloc h.basele _⟩
  · have hlt := ok_lt h ho
    refine ⟨?_, cell_eq (Below.heap_alloc _ _ _ hlt)⟩
    rcases ho with ho | ⟨h1, _, h3, h4⟩
    · exact .inl ho
    · refine .inr ⟨h1, by simp [Env.newBox]; omega, fun i hi => ?_, h4⟩
      by_cases hn : i = E.h.boxes.length
      · subst hn; simp only [Env.newBox, upd_same]; omega
      · simp only [Env.newBox, upd_other _ _ hn]
        exact h3 i (by simp [Env.newBox] at hi; omega)
  · have : f = f' := by have := hf.symm.trans hf'; simpa using this
    subst this
    exact ⟨rfl, Nat.le_refl _, fun _ => rfl⟩

theorem newBox_SR (h : SR E) {us : Array Value} {t : TypeId} {cs : List AV} (hv : VRs E cs us.toList) (h1 : ∀ v ∈ us.toList, v.oneCell' = true) : SR (E.newBox us t cs) := by
  have hx := newBox_ext h us t cs
  have hlen : (E.newBox us t cs).h.boxes.length = E.h.boxes.length + 1 := by simp [Env.newBox]
  have hnb : ∀ i, i < E.h.boxes.length → (E.newBox us t cs).nb i = E.nb i := fun i hi => upd_other _ _ (by omega)
  have hnew : (E.newBox us t cs).nb E.h.boxes.length = E.w.heap.size := upd_same _ _ _
  refine ⟨Nat.le_trans h.basele (by simp [Env.newBox]), fun i cs' hi => ?_, fun k f hk => ?_, fun i j hi hj he => ?_, h.injf, fun i k hi hk => ?_⟩
  · by_cases hn : i = E.h.boxes.length
    · subst hn
      have : cs' = cs := by simpa [Env.newBox] using hi.symm
      subst this
      exact ⟨by rw [hnew]; exact h.basele, us, t, by rw [hnew]; exact heap_alloc_new _ _, VRs_ext hx _ _ hv, h1⟩
    · have hi' : i < E.h.boxes.length := by have := (List.getElem?_eq_some_iff.1 hi).1; omega
      have hcs : E.h.boxes[i]? = some cs' := by
        simp only [Env.newBox] at hi
        rwa [List.getElem?_append_left hi'] at hi
      exact (h.boxes i cs' hcs).ext hx hi' (Below.heap_alloc _ _ _ (h.nb_lt hi').2)
  · have hk' : k < E.h.fams.length := (List.getElem?_eq_some_iff.1 hk).1
    exact (h.fams k f hk).ext hx rfl (Below.heap_alloc _ _ _ (h.im_lt hk').2)
  · rw [hlen] at hi hj
    by_cases hi' : i < E.h.boxes.length <;> by_cases hj' : j < E.h.boxes.length
    · rw [hnb i hi', hnb j hj'] at he; exact h.inj i j hi' hj' he
    · obtain rfl : j = E.h.boxes.length := by omega
      rw [hnb i hi', hnew] at he; have := (h.nb_lt hi').2; omega
    · obtain rfl : i = E.h.boxes.length := by omega
      rw [hnb j hj', hnew] at he; have := (h.nb_lt hj').2; omega
    · omega
  · rw [hlen] at hi
    have hk' : k < E.h.fams.length := hk
    by_cases hi' : i < E.h.boxes.length
    · rw [hnb i hi']; exact h.sep i k hi' hk'
    · obtain rfl : i = E.h.boxes.length := by omega
      rw [hnew]
      have := (h.im_lt hk').2
      simp only [Env.newBox]
      omega

/-! ### A store into a box -/

def Env.setBox (E : Env) (i : Nat) (us : Array Value) (cs : List AV) : Env :=
  { E with w := E.w.setRow (E.nb i) us, h := { E.h with boxes := E.h.boxes.set i cs } }

theorem setRow_below {w : World} {B g : Nat} (us : Array Value) (hg : B ≤ g) : Below B w (w.setRow g us) :=
  ⟨rfl, rfl, rfl, by simp, fun k hk => setRow_other w g k us (by omega)⟩

theorem setBox_ext (h : SR E) {i : Nat} (hi : i < E.h.boxes.length) (us : Array Value) (cs : List AV) : Ext E (E.setBox i us cs) := by
  have hb := h.nb_lt hi
  refine ⟨fun b o ho => ?_, by simp [Env.setBox], fun _ _ => rfl, Nat.le_refl _, fun k f f' hf hf' => ?_, rfl, rfl, setRow_below us hb.1⟩
  · have hne : b ≠ E.nb i := by
      rcases ho with ⟨ho, _⟩ | ⟨_, _, h3, _⟩
      · omega
      · exact fun e => h3 i hi e.symm
    refine ⟨?_, cell_eq (setRow_other _ _ _ _ hne)⟩
    rcases ho with ho | ⟨h1, h2, h3, h4⟩
    · exact .inl ho
    · exact .inr ⟨h1, by simpa [Env.setBox] using h2, fun j hj => h3 j (by simpa [Env.setBox] using hj), h4⟩
  · have : f = f' := by have := hf.symm.trans hf'; simpa using this
    subst this
    exact ⟨rfl, Nat.le_refl _, fun _ => rfl⟩

theorem setBox_SR (h : SR E) {i : Nat} {old : List AV} (hi : E.h.boxes[i]? = some old) {us : Array Value} {cs : List AV} (hv : VRs E cs us.toList) (h1 : ∀ v ∈ us.toList, v.oneCell' = true) :
    SR (E.setBox i us cs) := by
  have hi' := (List.getElem?_eq_some_iff.1 hi).1
  have hx := setBox_ext h hi' us cs
  have hlen : (E.setBox i us cs).h.boxes.length = E.h.boxes.length := by simp [Env.setBox]
  obtain ⟨hb1, cur, t, hb2, _⟩ := h.boxes i old hi
  refine ⟨by simpa [Env.setBox] using h.basele, fun j cs' hj => ?_, fun k f hk => ?_, fun a b ha hb => h.inj a b (by simpa [hlen] using ha) (by simpa [hlen] using hb), h.injf, fun a k ha => h.sep a k (by simpa [hlen] using ha)⟩
  · by_cases hn : i = j
    · subst hn
      have : cs' = cs := by simpa [Env.setBox, hi'] using hj.symm
      subst this
      exact ⟨hb1, us, t, setRow_heap _ _ _ _ _ _ hb2, VRs_ext hx _ _ hv, h1⟩
    · have hj' : j < E.h.boxes.length := by have := (List.getElem?_eq_some_iff.1 hj).1; omega
      have hcs : E.h.boxes[j]? = some cs' := by simpa [Env.setBox, List.getElem?_set_ne hn] using hj
      exact (h.boxes j cs' hcs).ext hx hj' (setRow_other _ _ _ _ (fun e => hn (h.inj _ _ hi' hj' e.symm)))
  · have hk' : k < E.h.fams.length := (List.getElem?_eq_some_iff.1 hk).1
    exact (h.fams k f hk).ext hx rfl (setRow_other _ _ _ _ (fun e => h.sep i k hi' hk' e.symm))

end
end Go.Abs

namespace Go.Abs
open Go.RowKit (Below)
section
variable {E : Env}

/-! ### A new row -/

def Env.newFam (E : Env) (us : Array Value) (t : TypeId) (cap : Nat) (f : Fam) : Env :=
  { E with w := E.w.alloc (.cells us t), im := upd E.im E.h.fams.length ⟨E.w.heap.size, 0, cap, 0⟩, h := { E.h with fams := E.h.fams ++ [f] } }

theorem newFam_ext (h : SR E) (us : Array Value) (t : TypeId) (cap : Nat) (f : Fam) : Ext E (E.newFam us t cap f) := by
  refine ⟨fun b o ho => ?_, Nat.le_refl _, fun _ _ => rfl, by simp [Env.newFam], fun k g g' hg hg' => ?_, rfl, rfl, (Below.refl _ _).alloc h.basele _⟩
  · have hlt := ok_lt h ho
    refine ⟨?_, cell_eq (Below.heap_alloc _ _ _ hlt)⟩
    rcases ho with ho | ⟨h1, _, h3, h4⟩
    · exact .inl ho
    · refine .inr ⟨h1, by simp [Env.newFam]; omega, h3, fun k g hk he => ?_⟩
      by_cases hn : k = E.h.fams.length
      · subst hn; simp only [Env.newFam, upd_same] at he; omega
      · have hk' : k < E.h.fams.length := by
          have := (List.getElem?_eq_some_iff.1 hk).1
          simp [Env.newFam] at this; omega
        simp only [Env.newFam, List.getElem?_append_left hk'] at hk
        simp only [Env.newFam, upd_other _ _ hn] at he ⊢
        exact h4 k g hk he
  · have hk' : k < E.h.fams.length := (List.getElem?_eq_some_iff.1 hg).1
    simp only [Env.newFam, List.getElem?_append_left hk'] at hg'
    have : g = g' := by have := hg.symm.trans hg'; simpa using this
    subst this
    exact ⟨rfl, Nat.le_refl _, fun _ => upd_other _ _ (by omega)⟩

theorem newFam_SR (h : SR E) {us : Array Value} {t : TypeId} {cap : Nat} {f : Fam} (hsz : 0 < f.sz) (hroom : f.xs.length ≤ cap) (hcap : cap ≤ maxLen) (hfit : cap * f.sz ≤ us.size)
    (hel : ∀ (i : Nat) (x : AV), f.xs[i]? = some x → FElem E us (i * f.sz) f.sz x) : SR (E.newFam us t cap f) := by
  have hx := newFam_ext h us t cap f
  have hlen : (E.newFam us t cap f).h.fams.length = E.h.fams.length + 1 := by simp [Env.newFam]
  have him : ∀ k, k < E.h.fams.length → (E.newFam us t cap f).im k = E.im k := fun k hk => upd_other _ _ (by omega)
  have hnew : (E.newFam us t cap f).im E.h.fams.length = ⟨E.w.heap.size, 0, cap, 0⟩ := upd_same _ _ _
  refine ⟨Nat.le_trans h.basele (by simp [Env.newFam]), fun i cs hi => ?_, fun k g hk => ?_, h.inj, fun k j hk hj he => ?_, fun i k hi hk => ?_⟩
  · have hi' := (List.getElem?_eq_some_iff.1 hi).1
    exact (h.boxes i cs hi).ext hx hi' (Below.heap_alloc _ _ _ (h.nb_lt hi').2)
  · by_cases hn : k = E.h.fams.length
    · subst hn
      have : g = f := by simpa [Env.newFam] using hk.symm
      subst this
      refine ⟨by rw [hnew]; exact h.basele, hsz, by rw [hnew]; simp, by rw [hnew]; simpa using hroom, by rw [hnew]; exact hcap, us, t, by rw [hnew]; exact heap_alloc_new _ _, by rw [hnew]; simpa using hfit, ?_⟩
      rw [hnew]
      intro i x _ hi
      have := (hel i x hi).ext hx
      simpa using this
    · have hk' : k < E.h.fams.length := by have := (List.getElem?_eq_some_iff.1 hk).1; omega
      simp only [Env.newFam, List.getElem?_append_left hk'] at hk
      exact (h.fams k g hk).ext hx (him k hk') (Below.heap_alloc _ _ _ (h.im_lt hk').2)
  · rw [hlen] at hk hj
    by_cases hk' : k < E.h.fams.length <;> by_cases hj' : j < E.h.fams.length
    · rw [him k hk', him j hj'] at he; exact h.injf k j hk' hj' he
    · obtain rfl : j = E.h.fams.length := by omega
      rw [him k hk', hnew] at he; have := (h.im_lt hk').2; simp at he; omega
    · obtain rfl : k = E.h.fams.length := by omega
      rw [him j hj', hnew] at he; have := (h.im_lt hj').2; simp at he; omega
    · omega
  · rw [hlen] at hk
    by_cases hk' : k < E.h.fams.length
    · rw [him k hk']; exact h.sep i k hi hk'
    · obtain rfl : k = E.h.fams.length := by omega
      rw [hnew]
      have := (h.nb_lt hi).2
      simp only [Env.newFam]
      omega

/-! ### A row that is written, or grows, in its place -/

def Env.setFam (E : Env) (k : Nat) (us : Array Value) (f : Fam) : Env :=
  { E with w := E.w.setRow (E.im k).b us, h := { E.h with fams := E.h.fams.set k f } }

theorem setFam_ext (h : SR E) {k : Nat} {f f' : Fam} (hk : E.h.fams[k]? = some f) {us cur : Array Value} {t : TypeId} (hc : E.w.heap[(E.im k).b]? = some (.cells cur t (0, 0)))
    (hsz : f'.sz = f.sz) (hwr : f'.wr = f.wr) (hlen : f.xs.length ≤ f'.xs.length)
    (hkeep : f.wr = false → ∀ j, j < (E.im k).o + (f.xs.length - (E.im k).lo) * f.sz → us[j]? = cur[j]?) : Ext E (E.setFam k us f') := by
  have hk' := (List.getElem?_eq_some_iff.1 hk).1
  have hb := h.im_lt hk'
  refine ⟨fun b o ho => ?_, Nat.le_refl _, fun _ _ => rfl, by simp [Env.setFam], fun j g g' hg hg' => ?_, rfl, rfl, setRow_below us hb.1⟩
  · rcases ho with ⟨ho1, ho2⟩ | ⟨h1, h2, h3, h4⟩
    · exact ⟨.inl ⟨ho1, ho2⟩, cell_eq (setRow_other _ _ _ _ (by omega))⟩
    · refine ⟨.inr ⟨h1, by simpa [Env.setFam] using h2, h3, fun j g hj he => ?_⟩, ?_⟩
      · by_cases hn : k = j
        · subst hn
          have : g = f' := by simpa [Env.setFam, hk'] using hj.symm
          subst this
          obtain ⟨a1, a2⟩ := h4 k f hk he
          refine ⟨by rw [hwr]; exact a1, ?_⟩
          rw [hsz]
          refine Nat.lt_of_lt_of_le a2 (Nat.add_le_add_left (Nat.mul_le_mul_right _ (by show f.xs.length - (E.im k).lo ≤ g.xs.length - (E.im k).lo; omega)) _)
        · exact h4 j g (by simpa [Env.setFam, List.getElem?_set_ne hn] using hj) he
      · by_cases hbk : b = (E.im k).b
        · obtain ⟨a1, a2⟩ := h4 k f hk hbk.symm
          subst hbk
          have e1 : (E.w.setRow (E.im k).b us).cell? ⟨(E.im k).b, o, none⟩ = us[o]? := cell_of_row _ _ _ _ _ _ (setRow_heap _ _ _ _ _ _ hc)
          have e2 : E.w.cell? ⟨(E.im k).b, o, none⟩ = cur[o]? := cell_of_row _ _ _ _ _ _ hc
          show (E.w.setRow (E.im k).b us).cell? _ = _
          rw [e1, e2]
          exact hkeep a1 o a2
        · exact cell_eq (setRow_other _ _ _ _ hbk)
  · by_cases hn : k = j
    · subst hn
      have e1 : g' = f' := by simpa [Env.setFam, hk'] using hg'.symm
      have e2 : g = f := by have := hg.symm.trans hk; simpa using this
      subst e1; subst e2
      exact ⟨hsz, hlen, fun _ => rfl⟩
    · have : g = g' := by
        have hg'' : E.h.fams[j]? = some g' := by simpa [Env.setFam, List.getElem?_set_ne hn] using hg'
        have := hg.symm.trans hg''; simpa using this
      subst this
      exact ⟨rfl, Nat.le_refl _, fun _ => rfl⟩

theorem setFam_SR (h : SR E) {k : Nat} {f f' : Fam} (hk : E.h.fams[k]? = some f) {us cur : Array Value} {t : TypeId} (hc : E.w.heap[(E.im k).b]? = some (.cells cur t (0, 0)))
    (hsz : f'.sz = f.sz) (hwr : f'.wr = f.wr) (hlen : f.xs.length ≤ f'.xs.length)
    (hkeep : f.wr = false → ∀ j, j < (E.im k).o + (f.xs.length - (E.im k).lo) * f.sz → us[j]? = cur[j]?)
    (hroom : f'.xs.length ≤ (E.im k).lo + (E.im k).cap) (hsize : us.size = cur.size)
    (hel : ∀ (i : Nat) (x : AV), (E.im k).lo ≤ i → f'.xs[i]? = some x → FElem E us ((E.im k).o + (i - (E.im k).lo) * f.sz) f.sz x) : SR (E.setFam k us f') := by
  have hk' := (List.getElem?_eq_some_iff.1 hk).1
  have hx := setFam_ext h hk hc hsz hwr hlen hkeep
  have hl : (E.setFam k us f').h.fams.length = E.h.fams.length := by simp [Env.setFam]
  refine ⟨by simpa [Env.setFam] using h.basele, fun i cs hi => ?_, fun j g hj => ?_, h.inj, fun a b ha hb => h.injf a b (by simpa [hl] using ha) (by simpa [hl] using hb), fun i a hi ha => h.sep i a hi (by simpa [hl] using ha)⟩
  · have hi' := (List.getElem?_eq_some_iff.1 hi).1
    exact (h.boxes i cs hi).ext hx hi' (setRow_other _ _ _ _ (h.sep i k hi' hk'))
  · by_cases hn : k = j
    · subst hn
      have : g = f' := by simpa [Env.setFam, hk'] using hj.symm
      subst this
      have hf := h.fams k f hk
      obtain ⟨cur', t', c1, c2, _⟩ := hf.cells
      have : cur' = cur := by have := c1.symm.trans hc; simp at this; exact this.1
      subst this
      refine ⟨hf.base, by rw [hsz]; exact hf.sz, Nat.le_trans hf.lo hlen, hroom, hf.cap, us, t, setRow_heap _ _ _ _ _ _ hc, ?_, ?_⟩
      · show (E.im k).o + (E.im k).cap * g.sz ≤ us.size
        rw [hsz, hsize]; exact c2
      · intro i x hi hxi
        have := (hel i x hi hxi).ext hx
        rw [hsz]
        exact this
    · have hj' : j < E.h.fams.length := by have := (List.getElem?_eq_some_iff.1 hj).1; omega
      have hg : E.h.fams[j]? = some g := by simpa [Env.setFam, List.getElem?_set_ne hn] using hj
      exact (h.fams j g hg).ext hx rfl (setRow_other _ _ _ _ (fun e => hn (h.injf _ _ hk' hj' e.symm)))

/-! ### A row that moves to a new block as it grows -/

def Env.moveFam (E : Env) (k : Nat) (us : Array Value) (t : TypeId) (lo cap : Nat) (f : Fam) : Env :=
  { E with w := E.w.alloc (.cells us t), im := upd E.im k ⟨E.w.heap.size, 0, cap, lo⟩, h := { E.h with fams := E.h.fams.set k f } }

theorem moveFam_ext (h : SR E) {k : Nat} {f f' : Fam} (hk : E.h.fams[k]? = some f) (us : Array Value) (t : TypeId) (lo cap : Nat)
    (hsz : f'.sz = f.sz) (hlen : f.xs.length < f'.xs.length) : Ext E (E.moveFam k us t lo cap f') := by
  have hk' := (List.getElem?_eq_some_iff.1 hk).1
  refine ⟨fun b o ho => ?_, Nat.le_refl _, fun _ _ => rfl, by simp [Env.moveFam], fun j g g' hg hg' => ?_, rfl, rfl, (Below.refl _ _).alloc h.basele _⟩
  · have hlt := ok_lt h ho
    refine ⟨?_, cell_eq (Below.heap_alloc _ _ _ hlt)⟩
    rcases ho with ho | ⟨h1, _, h3, h4⟩
    · exact .inl ho
    · refine .inr ⟨h1, by simp [Env.moveFam]; omega, h3, fun j g hj he => ?_⟩
      by_cases hn : j = k
      · subst hn; simp only [Env.moveFam, upd_same] at he; omega
      · simp only [Env.moveFam, upd_other _ _ hn] at he ⊢
        exact h4 j g (by simpa [Env.moveFam, List.getElem?_set_ne (Ne.symm hn)] using hj) he
  · by_cases hn : k = j
    · subst hn
      have e1 : g' = f' := by simpa [Env.moveFam, hk'] using hg'.symm
      have e2 : g = f := by have := hg.symm.trans hk; simpa using this
      subst e1; subst e2
      exact ⟨hsz, Nat.le_of_lt hlen, fun e => by omega⟩
    · have hg'' : E.h.fams[j]? = some g' := by simpa [Env.moveFam, List.getElem?_set_ne hn] using hg'
      have : g = g' := by have := hg.symm.trans hg''; simpa using this
      subst this
      exact ⟨rfl, Nat.le_refl _, fun _ => upd_other _ _ (Ne.symm hn)⟩

theorem moveFam_SR (h : SR E) {k : Nat} {f f' : Fam} (hk : E.h.fams[k]? = some f) {us : Array Value} {t : TypeId} {lo cap : Nat}
    (hsz : f'.sz = f.sz) (hlen : f.xs.length < f'.xs.length) (hlo : lo ≤ f'.xs.length) (hroom : f'.xs.length ≤ lo + cap) (hcap : cap ≤ maxLen) (hfit : cap * f.sz ≤ us.size)
    (hel : ∀ (i : Nat) (x : AV), lo ≤ i → f'.xs[i]? = some x → FElem E us ((i - lo) * f.sz) f.sz x) : SR (E.moveFam k us t lo cap f') := by
  have hk' := (List.getElem?_eq_some_iff.1 hk).1
  have hx := moveFam_ext h hk us t lo cap hsz hlen
  have hl : (E.moveFam k us t lo cap f').h.fams.length = E.h.fams.length := by simp [Env.moveFam]
  have him : ∀ j, j ≠ k → (E.moveFam k us t lo cap f').im j = E.im j := fun j hj => upd_other _ _ hj
  have hnew : (E.moveFam k us t lo cap f').im k = ⟨E.w.heap.size, 0, cap, lo⟩ := upd_same _ _ _
  refine ⟨Nat.le_trans h.basele (by simp [Env.moveFam]), fun i cs hi => ?_, fun j g hj => ?_, h.inj, fun a b ha hb he => ?_, fun i a hi ha => ?_⟩
  · have hi' := (List.getElem?_eq_some_iff.1 hi).1
    exact (h.boxes i cs hi).ext hx hi' (Below.heap_alloc _ _ _ (h.nb_lt hi').2)
  · by_cases hn : k = j
    · subst hn
      have : g = f' := by simpa [Env.moveFam, hk'] using hj.symm
      subst this
      have hf := h.fams k f hk
      refine ⟨by rw [hnew]; exact h.basele, by rw [hsz]; exact hf.sz, by rw [hnew]; exact hlo, by rw [hnew]; exact hroom, by rw [hnew]; exact hcap, us, t, by rw [hnew]; exact heap_alloc_new _ _, by rw [hnew, hsz]; simpa using hfit, ?_⟩
      rw [hnew]
      intro i x hi hxi
      have := (hel i x hi hxi).ext hx
      rw [hsz]
      simpa using this
    · have hj' : j < E.h.fams.length := by have := (List.getElem?_eq_some_iff.1 hj).1; omega
      have hg : E.h.fams[j]? = some g := by simpa [Env.moveFam, List.getElem?_set_ne hn] using hj
      exact (h.fams j g hg).ext hx (him j (Ne.symm hn)) (Below.heap_alloc _ _ _ (h.im_lt hj').2)
  · rw [hl] at ha hb
    by_cases e1 : a = k <;> by_cases e2 : b = k
    · omega
    · subst e1
      rw [hnew, him b e2] at he; have := (h.im_lt hb).2; simp at he; omega
    · subst e2
      rw [hnew, him a e1] at he; have := (h.im_lt ha).2; simp at he; omega
    · rw [him a e1, him b e2] at he; exact h.injf a b ha hb he
  · rw [hl] at ha
    by_cases e1 : a = k
    · subst e1
      rw [hnew]
      have := (h.nb_lt hi).2
      simp only [Env.moveFam]
      omega
    · rw [him a e1]; exact h.sep i a hi ha

end
end Go.Abs
