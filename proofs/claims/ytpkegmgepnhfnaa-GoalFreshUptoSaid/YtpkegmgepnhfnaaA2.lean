/- The resolved form of a program's functions: types looked up, operands laid out; a statement whose order is open is let only where each pair of operations that could disturb each other is ordered. -/
import Derived.Test.YtpkegmgepnhfnaaA1
namespace Go.Abs

def constAV1 : Value → Option AV
  | .bool b => some (.bool b)
  | .int k n => some (.int k n)
  | .string s => some (.str s)
  | .slice none 0 0 => some (.vs true 0 [])
  | .pointer none => some .nilp
  | .nilFunc => some .nilf
  | .func (.func f) a b => if a.size = 0 ∧ b.size = 0 then some (.fn f []) else none
  | _ => none

def mapO {α β : Type} (f : α → Option β) : List α → Option (List β)
  | [] => some []
  | x :: xs => match f x, mapO f xs with | some y, some ys => some (y :: ys) | _, _ => none

def constAV : Value → Option AV
  | .agg cs => (mapO constAV1 cs.toList).map .agg
  | .tuple vs => if vs.size = 0 then some (.tup []) else none
  | v => constAV1 v

def resOpd : Operand → Option Opd
  | .tmp t => some (.t t)
  | .const v => (constAV v).map .c
  | .func f => some (.c (.fn f []))
  | .global _ => none

def resOpt : Option Operand → Option (Option Opd)
  | none => some none
  | some x => (resOpd x).map some

def Program.agg? (P : Program) (t : TypeId) : Option Bool :=
  match P.underlying t with
  | some (.struct _) | some (.array _ _) => some true
  | some _ => some false
  | none => none

def Program.size? (P : Program) (t : TypeId) : Option Nat := (P.info? t).map (·.size)

/-- The zero value, where its number of cells is the type's. -/
def Program.zeroA (P : Program) (t : TypeId) : Option AV :=
  match P.info? t with
  | some i =>
    match i.zero with
    | some z =>
      match constAV z with
      | some x => if z.cells.size = i.size ∧ x.isTup = false then some x else none
      | none => none
    | none => none
  | none => none

def Program.enterable (P : Program) (f : FuncId) : Bool :=
  match P.funcs[f]? with
  | some fn => fn.body.isSome && !(fn.name == "runtime.NumGoroutine")
  | none => false

def resPart (P : Program) (fs : Array Field) (p : Nat × Operand) : Option (Nat × Nat × Opd) :=
  match fs[p.1]?, resOpd p.2 with
  | some f, some x => match Program.size? P f.type with | some n => some (f.offset, n, x) | none => none
  | _, _ => none

def resElem (p : Nat × Operand) : Option (Nat × Opd) := (resOpd p.2).map fun x => (p.1, x)

def resOp (P : Program) : Op → Option ROp
  | .move x => (resOpd x).map .mov
  | .assign x => (resOpd x).map .mov
  | .pick c a b => match resOpd c, resOpd a, resOpd b with | some c, some a, some b => some (.pick c a b) | _, _, _ => none
  | .alloc t => (Program.zeroA P t).map .alloc
  | .box _ x => (resOpd x).map .box
  | .build t parts =>
    match P.underlying t, Program.zeroA P t with
    | some (.struct fs), some (.agg zs) =>
      if (fs.toList.mapM fun f => (P.info? f.type).map fun i => (f.offset, i.size)).isSome then (mapO (resPart P fs) parts.toList).map (.build (.agg zs)) else none
    | _, _ => none
  | .buildSlice t len parts =>
    match P.underlying t with
    | some (.slice e) =>
      match Program.zeroA P e, Program.size? P e, mapO resElem parts.toList with
      | some z, some n, some ps => if 0 < n ∧ len * n ≤ 2 ^ 24 then some (.bslice len z ps) else none
      | _, _, _ => none
    | _ => none
  | .load t x => match Program.agg? P t, Program.size? P t, resOpd x with | some b, some n, some x => some (.ld b n x) | _, _, _ => none
  | .store t a x => match Program.size? P t, resOpd a, resOpd x with | some n, some a, some x => some (.st n a x) | _, _, _ => none
  | .nilCheck x => (resOpd x).map .nilck
  | .binOp op t x y _ =>
    match resOpd x, resOpd y with
    | some x, some y =>
      match P.underlying t, op with
      | some .bool, .eql => some (.beq false x y)
      | some .bool, .neq => some (.beq true x y)
      | some (.slice _), .eql => match y with | .c (.vs true 0 []) => some (.nileq false x) | _ => none
      | some (.slice _), .neq => match y with | .c (.vs true 0 []) => some (.nileq true x) | _ => none
      | _, _ => some (.bin op x y)
    | _, _ => none
  | .unOp op _ x => (resOpd x).map (.un op)
  | .convert s d x =>
    match P.underlying s, P.underlying d with
    | some (.int _), some (.int k) => (resOpd x).map (.conv k)
    | some .string, some .string => (resOpd x).map .cstr
    | _, _ => none
  | .makeFunc (.func f) first caps => if first.size = 0 then (mapO resOpd caps.toList).map (.clos f) else none
  | .makeSlice t l c =>
    match P.underlying t with
    | some (.slice e) =>
      match P.info? e, Program.zeroA P e, resOpd l, resOpd c with
      | some i, some z, some l, some c => if 0 < i.size then some (.mkslice z i.bytes l c) else none
      | _, _, _, _ => none
    | _ => none
  | .slice t x lo hi mx =>
    match P.underlying t, resOpd x, resOpt lo, resOpt hi, resOpt mx with
    | some .string, some x, some lo, some hi, some none => some (.slc 0 x lo hi none)
    | some (.slice e), some x, some lo, some hi, some mx => match Program.size? P e with | some n => if 0 < n then some (.slc n x lo hi mx) else none | none => none
    | _, _, _, _, _ => none
  | .fieldAddr s x i =>
    match P.underlying s, resOpd x with
    | some (.struct fs), some x =>
      match fs[i]? with
      | some f => match Program.size? P f.type with | some n => if 0 < n then some (.faddr f.offset x) else none | none => none
      | none => none
    | _, _ => none
  | .field s x i =>
    match P.underlying s, resOpd x with
    | some (.struct fs), some x =>
      match fs[i]? with
      | some f => match Program.agg? P f.type, Program.size? P f.type with | some b, some n => some (.fld b f.offset n x) | _, _ => none
      | none => none
    | _, _ => none
  | .indexAddr t x i =>
    match P.underlying t, resOpd x, resOpd i with
    | some (.slice e), some x, some i => match Program.size? P e with | some n => if 0 < n then some (.iaddr n x i) else none | none => none
    | _, _, _ => none
  | .index t x i => match P.underlying t, resOpd x, resOpd i with | some .string, some x, some i => some (.idx x i) | _, _, _ => none
  | .extract x i => (resOpd x).map fun x => .ext x i
  | .call { callee := .builtin .len, args, argTypes } =>
    match args.toList, argTypes.toList with
    | [x], [t] =>
      match P.underlying t with
      | some .string => (resOpd x).map (.len true)
      | some (.slice _) => (resOpd x).map (.len false)
      | _ => none
    | _, _ => none
  | .call { callee := .builtin .append, args, argTypes } =>
    match args.toList, argTypes.toList with
    | [s, x], [t, u] =>
      match P.underlying t with
      | some (.slice e) =>
        match P.info? e, Program.zeroA P e, resOpd s, resOpd x with
        | some i, some _, some s, some x => if 0 < i.size ∧ t = u then some (.app i.size i.bytes s x) else none
        | _, _, _, _ => none
      | _ => none
    | _, _ => none
  | .call { callee := .builtin .max, args, argTypes := _ } =>
    match args.toList with
    | [x, y] => match resOpd x, resOpd y with | some x, some y => some (.max x y) | _, _ => none
    | _ => none
  | .call { callee := .value (.func f), args, argTypes := _ } => if Program.enterable P f then (mapO resOpd args.toList).map (.call f) else none
  | .call { callee := .value (.tmp t), args, argTypes := _ } => (mapO resOpd args.toList).map (.callv (.t t))
  | _ => none

/-- The slot of the operation that a guard names. -/
def resGuard (ops : List Oper) : Option (Nat × Bool) → Option (Option (Nat × Bool))
  | none => some none
  | some (j, want) =>
    match ops[j]? with
    | some o => match o.dst with | some d => some (some (d, want)) | none => none
    | none => none

def resRO (P : Program) (ops : List Oper) (o : Oper) : Option RO :=
  match resOp P o.op, resGuard ops o.guard with
  | some r, some g => some ⟨o.dst, r, g⟩
  | _, _ => none

/-! ### Which orders matter -/

def Opd.slots : Opd → List Nat
  | .t n => [n]
  | .c _ => []

def optSlots : Option Opd → List Nat
  | some x => x.slots
  | none => []

def ROp.slots : ROp → List Nat
  | .mov x | .box x | .ld _ _ x | .ldb _ _ x | .nilck x | .un _ x | .nileq _ x | .conv _ x | .cstr x | .faddr _ x | .fld _ _ _ x | .ext x _ | .len _ x => x.slots
  | .pick c a b => c.slots ++ a.slots ++ b.slots
  | .alloc _ => []
  | .build _ ps => ps.flatMap fun p => p.2.2.slots
  | .bslice _ _ ps => ps.flatMap fun p => p.2.slots
  | .st _ a x | .bin _ a x | .beq _ a x | .mkslice _ _ a x | .iaddr _ a x | .idx a x | .app _ _ a x | .max a x => a.slots ++ x.slots
  | .clos _ cs => cs.flatMap Opd.slots
  | .slc _ x a b c => x.slots ++ optSlots a ++ optSlots b ++ optSlots c
  | .call _ as => as.flatMap Opd.slots
  | .callv x as => x.slots ++ as.flatMap Opd.slots

def RO.slots (o : RO) : List Nat := o.op.slots ++ (match o.guard with | some (s, _) => [s] | none => [])

/-- Operations that may turn the boxes. -/
def ROp.writesB (c : Ctx) : ROp → Bool
  | .box _ | .alloc _ | .st .. | .callv .. => true
  | .call f _ => c.raw f
  | _ => false

/-- Operations that may turn the rows. -/
def ROp.writesF (c : Ctx) : ROp → Bool
  | .st .. | .mkslice .. | .app .. | .callv .. => true
  | .call f _ => c.raw f
  | _ => false

/-- Operations that look at the boxes. -/
def ROp.looksB (c : Ctx) : ROp → Bool
  | .box _ | .alloc _ | .st .. | .callv .. | .ld .. | .ldb .. => true
  | .call f _ => c.raw f
  | _ => false

/-- Operations that look at the rows. -/
def ROp.looksF : ROp → Bool
  | .st .. | .mkslice .. | .app .. | .callv .. | .call .. | .ld .. | .bslice .. | .iaddr .. | .slc .. => true
  | _ => false

def ROp.lax : ROp → ROp
  | .ld b n x => .ldb b n x
  | o => o

def RO.lax (o : RO) : RO := { o with op := o.op.lax }

/-- For each operation the set (as a number's bits) of those that surely come before it. -/
def before : List Oper → List Nat → List Nat
  | [], acc => acc
  | o :: rest, acc => before rest (acc ++ [o.after.toList.foldl (fun s e => if Region.binds .any e then s ||| 2 ^ e.on ||| acc.getD e.on 0 else s) 0])

def pairOk (c : Ctx) (bj : Nat) (i : Nat) (oi oj : RO) : Bool :=
  bj.testBit i ||
    ((match oi.dst with | some d => !oj.slots.contains d && oj.dst != some d | none => true) &&
     (match oj.dst with | some d => !oi.slots.contains d | none => true) &&
     !(oi.op.writesB c && oj.op.looksB c) && !(oi.op.looksB c && oj.op.writesB c) && !(oi.op.writesF c && oj.op.looksF) && !(oi.op.looksF && oj.op.writesF c))

def edgesOk : List Oper → Nat → Bool
  | [], _ => true
  | o :: rest, i => o.after.toList.all (fun e => !Region.binds .any e || decide (e.on < i)) && edgesOk rest (i + 1)

def pairsOk (c : Ctx) (bs : List Nat) (ros : List RO) : Bool :=
  (List.range ros.length).all fun j => (List.range j).all fun i =>
    match ros[i]?, ros[j]? with
    | some oi, some oj => pairOk c (bs.getD j 0) i oi oj && (match oi.dst, oj.dst with | some d, some e => d != e | _, _ => true)
    | _, _ => false

def orderOk (c : Ctx) (ops : List Oper) (ros : List RO) : Bool := edgesOk ops 0 && pairsOk c (before ops []) ros

def resCode (P : Program) (c : Ctx) : Code → Option RCode
  | .skip => some .skip
  | .region _ ops draw =>
    match mapO (resRO P ops.toList) ops.toList with
    | some ros =>
      if !draw || orderOk c ops.toList ros then some (.region draw ros)
      else if orderOk c ops.toList (ros.map RO.lax) then some (.region true (ros.map RO.lax)) else none
    | none => none
  | .seq a b => match resCode P c a, resCode P c b with | some a, some b => some (.seq a b) | _, _ => none
  | .cond q a b => match resOpd q, resCode P c a, resCode P c b with | some q, some a, some b => some (.cond q a b) | _, _, _ => none
  | .block id a => (resCode P c a).map (.block id)
  | .loop a => (resCode P c a).map .loop
  | .exit id => some (.exit id)
  | .ret => some .ret
  | _ => none

def resRes (P : Program) : ResultVar → Option RRes
  | .tmp t => some (.tmp t)
  | .cell a t => match Program.agg? P t, Program.size? P t with | some b, some n => some (.cell a b n) | _, _ => none

def resFunc (P : Program) (ctx : FuncId → Ctx) (f : FuncId) : Option RFunc :=
  if Program.enterable P f then
    match P.funcs[f]? with
    | some fn =>
      match fn.body with
      | some b =>
        match mapO (resRes P) fn.results.toList, resCode P (ctx f) b with
        | some rs, some rb => some ⟨fn.ntmps, rs, rb⟩
        | _, _ => none
      | none => none
    | none => none
  else none

end Go.Abs
