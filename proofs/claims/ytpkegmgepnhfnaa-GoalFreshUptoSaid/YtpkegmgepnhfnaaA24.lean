/- Laws by which simp carries out resolved code on symbolic values. -/
import Derived.Test.YtpkegmgepnhfnaaA22
namespace Go.Abs

def look (fr : Fr) (n : Nat) : AV := fr.getD n undefA

@[simp] theorem get_t (fr : Fr) (n : Nat) : get fr (.t n) = look fr n := _root_.id rfl
@[simp] theorem get_c (fr : Fr) (v : AV) : get fr (.c v) = v := _root_.id rfl
@[simp] theorem put_some (fr : Fr) (d : Nat) (v : AV) : put fr (some d) v = List.set fr d v := _root_.id rfl
@[simp] theorem put_none (fr : Fr) (v : AV) : put fr none v = fr := _root_.id rfl
theorem look_set_ne (fr : Fr) {i j : Nat} (v : AV) (h : i ≠ j) : look (List.set fr i v) j = look fr j := by
  simp [look, List.getD, List.getElem?_set_ne h]
theorem look_set_eq (fr : Fr) {i j : Nat} (v : AV) (e : i = j) (h : i < fr.length) : look (List.set fr i v) j = v := by
  subst e
  simp [look, List.getD, List.getElem?_set_self h]

/-- An operation's answer, and the operations that go on with it. -/
def nxt (r : Option (AV × AH)) (O : Orc) (c : Ctx) (d : Option Nat) (ros : List RO) (fr : Fr) : Option (Fr × AH) := match r with | some (v, h) => evalOps O c ros (put fr d v) h | none => none
@[congr] theorem nxt_congr {r r' : Option (AV × AH)} {O : Orc} {c : Ctx} {d : Option Nat} {ros : List RO} {fr : Fr} (h : r = r') : nxt r O c d ros fr = nxt r' O c d ros fr := by rw [h]
@[simp] theorem nxt_some (v : AV) (h : AH) (O : Orc) (c : Ctx) (d : Option Nat) (ros : List RO) (fr : Fr) : nxt (some (v, h)) O c d ros fr = evalOps O c ros (put fr d v) h := _root_.id rfl

/-- A guard. -/
def grd (b : AV) (w : Bool) (O : Orc) (c : Ctx) (d : Option Nat) (op : ROp) (ros : List RO) (fr : Fr) (h : AH) : Option (Fr × AH) :=
  match b with
  | .bool b => if b = w then nxt (evalOp O c op fr h) O c d ros fr else evalOps O c ros (put fr d undefA) h
  | .tup _ => evalOps O c ros (put fr d undefA) h
  | _ => none
@[congr] theorem grd_congr {b b' : AV} {w : Bool} {O : Orc} {c : Ctx} {d : Option Nat} {op : ROp} {ros : List RO} {fr : Fr} {h : AH} (e : b = b') : grd b w O c d op ros fr h = grd b' w O c d op ros fr h := by rw [e]
section
variable (O : Orc) (c : Ctx) (d : Option Nat) (op : ROp) (ros : List RO) (fr : Fr) (h : AH)
@[simp] theorem grd_tt : grd (.bool true) true O c d op ros fr h = nxt (evalOp O c op fr h) O c d ros fr := _root_.id rfl
@[simp] theorem grd_ff : grd (.bool false) false O c d op ros fr h = nxt (evalOp O c op fr h) O c d ros fr := _root_.id rfl
@[simp] theorem grd_tf : grd (.bool true) false O c d op ros fr h = evalOps O c ros (put fr d undefA) h := _root_.id rfl
@[simp] theorem grd_ft : grd (.bool false) true O c d op ros fr h = evalOps O c ros (put fr d undefA) h := _root_.id rfl
@[simp] theorem grd_un (l : List AV) (w : Bool) : grd (.tup l) w O c d op ros fr h = evalOps O c ros (put fr d undefA) h := _root_.id rfl
end
@[simp] theorem undef_tup : undefA = .tup [] := _root_.id rfl

/-- A branch. -/
def brn (b : AV) (O : Orc) (c : Ctx) (x y : RCode) (fr : Fr) (h : AH) : Option (Ex × St) := match b with | .bool true => evalCode O c x (fr, h) | .bool false => evalCode O c y (fr, h) | _ => none
@[congr] theorem brn_congr {b b' : AV} {O : Orc} {c : Ctx} {x y : RCode} {fr : Fr} {h : AH} (e : b = b') : brn b O c x y fr h = brn b' O c x y fr h := by rw [e]
@[simp] theorem brn_t (O : Orc) (c : Ctx) (x y : RCode) (fr : Fr) (h : AH) : brn (.bool true) O c x y fr h = evalCode O c x (fr, h) := _root_.id rfl
@[simp] theorem brn_f (O : Orc) (c : Ctx) (x y : RCode) (fr : Fr) (h : AH) : brn (.bool false) O c x y fr h = evalCode O c y (fr, h) := _root_.id rfl

/-- Code, and what goes on behind it. -/
def sqn (r : Option (Ex × St)) (O : Orc) (c : Ctx) (y : RCode) : Option (Ex × St) := match r with | some (.normal, fr, h) => evalCode O c y (fr, h) | r => r
@[congr] theorem sqn_congr {r r' : Option (Ex × St)} {O : Orc} {c : Ctx} {y : RCode} (h : r = r') : sqn r O c y = sqn r' O c y := by rw [h]
@[simp] theorem sqn_n (fr : Fr) (h : AH) (O : Orc) (c : Ctx) (y : RCode) : sqn (some (.normal, fr, h)) O c y = evalCode O c y (fr, h) := _root_.id rfl
@[simp] theorem sqn_r (s : St) (O : Orc) (c : Ctx) (y : RCode) : sqn (some (.ret, s)) O c y = some (.ret, s) := _root_.id rfl
@[simp] theorem sqn_e (i : Nat) (s : St) (O : Orc) (c : Ctx) (y : RCode) : sqn (some (.exit i, s)) O c y = some (.exit i, s) := _root_.id rfl

def kbl (id : Nat) (r : Option (Ex × St)) : Option (Ex × St) := match r with | some (.exit i, s) => if i = id then some (.normal, s) else some (.exit i, s) | r => r
@[simp] theorem kbl_n (id : Nat) (s : St) : kbl id (some (.normal, s)) = some (.normal, s) := _root_.id rfl
@[simp] theorem kbl_r (id : Nat) (s : St) : kbl id (some (.ret, s)) = some (.ret, s) := _root_.id rfl
@[simp] theorem kbl_e (id : Nat) (s : St) : kbl id (some (.exit id, s)) = some (.normal, s) := by simp [kbl]
theorem kbl_o {id i : Nat} (h : i ≠ id) (s : St) : kbl id (some (.exit i, s)) = some (.exit i, s) := by simp [kbl, h]

/-- A function's end. -/
def kend {β : Type} (r : Option (Ex × St)) (k : Fr → AH → Option β) : Option β := match r with | some (.normal, fr, h) => k fr h | some (.ret, fr, h) => k fr h | _ => none
@[congr] theorem kend_congr {β : Type} {r r' : Option (Ex × St)} {k : Fr → AH → Option β} (h : r = r') : kend r k = kend r' k := by rw [h]
@[simp] theorem kend_n {β : Type} (fr : Fr) (h : AH) (k : Fr → AH → Option β) : kend (some (.normal, fr, h)) k = k fr h := _root_.id rfl
@[simp] theorem kend_r {β : Type} (fr : Fr) (h : AH) (k : Fr → AH → Option β) : kend (some (.ret, fr, h)) k = k fr h := _root_.id rfl

section
variable {O : Orc} {c : Ctx}

@[simp] theorem ops_nil (fr : Fr) (h : AH) : evalOps O c [] fr h = some (fr, h) := _root_.id rfl
@[simp] theorem ops_cons (d : Option Nat) (op : ROp) (ros : List RO) (fr : Fr) (h : AH) : evalOps O c (⟨d, op, none⟩ :: ros) fr h = nxt (evalOp O c op fr h) O c d ros fr := by
  simp only [evalOps, wantedA, nxt]
  cases evalOp O c op fr h with
  | none => rfl
  | some x => rfl
@[simp] theorem ops_guard (d : Option Nat) (op : ROp) (s : Nat) (w : Bool) (ros : List RO) (fr : Fr) (h : AH) :
    evalOps O c (⟨d, op, some (s, w)⟩ :: ros) fr h = grd (look fr s) w O c d op ros fr h := by
  simp only [evalOps, wantedA, look, grd, nxt]
  cases fr.getD s undefA with
  | bool b =>
    dsimp only
    cases b <;> cases w <;> simp <;> cases evalOp O c op fr h <;> rfl
  | _ => rfl

def krg (r : Option (Fr × AH)) : Option (Ex × St) := match r with | some s => some (.normal, s) | none => none
@[simp] theorem krg_s (s : St) : krg (some s) = some (.normal, s) := _root_.id rfl
@[simp] theorem code_skip (s : St) : evalCode O c .skip s = some (.normal, s) := _root_.id rfl
@[simp] theorem code_region (d : Bool) (ops : List RO) (fr : Fr) (h : AH) : evalCode O c (.region d ops) (fr, h) = krg (evalOps O c ops fr h) := _root_.id rfl
@[simp] theorem code_seq (a b : RCode) (s : St) : evalCode O c (.seq a b) s = sqn (evalCode O c a s) O c b := by
  simp only [evalCode, sqn]
  split <;> simp_all
@[simp] theorem code_cond (q : Opd) (a b : RCode) (fr : Fr) (h : AH) : evalCode O c (.cond q a b) (fr, h) = brn (get fr q) O c a b fr h := by
  simp only [evalCode, brn]
  cases get fr q with
  | bool b => cases b <;> rfl
  | _ => rfl
@[simp] theorem code_block (id : Nat) (a : RCode) (s : St) : evalCode O c (.block id a) s = kbl id (evalCode O c a s) := by
  simp only [evalCode, kbl]
  split <;> simp_all
@[simp] theorem code_exit (id : Nat) (s : St) : evalCode O c (.exit id) s = some (.exit id, s) := _root_.id rfl
@[simp] theorem code_ret (s : St) : evalCode O c .ret s = some (.ret, s) := _root_.id rfl
theorem code_loop {C : Cfg} (a : RCode) (s : St) : evalCode (lim C) c (.loop a) s = lp (evalCode (lim C) c a) s := _root_.id rfl
end

/-- A call of a function that shares no heap. -/
def kcl (ys : Option (List AV)) (k : List AV → Option AV) (tm : Bool) (h : AH) : Option (AV × AH) :=
  match ys with | none => none | some ys => match k ys with | some r => if r.scalar || tm then some (r, h) else none | none => none

theorem op_call {C : Cfg} {c : Ctx} {f : FuncId} (hr : c.raw f = false) (xs : List Opd) (fr : Fr) (h : AH) :
    evalOp (lim C) c (.call f xs) fr h = kcl (frzAll h true (xs.map (get fr))) (fun ys => pc C f ys) ((xs.map (get fr)).all (tame h)) h := by
  simp only [evalOp, callA, hr, kcl]
  rw [if_neg (by simp)]
  cases frzAll h true (xs.map (get fr)) with
  | none => rfl
  | some ys =>
    show (match pc C f ys with | none => none | some r => _) = _
    cases hp : pc C f ys with
    | none => simp only [hp]
    | some r => simp only [hp]
theorem op_callr {C : Cfg} {c : Ctx} {f : FuncId} (hr : c.raw f = true) (xs : List Opd) (fr : Fr) (h : AH) :
    evalOp (lim C) c (.call f xs) fr h = rc C f (xs.map (get fr)) h := by
  simp only [evalOp, callA, hr]
  rfl

/-- A result laid to rest. -/
def fin (rs : List RRes) (fr : Fr) (h : AH) : Option AV := (resA fr h rs).bind fun vs => frzRes h (tupled vs)

theorem look_start {rf : RFunc} {args : List AV} (h : args.length ≤ rf.ntmps) : (startFr rf args).length = rf.ntmps ∧ ∀ i, look (startFr rf args) i = args.getD i undefA := by
  refine ⟨by simp [startFr]; omega, fun i => ?_⟩
  simp only [look, startFr, List.getD]
  by_cases hi : i < args.length
  · rw [List.getElem?_append_left hi]
  · rw [List.getElem?_append_right (by omega), List.getElem?_eq_none (l := args) (by omega), List.getElem?_replicate]
    split <;> rfl

/-- The contract of a pure function, from its body. -/
theorem pc_run {C : Cfg} {f : FuncId} {rf : RFunc} {args : List AV} {r : AV} (hs : C.spec f = none) (hc : C.code f = some rf) (hl : args.length ≤ rf.ntmps)
    (H : ∀ fr : Fr, fr.length = rf.ntmps → (∀ i, look fr i = args.getD i undefA) → kend (evalCode (lim C) (C.ctx f) rf.body (fr, ⟨[], []⟩)) (fin rf.results) = some r) : pc C f args = some r := by
  have := H (startFr rf args) (look_start hl).1 (look_start hl).2
  apply pc_of
  unfold pureA rawA
  simp only [hs, hc]
  unfold evalBody kend fin at *
  cases he : evalCode (lim C) (C.ctx f) rf.body (startFr rf args, AH.empty) with
  | none => rw [show (⟨[], []⟩ : AH) = AH.empty from rfl, he] at this; cases this
  | some x =>
    rw [show (⟨[], []⟩ : AH) = AH.empty from rfl, he] at this
    obtain ⟨e, fr, h⟩ := x
    cases e with
    | exit i => cases this
    | normal => cases hr : resA fr h rf.results with | none => simp [hr] at this | some vs => simpa [hr] using this
    | ret => cases hr : resA fr h rf.results with | none => simp [hr] at this | some vs => simpa [hr] using this

/-- The contract of a function that shares the heap, from its body. -/
theorem rc_run {C : Cfg} {f : FuncId} {rf : RFunc} {args : List AV} {h : AH} {r : AV × AH} (hc : C.code f = some rf) (hl : args.length ≤ rf.ntmps)
    (H : ∀ fr : Fr, fr.length = rf.ntmps → (∀ i, look fr i = args.getD i undefA) → kend (evalCode (lim C) (C.ctx f) rf.body (fr, h)) (fun fr h => (resA fr h rf.results).map fun vs => (tupled vs, h)) = some r) : rc C f args h = some r := by
  have := H (startFr rf args) (look_start hl).1 (look_start hl).2
  apply rc_of
  unfold rawA
  simp only [hc]
  unfold evalBody kend at *
  cases he : evalCode (lim C) (C.ctx f) rf.body (startFr rf args, h) with
  | none => rw [he] at this; cases this
  | some x =>
    rw [he] at this
    obtain ⟨e, fr, h⟩ := x
    cases e with
    | exit i => cases this
    | normal => exact this
    | ret => exact this

end Go.Abs
