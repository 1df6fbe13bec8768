/- The settings under which the functions are taken. -/
import Derived.Test.YtpkegmgepnhfnaaC2
import Derived.Test.YtpkegmgepnhfnaaA26
namespace Go.Abs.Q
open Go.Proofs

def cmpBytes (a b : ByteArray) : Int := if Op.bytesLess a.toList b.toList then -1 else if a.toList = b.toList then 0 else 1
def specCmp : List AV → Option AV
  | [.str a, .str b] => some (.int .i64 (cmpBytes a b))
  | _ => none
def specF (f : FuncId) : Option (List AV → Option AV) := if f = n_bytealg_CompareString then some specCmp else none
noncomputable def Q : Cfg := ⟨resFunc Try.prog ctxF, ctxF, specF⟩
@[simp] theorem Q_ctx (f : FuncId) : Q.ctx f = ctxF f := _root_.id rfl
@[simp] theorem ctxF_raw (f : FuncId) : (ctxF f).raw = rawF := _root_.id rfl
@[simp] theorem ctxF_mut (f : FuncId) : (ctxF f).mutApp = mutF f := _root_.id rfl
theorem pc_cmp (a b : ByteArray) : pc Q n_bytealg_CompareString [.str a, .str b] = some (.int .i64 (cmpBytes a b)) := by
  apply pc_of
  unfold pureA
  rfl
theorem pcQ {f : FuncId} {rf : RFunc} {args : List AV} {r : AV} (hc : resFunc Try.prog ctxF f = some rf) (hs : specF f = none) (hl : args.length ≤ rf.ntmps)
    (H : ∀ fr : Fr, fr.length = rf.ntmps → (∀ i, look fr i = args.getD i undefA) → Ends (evalCode (lim Q) (ctxF f) rf.body (fr, ⟨[], []⟩)) (FIN rf.results r)) : pc Q f args = some r :=
  pc_ends (C := Q) hs hc hl H
theorem rcQ {f : FuncId} {rf : RFunc} {args : List AV} {h : AH} {Φ : AV → AH → Prop} (hc : resFunc Try.prog ctxF f = some rf) (hl : args.length ≤ rf.ntmps)
    (H : ∀ fr : Fr, fr.length = rf.ntmps → (∀ i, look fr i = args.getD i undefA) → Ends (evalCode (lim Q) (ctxF f) rf.body (fr, h)) (RFIN rf.results Φ)) : ∃ v h', rc Q f args h = some (v, h') ∧ Φ v h' :=
  rc_ends (C := Q) hc hl H
end Go.Abs.Q
