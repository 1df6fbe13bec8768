/- A part of the proof. -/
import Derived.Test.YtohjdamplbhdpaaGreatDoorSG28
set_option linter.all false
open List renaming all_eq_true->xk
namespace Go.Proofs.YtohjdamplbhdpaaGreatDoor
set_option maxHeartbeats 100000000 in
theorem sS:(Tryz.pinned.checked.prog.funcs.toList.all λfn=>!fn.goes)=true:=by kernel_rfl
theorem kH (c:OpenClaim) (h:c.start=.entering):false=c.goesBy Tryz.pinned.checked.prog:=by
 have key:∀g:FuncId,(Tryz.pinned.checked.prog.funcs[g]?).any Func.goes=false:=by
  intro g;cases h:Tryz.pinned.checked.prog.funcs[g]? with
  |none=>rfl
  |some fn =>
   have:=xk.1 sS fn (Array.mem_toList_iff.2 (Array.mem_of_getElem? h));simpa using this
 have any:Tryz.pinned.checked.prog.funcs.any Func.goes=false:=by
  rw[←Array.any_toList,List.any_eq_false];intro fn hf;have:=xk.1 sS fn hf;simpa using this
 have hp:∀f,Tryz.pinned.checked.prog.goes f=false:=by
  intro f;unfold Program.goes;rw[any,Bool.and_false,Bool.or_false];simp only[key];simp
 unfold OpenClaim.goesBy Program.goesAt Program.goesFrom;rw[h];cases Tryz.pinned.checked.prog.funcNamed c.func with
 |none=>rfl
 |some f=>simp[hp]
end Go.Proofs.YtohjdamplbhdpaaGreatDoor
