/- A part of the proof. -/
import Derived.Test.YtjhgilockkmniaaGreatDoorSJ48
import Derived.Test.YtjhgilockkmniaaGreatDoorSJ49
import Derived.KernelRfl
set_option linter.all false
set_option maxRecDepth 100000
namespace Go.Abs.Q
def sS:Told:=⟨5,[],(.bool true)⟩
theorem iG:pc Qf sS.f sS.args=some sS.r:=by
 refine CZ (K:=HJ [qu,d0,nD] Jg) (AX ?_ Hm) 3000 ?_
 .simp only[List.mem_cons,List.not_mem_nil,or_false];rintro x (rfl|rfl|rfl)
  .exact iF
  .exact kh
  .exact YJ
 .kernel_rfl
end Go.Abs.Q
