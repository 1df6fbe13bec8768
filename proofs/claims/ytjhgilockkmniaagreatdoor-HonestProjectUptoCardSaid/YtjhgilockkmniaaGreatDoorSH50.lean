/- A part of the proof. -/
import Derived.Test.YtjhgilockkmniaaGreatDoorSH48
import Derived.Test.YtjhgilockkmniaaGreatDoorSH49
import Derived.KernelRfl
set_option linter.all false
set_option maxRecDepth 100000
namespace Go.Abs.Q
def rN:Told:=⟨5,[],(.bool true)⟩
theorem gM:pc Qf rN.f rN.args=some rN.r:=by
 refine CQ (K:=HB [qF,d0,mK] JV) (AJ ?_ Hd) 3000 ?_
 .simp only[List.mem_cons,List.not_mem_nil,or_false];rintro x (rfl|rfl|rfl)
  .exact gL
  .exact jy
  .exact Xg
 .kernel_rfl
end Go.Abs.Q
