/- Contracts: the examples of the chapter. -/
import Derived.Test.YtpkegmgepnhfnaaD0
import Derived.KernelRfl
namespace Go.Abs.Q
open Go.Proofs
theorem awake_orc : (orc Q 20).pure n_law27_awake [] = some (.bool true) := by kernel_rfl
theorem pc_awake : pc Q n_law27_awake [] = some (.bool true) := orc_pc Q awake_orc
end Go.Abs.Q
