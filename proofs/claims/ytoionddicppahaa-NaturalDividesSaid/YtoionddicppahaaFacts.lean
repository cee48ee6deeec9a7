/- Closed facts about the types of the program. -/
import Derived.Test.YtoionddicppahaaOps2
import Derived.Test.YtoionddicppahaaProg
import Derived.KernelRfl
namespace Go.Proofs.Ytoionddicppahaa
open Bk
theorem info5 : Try.prog.info? 5 = some Try.t5 := by kernel_rfl
theorem info45 : Try.prog.info? 45 = some Try.t45 := by kernel_rfl
theorem mixed : Try.prog.follows .mixedOrders = true := by kernel_rfl
end Go.Proofs.Ytoionddicppahaa
