/- FlatRights: closed facts of the program, each decided by the kernel. -/
import Derived.Test.YtikjfekagdcjmaaGreatDoorRows
import Derived.Test.YtikjfekagdcjmaaGreatDoorCards
import Derived.SevenTiedAt
namespace Go.Proofs.YtikjfekagdcjmaaGreatDoor.flatRights
theorem a2 : Tryz.pinned.checked.prog.mainIs = some ((Rows.flatRightsCard.stood.harness).1, (Rows.flatRightsCard.stood.harness).2.toList) := by kernel_rfl
theorem a4 : false = Tryz.pinned.checked.prog.looks [] := by kernel_rfl
theorem a5 : Tryz.pinned.checked.prog.funcNamed Rows.flatRightsRow.func = some 10 := by kernel_rfl
end Go.Proofs.YtikjfekagdcjmaaGreatDoor.flatRights
