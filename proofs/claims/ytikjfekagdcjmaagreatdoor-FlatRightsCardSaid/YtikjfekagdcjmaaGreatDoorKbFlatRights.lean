/- FlatRights: closed facts of the program, each decided by the kernel. -/
import Derived.Test.YtikjfekagdcjmaaGreatDoorRows
import Derived.JoinedCond
namespace Go.Proofs.YtikjfekagdcjmaaGreatDoor.flatRights
theorem k3 : (Rows.flatRightsRow.recurses == Tryz.pinned.checked.prog.recurses 10) = true := by kernel_rfl
theorem k4 : (Rows.flatRightsRow.named == Tryz.pinned.checked.prog.varsNamed 10) = true := by kernel_rfl
end Go.Proofs.YtikjfekagdcjmaaGreatDoor.flatRights
