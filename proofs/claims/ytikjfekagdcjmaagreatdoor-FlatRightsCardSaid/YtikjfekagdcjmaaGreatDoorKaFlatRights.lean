/- FlatRights: closed facts of the program, each decided by the kernel. -/
import Derived.Test.YtikjfekagdcjmaaGreatDoorRows
import Derived.JoinedCond
namespace Go.Proofs.YtikjfekagdcjmaaGreatDoor.flatRights
theorem k1 : (Rows.flatRightsRow.inPlace == Tryz.pinned.checked.prog.inPlace 10) = true := by kernel_rfl
theorem k2 : (Rows.flatRightsRow.unfollowed == Tryz.pinned.checked.prog.unfollowed 10) = true := by kernel_rfl
end Go.Proofs.YtikjfekagdcjmaaGreatDoor.flatRights
