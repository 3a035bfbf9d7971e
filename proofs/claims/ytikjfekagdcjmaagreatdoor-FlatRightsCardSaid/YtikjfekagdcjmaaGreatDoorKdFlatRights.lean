/- FlatRights: closed facts of the program, each decided by the kernel. -/
import Derived.Test.YtikjfekagdcjmaaGreatDoorRows
import Derived.Test.YtikjfekagdcjmaaGreatDoorCards
import Derived.SevenTiedAt
namespace Go.Proofs.YtikjfekagdcjmaaGreatDoor.flatRights
theorem a3 : false = Rows.flatRightsRow.goesBy Tryz.pinned.checked.prog := by kernel_rfl
end Go.Proofs.YtikjfekagdcjmaaGreatDoor.flatRights
