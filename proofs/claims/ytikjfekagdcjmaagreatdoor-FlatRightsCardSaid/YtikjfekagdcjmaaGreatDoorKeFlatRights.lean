/- FlatRights: closed facts of the program, each decided by the kernel. -/
import Derived.Test.YtikjfekagdcjmaaGreatDoorRows
import Derived.JoinedCond
import Derived.Test.YtikjfekagdcjmaaGreatDoorKaFlatRights
import Derived.Test.YtikjfekagdcjmaaGreatDoorKbFlatRights
namespace Go.Proofs.YtikjfekagdcjmaaGreatDoor.flatRights
theorem k5 : laidOutB Tryz.pinned.checked.prog = true := by kernel_rfl
theorem k6 : mapsRowed Tryz.pinned.checked.prog = true := by kernel_rfl
theorem closed : joinedFacts Tryz.pinned.checked.prog 10 Tryz.f10 (OpenSpec.ofChange Rows.flatRightsSpec).bare Rows.flatRightsRow = true := by
  unfold joinedFacts
  rw [k1, k2, k3, k4, k5, k6]
  kernel_rfl
end Go.Proofs.YtikjfekagdcjmaaGreatDoor.flatRights
