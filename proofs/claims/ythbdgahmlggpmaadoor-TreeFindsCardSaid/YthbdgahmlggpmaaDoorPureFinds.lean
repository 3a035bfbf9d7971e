/- TreeFinds (lamella/lamellalaw10.TreeFinds): every path's names, what is walked to, and the names in it, or the error: for every list and path the law answers true. -/
import Derived.Test.YthbdgahmlggpmaaDoorT18
namespace Go.Proofs.YthbdgahmlggpmaaDoor.Q.Pure
open Go.RowKit Go.Proofs.YthbdgahmlggpmaaDoorW.PrintWords Go.Proofs.YthbdgahmlggpmaaDoorW.PrintLast Go.Proofs.YthbdgahmlggpmaaDoor.Q
theorem TreeFinds (l0 : List S34) (a1 : ByteArray) (hl : l0.length ≤ maxLen ∧ ∀ x ∈ l0, (Lit.int .u32 x.f0).wf = true ∧ (Lit.int .u32 x.f1).wf = true ∧ x.f2.size ≤ maxLen ∧ True ∧ (Lit.int .u32 x.f4).wf = true) (_ : a1.size ≤ maxLen) :
    ∃ k, w10_TreeFinds.f k l0 a1 = some true := by
  refine ⟨0, ?_⟩
  unfold w10_TreeFinds.f
  rw [if_pos (wfL_of l0 hl.2)]
end Go.Proofs.YthbdgahmlggpmaaDoor.Q.Pure
