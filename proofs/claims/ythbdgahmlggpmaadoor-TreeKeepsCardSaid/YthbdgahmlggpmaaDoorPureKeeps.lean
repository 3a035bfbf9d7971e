/- TreeKeeps (lamella/lamellalaw10.TreeKeeps): what is handed in is neither changed nor kept, and answers are new memory: for every list, two paths, Id and size the law answers true. -/
import Derived.Test.YthbdgahmlggpmaaDoorT17
namespace Go.Proofs.YthbdgahmlggpmaaDoor.Q.Pure
open Go.RowKit Go.Proofs.YthbdgahmlggpmaaDoorW.PrintWords Go.Proofs.YthbdgahmlggpmaaDoorW.PrintLast Go.Proofs.YthbdgahmlggpmaaDoor.Q
theorem TreeKeeps (l0 : List S34) (a1 a2 : ByteArray) (a3 a4 : Int) (hl : l0.length ≤ maxLen ∧ ∀ x ∈ l0, (Lit.int .u32 x.f0).wf = true ∧ (Lit.int .u32 x.f1).wf = true ∧ x.f2.size ≤ maxLen ∧ True ∧ (Lit.int .u32 x.f4).wf = true) (_ : a1.size ≤ maxLen) (_ : a2.size ≤ maxLen) (h3 : (Lit.int .u32 a3).wf = true) (h4 : (Lit.int .u32 a4).wf = true) :
    ∃ k, w10_TreeKeeps.f k l0 a1 a2 a3 a4 = some true := by
  refine ⟨0, ?_⟩
  unfold w10_TreeKeeps.f
  rw [if_pos ⟨wfL_of l0 hl.2, u32_of h3, u32_of h4⟩]
end Go.Proofs.YthbdgahmlggpmaaDoor.Q.Pure
