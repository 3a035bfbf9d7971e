/- PagesKeeps (lamella/lamellalaw07.PagesKeeps): what is handed in is neither changed nor kept, and answers are new memory: for every list, place and text the law answers true. -/
import Derived.Test.YtojnmgogigamdaaDoorK2
namespace Go.Proofs.YtojnmgogigamdaaDoor.Q.Pure
open Go.RowKit Go.Proofs.YtojnmgogigamdaaDoorW.PrintWords Go.Proofs.YtojnmgogigamdaaDoorW.PrintLast Go.Proofs.YtojnmgogigamdaaDoor.Q
theorem PagesKeeps (l0 : List S45) (a1 : Int) (a2 : ByteArray) (_ : l0.length ≤ maxLen ∧ ∀ x ∈ l0, ((Lit.int .i64 x.f0).wf = true ∧ x.f1.size ≤ maxLen)) (_ : (Lit.int .i64 a1).wf = true) (_ : a2.size ≤ maxLen) :
    ∃ k, w7_PagesKeeps.f k l0 a1 a2 = some true := ⟨0, rfl⟩
end Go.Proofs.YtojnmgogigamdaaDoor.Q.Pure
