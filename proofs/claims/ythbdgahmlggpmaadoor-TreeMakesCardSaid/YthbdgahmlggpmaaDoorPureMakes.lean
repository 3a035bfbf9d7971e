/- TreeMakes (lamella/lamellalaw10.TreeMakes): every tree with one more, or one less, or why there is none, is the document's: for every list, path, Id and kind the law answers true. -/
import Derived.Test.YthbdgahmlggpmaaDoorR7
import Derived.Test.YthbdgahmlggpmaaDoorQ23
namespace Go.Proofs.YthbdgahmlggpmaaDoor.Q.Pure
open Go.RowKit Go.Proofs.YthbdgahmlggpmaaDoorW.PrintWords Go.Proofs.YthbdgahmlggpmaaDoorW.PrintLast Go.Proofs.YthbdgahmlggpmaaDoor.Q
theorem TreeMakes (l0 : List S34) (a1 : ByteArray) (a2 : Int) (a3 : Bool) (hl : l0.length ≤ maxLen ∧ ∀ x ∈ l0, (Lit.int .u32 x.f0).wf = true ∧ (Lit.int .u32 x.f1).wf = true ∧ x.f2.size ≤ maxLen ∧ True ∧ (Lit.int .u32 x.f4).wf = true) (_ : a1.size ≤ maxLen) (h2 : (Lit.int .u32 a2).wf = true) :
    ∃ k, w10_TreeMakes.f k l0 a1 a2 a3 = some true := by
  have hw := wfL_of l0 hl.2
  have ha := u32_of h2
  refine ⟨6000, ?_⟩
  unfold w10_TreeMakes.f
  rw [alive_t]
  simp only [Option.bind_some, if_true]
  rcases great_cases l0 a1 ⟨#[]⟩ 6000 (by omega) with hg | ⟨hg, hlen, h1, _⟩
  · rw [hg]
    rfl
  · rw [hg]
    simp only [Option.bind_some, Bool.false_eq_true, if_false]
    have m1 := makeF_len l0 hlen a1 a2 a3
    have m2 := remF_len l0 hlen a1 a3
    rw [make_f l0 hw a1 a2 a3 h1 ha.1 ha.2, rmake_f l0 hw hlen a1 a2 a3 h1 6000 (by omega), remove_f l0 hw a1 a3 h1, rremove_f l0 hw hlen a1 a3 h1 6000 (by omega)]
    simp only [Option.bind_some]
    rw [same_f _ (by omega) 6000 (by omega)]
    simp only [Option.bind_some, if_true]
    have m3 : (tup (remF l0 a1 a3)).1.length ≤ 101 := m2
    rw [same_f _ (by omega) 6000 (by omega)]
    simp
end Go.Proofs.YthbdgahmlggpmaaDoor.Q.Pure
