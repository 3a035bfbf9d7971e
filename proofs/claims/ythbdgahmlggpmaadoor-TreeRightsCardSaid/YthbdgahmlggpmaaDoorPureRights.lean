/- TreeRights (lamella/lamellalaw10.TreeRights): whether every list is a tree, and the inode of every Id, are the document's: for every list and Id the law answers true. -/
import Derived.Test.YthbdgahmlggpmaaDoorS0
import Derived.Test.YthbdgahmlggpmaaDoorQ17
namespace Go.Proofs.YthbdgahmlggpmaaDoor.Q.Pure
open Go.RowKit Go.Proofs.YthbdgahmlggpmaaDoorW.PrintWords Go.Proofs.YthbdgahmlggpmaaDoorW.PrintLast Go.Proofs.YthbdgahmlggpmaaDoor.Q
set_option linter.unusedVariables false
set_option linter.unusedSimpArgs false
theorem TreeRights (l0 : List S34) (a1 : Int) (hl : l0.length ≤ maxLen ∧ ∀ x ∈ l0, (Lit.int .u32 x.f0).wf = true ∧ (Lit.int .u32 x.f1).wf = true ∧ x.f2.size ≤ maxLen ∧ True ∧ (Lit.int .u32 x.f4).wf = true) (h1 : (Lit.int .u32 a1).wf = true) :
    ∃ k, w10_TreeRights.f k l0 a1 = some true := by
  have hw := wfL_of l0 hl.2
  have ha := u32_of h1
  refine ⟨2000, ?_⟩
  unfold w10_TreeRights.f
  rw [alive_t]
  simp only [Option.bind_some, if_true]
  rcases great_cases l0 ⟨#[]⟩ ⟨#[]⟩ 2000 (by omega) with hg | ⟨hg, hlen, _, _⟩
  · rw [hg]
    rfl
  · rw [hg]
    simp only [Option.bind_some, Bool.false_eq_true, if_false]
    unfold r10_Right.f tree_Get.f tree_Right.f
    rw [if_pos hw, if_pos hw, rightN_eq l0 hw, rget_f l0 (by unfold maxLen; omega) a1 2000 (by omega)]
    simp only [Option.bind_some, bne_self_eq_false, Bool.false_eq_true, if_false, if_true]
    cases hr : rightB l0 with
    | false =>
      simp only [Bool.false_eq_true, if_false, Option.bind_some]
      show w10_TreeRights.j0 2000 l0 false (getN l0 a1) false 0 0 ⟨#[]⟩ false 0 = some true
      simp only [w10_TreeRights.j0, Bool.false_eq_true, if_false]
      rw [ByteArray.toList_eq]
      rfl
    | true =>
      have hup := right_up hr hw
      simp only [if_true]
      rw [get_f l0 a1 (by omega) ha.1 ha.2 hup]
      simp only [Option.bind_some]
      rcases getN_cases l0 a1 with ⟨h2, h3⟩ | ⟨p, hp, h2, h3, h4⟩
      · rw [h2, h3]
        show w10_TreeRights.j0 2000 l0 false (-1) false 0 0 ⟨#[]⟩ false 0 = some true
        simp only [w10_TreeRights.j0, Bool.false_eq_true, if_false]
        rw [ByteArray.toList_eq]
        rfl
      · rw [h2, h3]
        show w10_TreeRights.j0 2000 l0 true (p : Int) (true != (decide ((p : Int) ≥ 0))) l0[p].f0 l0[p].f1 l0[p].f2 l0[p].f3 l0[p].f4 = some true
        rw [decide_eq_true (show (p : Int) ≥ 0 by omega)]
        simp only [w10_TreeRights.j0, bne_self_eq_false, Bool.false_eq_true, if_false, if_true]
        rw [if_pos (by omega), if_pos (by omega), rd34_get _ _ hp]
        simp
end Go.Proofs.YthbdgahmlggpmaaDoor.Q.Pure
