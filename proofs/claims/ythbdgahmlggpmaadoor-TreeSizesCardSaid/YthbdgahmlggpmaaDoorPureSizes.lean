/- TreeSizes (lamella/lamellalaw10.TreeSizes): every tree with another size, or why there is none, is the document's: for every list, Id and size the law answers true. -/
import Derived.Test.YthbdgahmlggpmaaDoorS0
import Derived.Test.YthbdgahmlggpmaaDoorQ19
namespace Go.Proofs.YthbdgahmlggpmaaDoor.Q
open Go.RowKit Go.Proofs.YthbdgahmlggpmaaDoorW.PrintWords Go.Proofs.YthbdgahmlggpmaaDoorW.PrintLast
set_option linter.unusedVariables false
set_option linter.unusedSimpArgs false
theorem rresize_f (l : List S34) (hw : wfL l = true) (hl : l.length ≤ 100) (id size : Int) (h0 : 0 ≤ id) (h1 : id ≤ 4294967295) (k : Nat) (hk : l.length < k) : r10_Resize.f k l id size = some (resizeF l id size) := by
  unfold r10_Resize.f resizeF r10_Right.f
  rw [if_pos hw, rightN_eq l hw]
  simp only [Option.bind_some]
  cases hr : rightB l with
  | false => rfl
  | true =>
    have hup := up_of_upB l (right_up hr hw)
    simp only [if_true]
    rw [rget_f l (by unfold maxLen; omega) id k hk]
    simp only [Option.bind_some]
    rcases getN_cases l id with ⟨h2, h3⟩ | ⟨p, hp, h2, h3, h4⟩
    · rw [h2, h3, if_pos (by omega)]
      rfl
    · rw [h2, h3, if_neg (by omega), if_pos (by omega), if_pos (by omega), rd34_get _ _ hp]
      have hg : gI (some l[p]) = l[p] := rfl
      rw [hg]
      simp only [Option.isSome_some, if_true]
      cases hd : l[p].f3 with
      | true => rfl
      | false =>
        simp only [Bool.false_eq_true, if_false]
        by_cases hs : size > 1024
        · rw [if_pos hs, if_pos hs]
        · rw [if_neg hs, if_neg hs, if_pos (by simp only [List.length_nil]; omega), List.nil_append, if_pos (by omega), rd34_get _ _ hp, put_known hup hp (sized l[p] size) rfl]
          unfold sized
          rfl
end Go.Proofs.YthbdgahmlggpmaaDoor.Q
namespace Go.Proofs.YthbdgahmlggpmaaDoor.Q.Pure
open Go.RowKit Go.Proofs.YthbdgahmlggpmaaDoorW.PrintWords Go.Proofs.YthbdgahmlggpmaaDoorW.PrintLast Go.Proofs.YthbdgahmlggpmaaDoor.Q
theorem TreeSizes (l0 : List S34) (a1 a2 : Int) (hl : l0.length ≤ maxLen ∧ ∀ x ∈ l0, (Lit.int .u32 x.f0).wf = true ∧ (Lit.int .u32 x.f1).wf = true ∧ x.f2.size ≤ maxLen ∧ True ∧ (Lit.int .u32 x.f4).wf = true) (h1 : (Lit.int .u32 a1).wf = true) (_ : (Lit.int .u32 a2).wf = true) :
    ∃ k, w10_TreeSizes.f k l0 a1 a2 = some true := by
  have hw := wfL_of l0 hl.2
  have ha := u32_of h1
  refine ⟨2000, ?_⟩
  unfold w10_TreeSizes.f
  rw [alive_t]
  simp only [Option.bind_some, if_true]
  rcases great_cases l0 ⟨#[]⟩ ⟨#[]⟩ 2000 (by omega) with hg | ⟨hg, hlen, _, _⟩
  · rw [hg]
    rfl
  · rw [hg]
    simp only [Option.bind_some, Bool.false_eq_true, if_false]
    unfold tree_Resize.f
    rw [if_pos ⟨hw, ha⟩, rresize_f l0 hw hlen a1 a2 ha.1 ha.2 2000 (by omega)]
    simp only [Option.bind_some]
    have hlen2 : (resizeF l0 a1 a2).1.length ≤ 1000 := by
      unfold resizeF
      split
      · split
        · split
          · simp
          · split
            · simp
            · have := putI_len l0 (sized (gI (findI l0 a1)) a2)
              show (putI l0 (sized (gI (findI l0 a1)) a2)).length ≤ 1000
              omega
        · simp
      · simp
    rw [same_f _ hlen2 2000 (by omega)]
    simp
end Go.Proofs.YthbdgahmlggpmaaDoor.Q.Pure
