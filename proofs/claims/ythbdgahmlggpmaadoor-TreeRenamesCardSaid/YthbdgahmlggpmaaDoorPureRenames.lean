/- TreeRenames (lamella/lamellalaw10.TreeRenames): every tree with one elsewhere, or why there is none, is the document's: for every list and every two paths the law answers true. -/
import Derived.Test.YthbdgahmlggpmaaDoorR5
import Derived.Test.YthbdgahmlggpmaaDoorQ14
namespace Go.Proofs.YthbdgahmlggpmaaDoor.Q
open Go.RowKit Go.Proofs.YthbdgahmlggpmaaDoorW.PrintWords Go.Proofs.YthbdgahmlggpmaaDoorW.PrintLast
theorem rename_len {l : List S34} (hw : wfL l = true) (hl : l.length ≤ 100) {s u : ByteArray} (hs : s.size ≤ 1000) (hu : u.size ≤ 1000) : ∃ r, tree_Rename.f l s u = some r ∧ r.1.length ≤ 101 := by
  unfold tree_Rename.f ren0 beginF
  rw [if_pos ⟨hw, by omega, by omega⟩]
  cases hr : rightB l with
  | false => exact ⟨([], 1), rfl, by simp⟩
  | true =>
  have t := tr_of hw hr
  simp only [if_true]
  generalize splitF s = a
  generalize splitF u = b
  obtain ⟨a, ea⟩ := a
  obtain ⟨b, eb⟩ := b
  simp only
  split
  · split
    · obtain ⟨k, hk, w1, w2⟩ := walk_rel0 t a
      rw [w1]
      split
      · rename_i h3
        obtain ⟨w3, w4⟩ := w2 h3
        rw [w4]
        split
        · exact ⟨([], 21), rfl, by simp⟩
        · rw [if_pos (wfL_at hw hk)]
          unfold ren1
          obtain ⟨e1, e2⟩ := above_rel t b
          split
          · rename_i h5
            rw [e1] at h5
            obtain ⟨hne, p, hp, e3, e4, e5, e6⟩ := e2 h5
            obtain ⟨v, v1, v2⟩ := t.inSome hp hk
            rw [e4, if_pos (wfL_at hw hp), v1, Option.bind_some]
            unfold ren2
            rw [e4]
            have hpk : putI l (moved l[k] l[p] (aboveI l b).name) = l.set k (moved l[k] l[p] (aboveI l b).name) := put_known t.up hk _ rfl
            have hw2 : wfL (l.set k (moved l[k] l[p] (aboveI l b).name)) = true := wfL_set t.wf (wfI_moved (wfL_at t.wf hk) (wfL_at t.wf hp))
            split
            · exact ⟨([], 1), rfl, by simp⟩
            · split
              · split
                · exact ⟨(l, 0), rfl, by simp only; omega⟩
                · exact ⟨([], 8), rfl, by simp⟩
              · split
                · exact ⟨([], 16), rfl, by simp⟩
                · rw [hpk, if_pos hw2]
                  split
                  · exact ⟨(_, 0), rfl, by simp only [List.length_set]; omega⟩
                  · exact ⟨([], 9), rfl, by simp⟩
          · exact ⟨([], _), rfl, by simp⟩
      · exact ⟨([], _), rfl, by simp⟩
    · exact ⟨([], _), rfl, by simp⟩
  · exact ⟨([], _), rfl, by simp⟩
end Go.Proofs.YthbdgahmlggpmaaDoor.Q
namespace Go.Proofs.YthbdgahmlggpmaaDoor.Q.Pure
open Go.RowKit Go.Proofs.YthbdgahmlggpmaaDoorW.PrintWords Go.Proofs.YthbdgahmlggpmaaDoorW.PrintLast Go.Proofs.YthbdgahmlggpmaaDoor.Q
theorem TreeRenames (l0 : List S34) (a1 a2 : ByteArray) (hl : l0.length ≤ maxLen ∧ ∀ x ∈ l0, (Lit.int .u32 x.f0).wf = true ∧ (Lit.int .u32 x.f1).wf = true ∧ x.f2.size ≤ maxLen ∧ True ∧ (Lit.int .u32 x.f4).wf = true) (_ : a1.size ≤ maxLen) (_ : a2.size ≤ maxLen) :
    ∃ k, w10_TreeRenames.f k l0 a1 a2 = some true := by
  have hw := wfL_of l0 hl.2
  refine ⟨6000, ?_⟩
  unfold w10_TreeRenames.f
  rw [alive_t]
  simp only [Option.bind_some, if_true]
  rcases great_cases l0 a1 a2 6000 (by omega) with hg | ⟨hg, hlen, h1, h2⟩
  · rw [hg]
    rfl
  · rw [hg]
    simp only [Option.bind_some, Bool.false_eq_true, if_false]
    obtain ⟨r, hr, hr2⟩ := rename_len hw hlen h1 h2
    rw [rrename_f l0 hw hlen a1 a2 h1 h2 6000 (by omega), hr]
    simp only [Option.bind_some]
    rw [same_f _ (by omega) 6000 (by omega)]
    simp
end Go.Proofs.YthbdgahmlggpmaaDoor.Q.Pure
