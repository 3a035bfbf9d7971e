/- What the program's Make and Remove answer, in plain Lean. -/
import Derived.Test.YthbdgahmlggpmaaDoorR5
import Derived.Test.YthbdgahmlggpmaaDoorM7
namespace Go.Proofs.YthbdgahmlggpmaaDoor.Q
open Go.RowKit Go.Proofs.YthbdgahmlggpmaaDoorW.PrintWords Go.Proofs.YthbdgahmlggpmaaDoorW.PrintLast
set_option linter.unusedVariables false
set_option linter.unusedSimpArgs false
theorem put_new {l : List S34} (x : S34) (h : findI l x.f0 = none) : putI l x = withN l x := by
  unfold putI withN
  rw [if_neg]
  rintro ⟨h1, h2⟩
  rw [rdS _ _ h1] at h2
  unfold findI at h
  rw [List.find?_eq_none] at h
  exact h _ (List.getElem_mem h1) (by simp [h2])
/-- What the program's and the document's Above say of one another. -/
theorem above_at {l : List S34} (t : Tr l) (b : List ByteArray) (h : (aboveN l b).2 = 0) : b.length ≠ 0 ∧ ∃ p, ∃ hp : p < l.length, aboveN l b = ((p : Int), 0) ∧ l[p].f3 = true ∧ aboveI l b = ⟨l[p], b.getD (b.length - 1) ⟨#[]⟩, 0⟩ := by
  obtain ⟨e1, e2⟩ := above_rel t b
  obtain ⟨hne, p, hp, e3, e4, e5, e6⟩ := e2 h
  refine ⟨hne, p, hp, Prod.ext e3 h, e5, ?_⟩
  have h7 : (aboveI l b).e = 0 := by rw [e1, h]
  rw [← e4, ← e6, ← h7]
abbrev tup (r : List S34 × S34 × Int) : List S34 × Int × Int × ByteArray × Bool × Int × Int := (r.1, r.2.1.f0, r.2.1.f1, r.2.1.f2, r.2.1.f3, r.2.1.f4, r.2.2)
theorem remove_f (l : List S34) (hw : wfL l = true) (s : ByteArray) (dir : Bool) (hs : s.size ≤ 1000) : tree_Remove.f l s dir = some (tup (remF l s dir)) := by
  unfold tree_Remove.f
  rw [if_pos ⟨hw, by omega⟩]
theorem make_f (l : List S34) (hw : wfL l = true) (s : ByteArray) (id : Int) (dir : Bool) (hs : s.size ≤ 1000) (h0 : 0 ≤ id) (h1 : id ≤ 4294967295) : tree_Make.f l s id dir = some (makeF l s id dir) := by
  unfold tree_Make.f
  rw [if_pos ⟨hw, by omega, h0, h1⟩]
theorem makeF_len (l : List S34) (hl : l.length ≤ 100) (s : ByteArray) (id : Int) (dir : Bool) : (makeF l s id dir).1.length ≤ 101 := by
  unfold makeF
  repeat' split
  all_goals first | (simp; done) | skip
  have := putI_len l ⟨id, (aboveI l (beginF l s).1).p.f0, (aboveI l (beginF l s).1).name, dir, 0⟩
  show (putI l _).length ≤ 101
  omega
theorem remF_len (l : List S34) (hl : l.length ≤ 100) (s : ByteArray) (dir : Bool) : (remF l s dir).1.length ≤ 101 := by
  unfold remF
  repeat' split
  all_goals first | (simp; done) | skip
  show (outI l _).length ≤ 101
  simp only [outI, outN, List.length_append, List.length_take, List.length_drop]
  omega
end Go.Proofs.YthbdgahmlggpmaaDoor.Q
