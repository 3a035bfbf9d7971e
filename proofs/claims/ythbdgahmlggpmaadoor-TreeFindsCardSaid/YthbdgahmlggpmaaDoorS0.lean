/- What the laws' own helpers answer: alive is true, great, Same; and put at a known Id, in plain Lean. -/
import Derived.Test.YthbdgahmlggpmaaDoorM10
import Derived.Test.YthbdgahmlggpmaaDoorQ7
import Derived.Test.YthbdgahmlggpmaaDoorQ13
import Derived.Test.YthbdgahmlggpmaaDoorM13
namespace Go.Proofs.YthbdgahmlggpmaaDoor.Q
open Go.RowKit Go.Proofs.YthbdgahmlggpmaaDoorW.PrintWords Go.Proofs.YthbdgahmlggpmaaDoorW.PrintLast
set_option linter.unusedVariables false
set_option linter.unusedSimpArgs false
theorem alive_t : w10_alive.f = some true := rfl
theorem great_loop (l : List S34) (hl : l.length ≤ 100) : ∀ (n k i : Nat), i + n = l.length → n < k → w10_great.l0 k l (i : Int) = some true ∨ w10_great.l0 k l (i : Int) = some false := by
  intro n
  induction n with
  | zero =>
    intro k i hi hk
    obtain ⟨k, rfl⟩ : ∃ m, k = m + 1 := ⟨k - 1, by omega⟩
    rw [w10_great.l0, if_neg (by omega)]
    exact .inr rfl
  | succ n ih =>
    intro k i hi hk
    obtain ⟨k, rfl⟩ : ∃ m, k = m + 1 := ⟨k - 1, by omega⟩
    rw [w10_great.l0, if_pos (by omega), if_pos (by omega)]
    split
    · exact .inl rfl
    · rw [wrap_in (by omega) (by omega), show ((i : Int) + 1) = ((i + 1 : Nat) : Int) by omega]
      exact ih k (i + 1) (by omega) (by omega)
theorem great_cases (l : List S34) (a b : ByteArray) (k : Nat) (hk : 103 < k) : w10_great.f k l a b = some true ∨ (w10_great.f k l a b = some false ∧ l.length ≤ 100 ∧ a.size ≤ 1000 ∧ b.size ≤ 1000) := by
  obtain ⟨k, rfl⟩ : ∃ m, k = m + 1 := ⟨k - 1, by omega⟩
  unfold w10_great.f
  by_cases h1 : (l.length : Int) > 100
  · rw [if_pos h1]
    exact .inl rfl
  · rw [if_neg h1]
    by_cases h2 : (a.size : Int) > 1000
    · rw [if_pos h2]
      exact .inl rfl
    · rw [if_neg h2]
      by_cases h3 : (b.size : Int) > 1000
      · rw [decide_eq_true h3]
        exact .inl rfl
      · rw [decide_eq_false h3]
        show w10_great.l0 k l ((0 : Nat) : Int) = _ ∨ (w10_great.l0 k l ((0 : Nat) : Int) = _ ∧ _)
        rcases great_loop l (by omega) l.length k 0 (by omega) (by omega) with h | h
        · exact .inl h
        · exact .inr ⟨h, by omega, by omega, by omega⟩
theorem same_loop (l : List S34) (hl : l.length ≤ 1000) : ∀ (n k i : Nat), i + n = l.length → n < k → r10_Same.l0 k l l (i : Int) = some true := by
  intro n
  induction n with
  | zero =>
    intro k i hi hk
    obtain ⟨k, rfl⟩ : ∃ m, k = m + 1 := ⟨k - 1, by omega⟩
    rw [r10_Same.l0, if_neg (by omega)]
  | succ n ih =>
    intro k i hi hk
    obtain ⟨k, rfl⟩ : ∃ m, k = m + 1 := ⟨k - 1, by omega⟩
    rw [r10_Same.l0, if_pos (by omega), if_pos (by omega), if_pos (by omega), if_neg (by simp), wrap_in (by omega) (by omega), show ((i : Int) + 1) = ((i + 1 : Nat) : Int) by omega]
    exact ih k (i + 1) (by omega) (by omega)
theorem same_f (l : List S34) (hl : l.length ≤ 1000) (k : Nat) (hk : l.length < k) : r10_Same.f k l l = some true := by
  unfold r10_Same.f
  rw [if_pos rfl]
  exact same_loop l hl l.length k 0 (by omega) hk
theorem Up.plc {l : List S34} (h : Up l) {p : Nat} (hp : p < l.length) : plc l l[p].f0 = p :=
  plc_at l _ p (by omega) (fun j hj => h j p hj hp) (fun _ => by omega)
theorem put_known {l : List S34} (h : Up l) {p : Nat} (hp : p < l.length) (x : S34) (hx : x.f0 = l[p].f0) : putI l x = l.set p x := by
  unfold putI
  rw [hx, h.plc hp, if_pos ⟨hp, by rw [rd34_get _ _ hp]⟩]
theorem putI_len (l : List S34) (x : S34) : (putI l x).length ≤ l.length + 1 := by
  unfold putI
  split
  · rw [List.length_set]
    omega
  · simp only [List.length_append, List.length_cons, List.length_take, List.length_drop]
    omega
/-- The row's bounds, in the words of the walks. -/
theorem wfL_of (l : List S34) (h : ∀ x ∈ l, (Lit.int .u32 x.f0).wf = true ∧ (Lit.int .u32 x.f1).wf = true ∧ x.f2.size ≤ maxLen ∧ True ∧ (Lit.int .u32 x.f4).wf = true) : wfL l = true := by
  unfold wfL
  rw [List.all_eq_true]
  intro x hx
  obtain ⟨h1, h2, _, _, h3⟩ := h x hx
  rw [wfI_iff]
  simp only [Lit.wf, IntKind.min, IntKind.max, IntKind.signed, IntKind.bits, Bool.and_eq_true, decide_eq_true_eq] at h1 h2 h3
  simp at h1 h2 h3
  omega
theorem u32_of {a : Int} (h : (Lit.int .u32 a).wf = true) : 0 ≤ a ∧ a ≤ 4294967295 := by
  simp only [Lit.wf, IntKind.min, IntKind.max, IntKind.signed, IntKind.bits, Bool.and_eq_true, decide_eq_true_eq] at h
  simp at h
  omega
end Go.Proofs.YthbdgahmlggpmaaDoor.Q
