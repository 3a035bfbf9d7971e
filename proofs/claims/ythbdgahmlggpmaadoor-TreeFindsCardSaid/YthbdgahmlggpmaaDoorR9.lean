/- The document's List is the program's, in plain Lean. -/
import Derived.Test.YthbdgahmlggpmaaDoorR7
import Derived.Test.YthbdgahmlggpmaaDoorT8
import Derived.Test.YthbdgahmlggpmaaDoorQ26
import Derived.Test.YthbdgahmlggpmaaDoorQ27
import Derived.Sort.KeysCollected
import Derived.Sort.Walk0
namespace Go.Proofs.YthbdgahmlggpmaaDoor.Q
open Go.RowKit Go.Proofs.YthbdgahmlggpmaaDoorW.PrintWords Go.Proofs.YthbdgahmlggpmaaDoorW.PrintLast
set_option linter.unusedVariables false
set_option linter.unusedSimpArgs false
abbrev bs (s : ByteArray) : List UInt8 := s.data.toList
theorem bs_inj {a b : ByteArray} (h : bs a = bs b) : a = b := ByteArray.ext (Array.ext' h)
/-- How many of a list's first ones are less. -/
def low (s : ByteArray) (l : List ByteArray) : Nat := (l.takeWhile fun x => decide (bs x < bs s)).length
def insB (l : List ByteArray) (s : ByteArray) : List ByteArray := l.take (low s l) ++ s :: l.drop (low s l)
theorem low_le (s : ByteArray) (l : List ByteArray) : low s l ≤ l.length := (List.takeWhile_prefix _).length_le
theorem low_at (s : ByteArray) (l : List ByteArray) (i : Nat) (hi : i ≤ l.length) (h1 : ∀ (j : Nat) (hj : j < i), bs (l[j]'(by omega)) < bs s) (h2 : ∀ h : i < l.length, ¬ bs l[i] < bs s) : low s l = i := by
  unfold low
  induction l generalizing i with
  | nil => simp at hi; subst hi; rfl
  | cons y t ih =>
    cases i with
    | zero =>
      have := h2 (by simp)
      simp only [List.getElem_cons_zero] at this
      rw [List.takeWhile_cons_of_neg (by simpa using this)]
      rfl
    | succ i =>
      have h0 := h1 0 (by omega)
      simp only [List.getElem_cons_zero] at h0
      rw [List.takeWhile_cons_of_pos (by simpa using h0), List.length_cons]
      have := ih i (by simpa using hi) (fun j hj => by have := h1 (j + 1) (by omega); simpa using this) (fun h => by have := h2 (by simp; omega); simpa using this)
      rw [this]
theorem take_low (s : ByteArray) (l : List ByteArray) : ∀ x ∈ l.take (low s l), bs x < bs s := by
  intro x hx
  have h : l.take (low s l) = l.takeWhile (fun x => decide (bs x < bs s)) := by
    unfold low
    exact (List.prefix_iff_eq_take.1 (List.takeWhile_prefix _)).symm
  rw [h] at hx
  simpa using List.all_eq_true.1 (List.all_takeWhile (l := l) (p := fun x => decide (bs x < bs s))) x hx
theorem drop_low (s : ByteArray) (l : List ByteArray) : ∀ (y : ByteArray) (t : List ByteArray), l.drop (low s l) = y :: t → ¬ bs y < bs s := by
  induction l with
  | nil => intro y t h; simp at h
  | cons z l ih =>
    intro y t h
    by_cases hz : bs z < bs s
    · have e : low s (z :: l) = low s l + 1 := by unfold low; rw [List.takeWhile_cons_of_pos (by simpa using hz), List.length_cons]
      rw [e, List.drop_succ_cons] at h
      exact ih y t h
    · have e : low s (z :: l) = 0 := by unfold low; rw [List.takeWhile_cons_of_neg (by simpa using hz)]; rfl
      rw [e, List.drop_zero] at h
      injection h with h1 h2
      rw [← h1]
      exact hz
def SortedB (l : List ByteArray) : Prop := l.Pairwise fun a b => bs a ≤ bs b
theorem insB_sorted (l : List ByteArray) (s : ByteArray) (h : SortedB l) : SortedB (insB l s) := by
  unfold SortedB insB at *
  have hl : (l.take (low s l) ++ l.drop (low s l)).Pairwise fun a b => bs a ≤ bs b := by rw [List.take_append_drop]; exact h
  rw [List.pairwise_append] at hl ⊢
  obtain ⟨h1, h2, h3⟩ := hl
  have hd : ∀ y ∈ l.drop (low s l), bs s ≤ bs y := by
    intro y hy
    cases hq : l.drop (low s l) with
    | nil => rw [hq] at hy; cases hy
    | cons z t =>
      have hz := drop_low s l z t hq
      have hsz : bs s ≤ bs z := by
        rcases List.le_total (bs s) (bs z) with h4 | h4
        · exact h4
        · exact hz
      rw [hq] at hy h2
      rcases List.mem_cons.1 hy with rfl | hy
      · exact hsz
      · exact List.le_trans hsz ((List.pairwise_cons.1 h2).1 y hy)
  refine ⟨h1, List.pairwise_cons.2 ⟨hd, h2⟩, fun a ha b hb => ?_⟩
  have hlt := take_low s l a ha
  have hle : bs a ≤ bs s := by
    rcases List.le_total (bs a) (bs s) with h4 | h4
    · exact h4
    · exact absurd hlt h4
  rcases List.mem_cons.1 hb with rfl | hb
  · exact hle
  · exact h3 a ha b hb
theorem insB_perm (l : List ByteArray) (s : ByteArray) : (insB l s).Perm (s :: l) := by
  unfold insB
  have := List.perm_middle (a := s) (l₁ := l.take (low s l)) (l₂ := l.drop (low s l))
  rwa [List.take_append_drop] at this
theorem fold_facts : ∀ (xs l : List ByteArray), SortedB l → SortedB (xs.foldl insB l) ∧ (xs.foldl insB l).Perm (l ++ xs)
  | [], l, h => ⟨h, by simp⟩
  | x :: xs, l, h => by
    obtain ⟨h1, h2⟩ := fold_facts xs (insB l x) (insB_sorted l x h)
    refine ⟨h1, h2.trans ?_⟩
    have h3 := (insB_perm l x).append_right xs
    exact h3.trans (List.perm_middle (a := x) (l₁ := l) (l₂ := xs)).symm
theorem sort_fold (xs : List ByteArray) : xs.foldl insB [] = sortB xs := by
  obtain ⟨h1, h2⟩ := fold_facts xs [] List.Pairwise.nil
  rw [List.nil_append] at h2
  have tr : ∀ a b c : List UInt8, leB a b = true → leB b c = true → leB a c = true := fun a b c h1 h2 => by simp only [leB, decide_eq_true_eq] at *; exact List.le_trans h1 h2
  have tot : ∀ a b : List UInt8, (leB a b || leB b a) = true := fun a b => by simp only [leB, Bool.or_eq_true, decide_eq_true_eq]; exact List.le_total a b
  have key : (xs.foldl insB []).map bs = (xs.map bs).mergeSort fun a b => decide (a ≤ b) := by
    refine List.Perm.eq_of_pairwise (le := fun a b => leB a b = true) (fun a b _ _ h1 h2 => ?_) ?_ (List.pairwise_mergeSort tr tot _) ((h2.map bs).trans (List.mergeSort_perm _ _).symm)
    · simp only [leB, decide_eq_true_eq] at h1 h2
      exact List.le_antisymm h1 h2
    · rw [List.pairwise_map]
      exact h1.imp (fun h => by simpa [leB] using h)
  unfold sortB
  rw [← key, List.map_map]
  have : ((fun l : List UInt8 => (⟨l.toArray⟩ : ByteArray)) ∘ bs) = id := by
    funext s
    simp [bs]
  rw [this, List.map_id]
theorem rput_loop (l : List ByteArray) (hl : l.length ≤ 1000) (s : ByteArray) : ∀ (n k i : Nat), i + n = l.length → n < k → (∀ (j : Nat) (hj : j < i) (hi : i ≤ l.length), bs (l[j]'(by omega)) < bs s) → r10_put.l0 k l s (i : Int) = some (insB l s) := by
  intro n
  induction n with
  | zero =>
    intro k i hi hk h
    obtain ⟨k, rfl⟩ : ∃ m, k = m + 1 := ⟨k - 1, by omega⟩
    have hp := low_at s l i (by omega) (fun j hj => h j hj (by omega)) (fun h => by omega)
    have e : ((i : Int)).toNat = i := rfl
    have h1 := List.length_take (l := l) (i := i)
    have h2 := List.length_drop (l := l) (i := i)
    rw [r10_put.l0, if_neg (by omega), if_pos (show 0 ≤ (i : Int) by omega), if_pos (show (i : Int) ≤ (l.length : Int) by omega), e, if_pos (by simp only [List.length_nil]; omega)]
    simp only [Option.bind_some]
    rw [if_pos (by simp only [List.nil_append]; omega), if_pos (by simp only [List.nil_append, List.length_append, List.length_cons, List.length_nil]; omega)]
    unfold insB
    rw [hp]
    simp
  | succ n ih =>
    intro k i hi hk h
    obtain ⟨k, rfl⟩ : ∃ m, k = m + 1 := ⟨k - 1, by omega⟩
    have hi2 : i < l.length := by omega
    rw [r10_put.l0, if_pos (show (i : Int) < (l.length : Int) by omega), if_pos (show 0 ≤ (i : Int) by omega), rdOf_at _ _ _ hi2, ByteArray.toList_eq, ByteArray.toList_eq, bytesLess_eq]
    by_cases hc : bs l[i] < bs s
    · rw [if_pos (decide_eq_true hc), wrap_in (by omega) (by omega), show ((i : Int) + 1) = ((i + 1 : Nat) : Int) by omega]
      refine ih k (i + 1) (by omega) (by omega) (fun j hj hj2 => ?_)
      rcases Nat.lt_or_ge j i with h3 | h3
      · exact h j h3 (by omega)
      · obtain rfl : j = i := by omega
        exact hc
    · have hp := low_at s l i (by omega) (fun j hj => h j hj (by omega)) (fun _ => hc)
      have e : ((i : Int)).toNat = i := rfl
      have h1 := List.length_take (l := l) (i := i)
      have h2 := List.length_drop (l := l) (i := i)
      rw [if_neg (by simpa using hc), if_pos (show (i : Int) ≤ (l.length : Int) by omega), e, if_pos (by simp only [List.length_nil]; omega)]
      simp only [Option.bind_some]
      rw [if_pos (by simp only [List.nil_append]; omega), if_pos (by simp only [List.nil_append, List.length_append, List.length_cons, List.length_nil]; omega)]
      unfold insB
      rw [hp]
      simp
theorem rput_f (l : List ByteArray) (hl : l.length ≤ 1000) (s : ByteArray) (k : Nat) (hk : l.length < k) : r10_put.f k l s = some (insB l s) := rput_loop l hl s l.length k 0 (by omega) hk (fun j hj => by omega)
theorem insB_len (l : List ByteArray) (s : ByteArray) : (insB l s).length = l.length + 1 := (insB_perm l s).length_eq
theorem rlist_loop (l : List S34) (hl : l.length ≤ 100) (q : Nat) (hq : q < l.length) : ∀ (n k i : Nat) (out : List ByteArray), i + n = l.length → 200 + n < k → out.length ≤ i →
    r10_List.l0 k l (q : Int) out (i : Int) = some ((((l.drop i).filter fun y => y.f1 == l[q].f0).map fun y => y.f2).foldl insB out, 0) := by
  intro n
  induction n with
  | zero =>
    intro k i out hi hk ho
    obtain ⟨k, rfl⟩ : ∃ m, k = m + 1 := ⟨k - 1, by omega⟩
    rw [r10_List.l0, if_neg (by omega), List.drop_eq_nil_of_le (by omega)]
    rfl
  | succ n ih =>
    intro k i out hi hk ho
    obtain ⟨k, rfl⟩ : ∃ m, k = m + 1 := ⟨k - 1, by omega⟩
    have hi2 : i < l.length := by omega
    rw [r10_List.l0, if_pos (show (i : Int) < (l.length : Int) by omega), if_pos (show 0 ≤ (i : Int) by omega), if_pos (show 0 ≤ (q : Int) by omega), if_pos (show (q : Int) < (l.length : Int) by omega), rdS _ _ hi2, rdS _ _ hq, wrap_in (by omega) (by omega), show ((i : Int) + 1) = ((i + 1 : Nat) : Int) by omega, List.drop_eq_getElem_cons hi2]
    by_cases hc : l[i].f1 = l[q].f0
    · rw [if_pos hc, rput_f out (by omega) _ k (by omega), Option.bind_some, ih k (i + 1) _ (by omega) (by omega) (by rw [insB_len]; omega), List.filter_cons_of_pos (by simpa using hc)]
      rfl
    · rw [if_neg hc, ih k (i + 1) _ (by omega) (by omega) (by omega), List.filter_cons_of_neg (by simpa using hc)]
theorem kids_drop {l : List S34} (t : Tr l) (d : Int) : (l.drop 1).filter (fun y => y.f1 == d) = kidsI l d := by
  unfold kidsI
  have hp := t.pos
  have hr := t.r0.1
  have hu := t.up
  obtain ⟨x, s, rfl⟩ : ∃ x s, l = x :: s := by cases l with | nil => simp at hp | cons x s => exact ⟨x, s, rfl⟩
  simp only [List.getElem_cons_zero] at hr
  have h1 : isKid d x = false := by simp [isKid, hr]
  rw [List.filter_cons_of_neg (by simp [h1]), List.drop_one, List.tail_cons]
  apply List.filter_congr
  intro y hy
  obtain ⟨b, hb, rfl⟩ := List.mem_iff_getElem.1 hy
  have := hu 0 (b + 1) (by omega) (by simp; omega)
  simp only [List.getElem_cons_zero, List.getElem_cons_succ] at this
  have h2 : (s[b].f0 == 1) = false := by rw [beq_eq_false_iff_ne]; omega
  simp [isKid, h2]
theorem rlist_f (l : List S34) (hw : wfL l = true) (hl : l.length ≤ 100) (s : ByteArray) (hs : s.size ≤ 1000) (K : Nat) (hK : 5001 < K) : r10_List.f K l s = some (listF l s) := by
  unfold r10_List.f listF
  rw [rfind_f l hw hl s hs K (by omega), Option.bind_some]
  obtain ⟨r1, r2, r3⟩ := find_rel hw s
  rw [r1]
  by_cases h1 : (findN l s).2 = 0
  rotate_left
  · rw [if_neg h1, if_neg h1]
  obtain ⟨t, q, hq, r4, r5⟩ := r3 h1
  rw [if_pos h1, if_pos h1, r4, r5, rdS _ _ hq, if_pos (show 0 ≤ (q : Int) by omega), if_pos (show (q : Int) < (l.length : Int) by omega)]
  by_cases hd : l[q].f3 = true
  · rw [if_pos hd, if_pos hd]
    have := rlist_loop l hl q hq (l.length - 1) K 1 [] (by have := t.pos; omega) (by omega) (by simp)
    rw [show (1 : Int) = ((1 : Nat) : Int) from rfl, this, kids_drop t, sort_fold]
  · rw [if_neg hd, if_neg hd]
theorem st_loop (l : List ByteArray) (hl : l.length ≤ 1000) : ∀ (n k i : Nat), i + n = l.length → n < k → r10_SameTexts.l0 k l l (i : Int) = some true := by
  intro n
  induction n with
  | zero =>
    intro k i hi hk
    obtain ⟨k, rfl⟩ : ∃ m, k = m + 1 := ⟨k - 1, by omega⟩
    rw [r10_SameTexts.l0, if_neg (by omega)]
  | succ n ih =>
    intro k i hi hk
    obtain ⟨k, rfl⟩ : ∃ m, k = m + 1 := ⟨k - 1, by omega⟩
    rw [r10_SameTexts.l0, if_pos (by omega), if_pos (by omega), if_pos (by omega), if_pos rfl, wrap_in (by omega) (by omega), show ((i : Int) + 1) = ((i + 1 : Nat) : Int) by omega]
    exact ih k (i + 1) (by omega) (by omega)
theorem st_f (l : List ByteArray) (hl : l.length ≤ 1000) (k : Nat) (hk : l.length < k) : r10_SameTexts.f k l l = some true := by
  unfold r10_SameTexts.f
  rw [if_pos rfl]
  exact st_loop l hl l.length k 0 (by omega) hk
end Go.Proofs.YthbdgahmlggpmaaDoor.Q
