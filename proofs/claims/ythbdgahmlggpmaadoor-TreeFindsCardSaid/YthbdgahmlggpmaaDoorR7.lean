/- The document's Make, Find and Remove are the program's, in plain Lean. -/
import Derived.Test.YthbdgahmlggpmaaDoorR7a
import Derived.Test.YthbdgahmlggpmaaDoorQ20
import Derived.Test.YthbdgahmlggpmaaDoorQ22
namespace Go.Proofs.YthbdgahmlggpmaaDoor.Q
open Go.RowKit Go.Proofs.YthbdgahmlggpmaaDoorW.PrintWords Go.Proofs.YthbdgahmlggpmaaDoorW.PrintLast
set_option linter.unusedVariables false
set_option linter.unusedSimpArgs false
theorem get_last {b : List ByteArray} (hb : b.length ≤ 1000) (hne : b.length ≠ 0) : rdOf ByteArray.empty b (wrap64 ((b.length : Int) - 1)) = b.getD (b.length - 1) ⟨#[]⟩ := by
  rw [wrap_in (by omega) (by omega), show ((b.length : Int) - 1) = ((b.length - 1 : Nat) : Int) by omega, rdOf_at _ _ _ (by omega), getD_at _ _ (by omega)]
theorem rmake_f (l : List S34) (hw : wfL l = true) (hl : l.length ≤ 100) (s : ByteArray) (id : Int) (dir : Bool) (hs : s.size ≤ 1000) (K : Nat) (hK : 5000 < K) : r10_Make.f K l s id dir = some (makeF l s id dir) := by
  unfold r10_Make.f makeF r10_Right.f beginF
  rw [if_pos hw, rightN_eq l hw, Option.bind_some]
  cases hr : rightB l with
  | false => rfl
  | true =>
  have t := tr_of hw hr
  simp only [if_true]
  rw [rsplit_f s (by omega) K (by omega)]
  simp only [Option.bind_some]
  have hls := splitF_len s
  have hes := split_err s
  generalize splitF s = a at *
  obtain ⟨a, ea⟩ := a
  simp only at hls hes ⊢
  by_cases h1 : ea = 0
  rotate_left
  · have h9 : ea = 9 := by rcases hes with h | h; exact absurd h h1; exact h
    subst h9
    rfl
  subst h1
  rw [if_pos (by rfl), if_pos rfl, rabove_f l (by omega) t.pos a (by omega) K (by omega), Option.bind_some]
  obtain ⟨e1, _⟩ := above_rel t a
  by_cases h2 : (aboveN l a).2 = 0
  rotate_left
  · rw [if_neg h2, e1, if_neg h2]
  obtain ⟨hne, p, hp, A, dp, AI⟩ := above_at t a h2
  rw [if_pos h2, A, AI]
  simp only
  rw [if_pos (by rw [wrap_in (by omega) (by omega)]; omega), if_pos (by rw [wrap_in (by omega) (by omega)]; omega), if_pos (by omega), if_pos (by omega), get_last (by omega) hne, rdS _ _ hp, rkid_f l (by unfold maxLen; omega) t.pos _ _ K (by omega), Option.bind_some]
  generalize a.getD (a.length - 1) ⟨#[]⟩ = nm
  simp only [if_true]
  rcases kid_cases t.pos t.r0.1 t.up l[p].f0 nm with ⟨c1, c2⟩ | ⟨q, hq, c1, c2, c3, c4, c5⟩
  rotate_left
  · rw [c2, c3, if_pos (show (q : Int) ≥ 0 by omega), if_pos (show (some l[q]).isSome = true from rfl)]
  rw [c1, c2, if_neg (show ¬ (-1 : Int) ≥ 0 by omega), if_neg (show ¬ (none : Option S34).isSome = true by simp)]
  obtain ⟨K, rfl⟩ : ∃ m, K = m + 1 := ⟨K - 1, by omega⟩
  by_cases h3 : l.length = 40
  · rw [if_pos (show (l.length : Int) = 40 by omega), if_pos h3, r10_Make.j0, if_pos rfl]
  rw [if_neg (show ¬ (l.length : Int) = 40 by omega), if_neg h3, rkids_f l (by omega) t.pos _ (K + 1) (by omega), Option.bind_some, filter_len_eq t.pos t.r0.1 t.up]
  by_cases h4 : kidsN l l[p].f0 = 12
  · rw [if_pos h4, h4, r10_Make.j0]
    rfl
  rw [if_neg h4, beq_eq_false_iff_ne.2 (show ¬ ((kidsN l l[p].f0 : Nat) : Int) = 12 by omega), r10_Make.j0, if_neg Bool.false_ne_true]
  by_cases h5 : id ≤ 1
  · rw [if_pos h5, if_pos h5]
  rw [if_neg h5, if_neg h5, rget_f l (by unfold maxLen; omega) id K (by omega), Option.bind_some]
  rcases getN_cases l id with ⟨g1, g2⟩ | ⟨q, hq, g1, g2, g3⟩
  · rw [g1, g2, if_neg (show ¬ (-1 : Int) ≥ 0 by omega), if_pos (show 0 ≤ (p : Int) by omega), if_pos (show (p : Int) < (l.length : Int) by omega), if_neg (show ¬ (none : Option S34).isSome = true by simp), rdS _ _ hp, put_new ⟨id, l[p].f0, nm, dir, 0⟩ g2]
    have := rwith_f l (by omega) ⟨id, l[p].f0, nm, dir, 0⟩ K (by omega)
    rw [this]
    rfl
  · rw [g1, g2, if_pos (show (q : Int) ≥ 0 by omega), if_pos (show (some l[q]).isSome = true from rfl)]
def findN (l : List S34) (s : ByteArray) : Int × Int := if rightB l = true then (if (splitF s).2 = 0 then walkN l (splitF s).1 0 else (0, 9)) else (0, 1)
theorem rfind_f (l : List S34) (hw : wfL l = true) (hl : l.length ≤ 100) (s : ByteArray) (hs : s.size ≤ 1000) (K : Nat) (hK : 5000 < K) : r10_Find.f K l s = some (findN l s) := by
  unfold r10_Find.f findN r10_Right.f
  rw [if_pos hw, rightN_eq l hw, Option.bind_some]
  cases hr : rightB l with
  | false => rfl
  | true =>
  have t := tr_of hw hr
  simp only [if_true]
  rw [rsplit_f s (by omega) K (by omega)]
  simp only [Option.bind_some]
  have hls := splitF_len s
  by_cases h1 : (splitF s).2 = 0
  · rw [if_pos (by rw [h1]; rfl), if_pos h1, rwalk_f l (by omega) t.pos _ (by omega) K (by omega)]
    rfl
  · rw [if_neg (by simpa using h1), if_neg h1]
theorem find_rel {l : List S34} (hw : wfL l = true) (s : ByteArray) : (findF l s).2 = (findN l s).2 ∧ ((findN l s).2 ≠ 0 → (findF l s).1 = zI) ∧ ((findN l s).2 = 0 → Tr l ∧ ∃ q, ∃ hq : q < l.length, (findN l s).1 = (q : Int) ∧ (findF l s).1 = l[q]) := by
  unfold findF findN beginF
  cases hr : rightB l with
  | false =>
    refine ⟨rfl, fun _ => rfl, fun h => ?_⟩
    cases h
  | true =>
  have t := tr_of hw hr
  simp only [if_true]
  rcases split_err s with h1 | h1
  · rw [if_pos h1, if_pos h1]
    obtain ⟨q, hq, w1, w2⟩ := walk_rel0 t (splitF s).1
    refine ⟨w1, fun h => ?_, fun h => ?_⟩
    · rw [← w1] at h
      revert h
      generalize (splitF s).1 = ns
      generalize rd_T34 l 0 = y
      intro h
      clear w1 w2
      induction ns generalizing y with
      | nil => exact absurd rfl h
      | cons n ns ih =>
        rw [walkI] at h ⊢
        split
        · rename_i h3
          rw [if_pos h3] at h
          cases hk : kidI l y.f0 n with
          | none => rfl
          | some z =>
            rw [hk] at h
            exact ih z h
        · rfl
    · obtain ⟨w3, w4⟩ := w2 h
      exact ⟨t, q, hq, w3, w4⟩
  · rw [h1, if_neg (by decide), if_neg (by decide)]
    refine ⟨rfl, fun _ => rfl, fun h => ?_⟩
    cases h
theorem rremove_f (l : List S34) (hw : wfL l = true) (hl : l.length ≤ 100) (s : ByteArray) (dir : Bool) (hs : s.size ≤ 1000) (K : Nat) (hK : 5003 < K) : r10_Remove.f K l s dir = some (tup (remF l s dir)) := by
  unfold r10_Remove.f remF
  rw [rfind_f l hw hl s hs K (by omega), Option.bind_some]
  obtain ⟨r1, r2, r3⟩ := find_rel hw s
  rw [r1]
  by_cases h1 : (findN l s).2 = 0
  rotate_left
  · rw [if_neg h1, if_neg h1]
    rfl
  obtain ⟨t, q, hq, r4, r5⟩ := r3 h1
  rw [if_pos h1, if_pos h1, r4, r5, rdS _ _ hq, if_pos (by omega), if_pos (by omega)]
  by_cases h2 : q = 0
  · rw [if_pos (show (q : Int) = 0 by omega), if_pos ((t.r1 hq).2 h2), if_neg (show ¬ 21 = 0 by decide)]
    rfl
  rw [if_neg (show ¬ (q : Int) = 0 by omega), if_neg (fun h => h2 ((t.r1 hq).1 h))]
  obtain ⟨K, rfl⟩ : ∃ m, K = m + 1 + 1 + 1 := ⟨K - 3, by omega⟩
  have hout : outI l l[q].f0 = outN l q := by
    unfold outI
    rw [(t.up.find hq).2]
    rfl
  have hW := rwithout_f l (by omega) q hq
  cases dir with
  | true =>
    rw [if_pos rfl]
    cases hd : l[q].f3 with
    | false =>
      rw [r10_Remove.j0, if_pos (show (!false) = true from rfl), if_neg (show ¬ 10 = 0 by decide), if_pos ⟨rfl, rfl⟩]
      rfl
    | true =>
      rw [r10_Remove.j0, if_neg (by decide), if_pos rfl, rkids_f l (by omega) t.pos _ (K + 1 + 1) (by omega), Option.bind_some, if_neg (by simp), filter_len_eq t.pos t.r0.1 t.up, r10_Remove.j1]
      by_cases h3 : 0 < kidsN l l[q].f0
      · rw [decide_eq_true (show ((kidsN l l[q].f0 : Nat) : Int) > 0 by omega), if_pos rfl, if_neg (show ¬ 24 = 0 by decide), if_pos ⟨rfl, h3⟩]
        rfl
      · rw [decide_eq_false (show ¬ ((kidsN l l[q].f0 : Nat) : Int) > 0 by omega), if_neg Bool.false_ne_true, if_pos rfl, r10_Remove.j2, if_neg Bool.false_ne_true, if_pos rfl, hW, if_neg (fun h => h3 h.2), if_neg (by simp), hout, Option.bind_some]
        simp only [tup, hd]
  | false =>
    have n1 : ¬ (false = true ∧ l[q].f3 = false) := by simp
    have n2 : ¬ (false = true ∧ 0 < (kidsI l l[q].f0).length) := by simp
    rw [if_neg n1, if_neg n2]
    cases hd : l[q].f3 with
    | true =>
      rw [if_neg Bool.false_ne_true, r10_Remove.j0, if_neg Bool.false_ne_true, if_neg Bool.false_ne_true, r10_Remove.j1, if_neg Bool.false_ne_true, if_neg Bool.false_ne_true, r10_Remove.j2, if_pos (show true = true from rfl), if_neg (show ¬ 11 = 0 by decide), if_pos ⟨rfl, rfl⟩]
      rfl
    | false =>
      have n3 : ¬ (false = false ∧ false = true) := by simp
      rw [if_neg Bool.false_ne_true, r10_Remove.j0, if_neg Bool.false_ne_true, if_neg Bool.false_ne_true, r10_Remove.j1, if_neg Bool.false_ne_true, if_neg Bool.false_ne_true, r10_Remove.j2, if_neg Bool.false_ne_true, if_pos (show (0 : Int) = 0 from rfl), hW, if_neg n3, hout, Option.bind_some]
      simp only [tup, hd]
end Go.Proofs.YthbdgahmlggpmaaDoor.Q
