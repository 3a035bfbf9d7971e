/- Trees place by place, in plain Lean: keys, parents, walks, the way up, and a tree with one elsewhere. -/
import Derived.Test.YthbdgahmlggpmaaDoorM10
import Derived.Test.YthbdgahmlggpmaaDoorM13
import Derived.Test.YthbdgahmlggpmaaDoorS0
namespace Go.Proofs.YthbdgahmlggpmaaDoor.Q
open Go.RowKit Go.Proofs.YthbdgahmlggpmaaDoorW.PrintWords Go.Proofs.YthbdgahmlggpmaaDoorW.PrintLast
set_option linter.unusedVariables false
set_option linter.unusedSimpArgs false
/-- What a tree is, place by place. -/
structure Tr (l : List S34) : Prop where
  pos : 0 < l.length
  le : l.length ≤ 40
  root : rootB (rd_T34 l 0) = true
  up : Up l
  upb : upB (-1) l = true
  wf : wfL l = true
  first : ∀ j : Nat, j + 1 < l.length → firstB l j = true
  second : ∀ (j : Nat) (h : j + 1 < l.length), secondB l l[j + 1] = true
theorem tr_of {l : List S34} (hw : wfL l = true) (h : rightB l = true) : Tr l := by
  have hu := right_up h hw
  have h2 := h
  unfold rightB at h2
  simp only [Bool.and_eq_true, decide_eq_true_eq, List.all_eq_true, List.mem_range] at h2
  exact ⟨by omega, h2.1.1.1.2, h2.1.1.2, up_of_upB l hu, hu, hw, fun j hj => h2.1.2 j (by omega), fun j hj => by have := h2.2 j (by omega); rwa [rd34_get _ _ hj] at this⟩
theorem right_of {l : List S34} (hp : 0 < l.length) (hle : l.length ≤ 40) (hroot : rootB (rd_T34 l 0) = true) (h1 : ∀ j : Nat, j + 1 < l.length → firstB l j = true) (h2 : ∀ (j : Nat) (h : j + 1 < l.length), secondB l l[j + 1] = true) : rightB l = true := by
  unfold rightB
  simp only [Bool.and_eq_true, decide_eq_true_eq, List.all_eq_true, List.mem_range]
  exact ⟨⟨⟨⟨by omega, hle⟩, hroot⟩, fun j hj => h1 j (by omega)⟩, fun j hj => by rw [rd34_get _ _ (show j + 1 < l.length by omega)]; exact h2 j (by omega)⟩
theorem second_iff (l : List S34) (x : S34) : secondB l x = true ↔ ((∃ p, ∃ hp : p < l.length, getN l x.f1 = (p : Int) ∧ findI l x.f1 = some l[p] ∧ l[p].f0 = x.f1 ∧ l[p].f3 = true) ∧ (gI (kidI l x.f1 x.f2)).f0 = x.f0 ∧ 0 ≤ depthI l 7 0 x.f0 ∧ (kidsI l x.f1).length ≤ 12) := by
  unfold secondB
  simp only [Bool.and_eq_true, decide_eq_true_eq, beq_iff_eq]
  constructor
  · rintro ⟨⟨⟨⟨h1, h2⟩, h3⟩, h4⟩, h5⟩
    refine ⟨?_, h3, h4, h5⟩
    rcases getN_cases l x.f1 with ⟨h6, h7⟩ | ⟨p, hp, h6, h7, h8⟩
    · rw [h7] at h1
      cases h1
    · rw [h7] at h2
      exact ⟨p, hp, h6, h7, h8, h2⟩
  · rintro ⟨⟨p, hp, h6, h7, h8, h9⟩, h3, h4, h5⟩
    rw [h7]
    exact ⟨⟨⟨⟨rfl, h9⟩, h3⟩, h4⟩, h5⟩
theorem Tr.r0 {l : List S34} (t : Tr l) : (l[0]'t.pos).f0 = 1 ∧ (l[0]'t.pos).f3 = true := by
  have h := t.root
  rw [show (0 : Int) = ((0 : Nat) : Int) from rfl, rd34_get _ _ t.pos] at h
  simp only [rootB, Bool.and_eq_true, beq_iff_eq] at h
  exact ⟨h.1.1.1.1, h.1.2⟩
theorem Tr.r1 {l : List S34} (t : Tr l) {i : Nat} (hi : i < l.length) : l[i].f0 = 1 ↔ i = 0 := by
  constructor
  · intro h
    exact t.up.inj hi t.pos (by rw [h, t.r0.1])
  · rintro rfl
    exact t.r0.1
theorem kidI_congr (l : List S34) (d : Int) {a b : ByteArray} (h : a.toList = b.toList) : kidI l d a = kidI l d b := by
  unfold kidI
  rw [h]
theorem kidN_congr (l : List S34) (d : Int) {a b : ByteArray} (h : a.toList = b.toList) : kidN l d a = kidN l d b := by
  unfold kidN
  rw [h]
/-- No two in one directory have one name. -/
def Keys (l : List S34) : Prop := ∀ (i j : Nat) (hi : i < l.length) (hj : j < l.length), 0 < i → 0 < j → l[i].f1 = l[j].f1 → l[i].f2.toList = l[j].f2.toList → i = j
theorem Tr.second' {l : List S34} (t : Tr l) {i : Nat} (hi : i < l.length) (h0 : 0 < i) : secondB l l[i] = true := by
  obtain ⟨j, rfl⟩ : ∃ j, i = j + 1 := ⟨i - 1, by omega⟩
  exact t.second j hi
theorem Tr.keys {l : List S34} (t : Tr l) : Keys l := by
  have key : ∀ (i : Nat) (hi : i < l.length), 0 < i → kidI l l[i].f1 l[i].f2 = some l[i] := by
    intro i hi h0
    have h := ((second_iff l l[i]).1 (t.second' hi h0)).2.1
    rcases kid_cases t.pos t.r0.1 t.up l[i].f1 l[i].f2 with ⟨h1, h2⟩ | ⟨p, hp, h1, h2, h3, h4⟩
    · rw [h2] at h
      have : (gI none).f0 = 0 := rfl
      have h5 := t.up 0 i h0 hi
      have := t.r0.1
      omega
    · rw [h3] at h
      have : p = i := t.up.inj hp hi h
      subst this
      exact h3
  intro i j hi hj h1 h2 h3 h4
  have a := key i hi h1
  have b := key j hj h2
  rw [h3, kidI_congr l _ h4, b] at a
  have := Option.some.inj a
  exact t.up.inj hi hj (by rw [this])
theorem kid_at {l : List S34} (hp : 0 < l.length) (hr : l[0].f0 = 1) (hu : Up l) (hk : Keys l) {i : Nat} (hi : i < l.length) (h0 : 0 < i) {d : Int} {nm : ByteArray} (hd : l[i].f1 = d) (hn : l[i].f2.toList = nm.toList) : kidI l d nm = some l[i] ∧ kidN l d nm = (i : Int) := by
  rcases kid_cases hp hr hu d nm with ⟨h1, h2⟩ | ⟨p, hp2, h1, h2, h3, h4, h5⟩
  · unfold kidI at h2
    rw [List.find?_eq_none] at h2
    have h6 := hu 0 i h0 hi
    have := h2 l[i] (List.getElem_mem hi)
    exfalso
    apply this
    unfold isKid
    rw [hd, hn, beq_eq_false_iff_ne.2 (show l[i].f0 ≠ 1 by omega)]
    simp
  · have : p = i := hk p i hp2 hi h1 h0 (by rw [h4, hd]) (by rw [h5, hn])
    subst this
    exact ⟨h3, h2⟩
/-! ### walks -/
theorem walk_rel {l : List S34} (hp : 0 < l.length) (hr : l[0].f0 = 1) (hu : Up l) : ∀ (ns : List ByteArray) (i : Nat) (hi : i < l.length), ∃ q, ∃ hq : q < l.length, (walkI l ns l[i]).2 = (walkN l ns (i : Int)).2 ∧ ((walkN l ns (i : Int)).2 = 0 → (walkN l ns (i : Int)).1 = (q : Int) ∧ (walkI l ns l[i]).1 = l[q])
  | [], i, hi => ⟨i, hi, rfl, fun _ => ⟨rfl, rfl⟩⟩
  | n :: ns, i, hi => by
    rw [walkI, walkN, rd34_get _ _ hi]
    by_cases hd : l[i].f3 = true
    · rw [if_pos hd, if_pos hd]
      rcases kid_cases hp hr hu l[i].f0 n with ⟨h1, h2⟩ | ⟨p, hp2, h1, h2, h3, h4⟩
      · rw [h1, h2]
        exact ⟨i, hi, rfl, fun h => by cases h⟩
      · rw [h2, h3, if_neg (by omega)]
        exact walk_rel hp hr hu ns p hp2
    · rw [if_neg hd, if_neg hd]
      exact ⟨i, hi, rfl, fun h => by cases h⟩
theorem walk_rel0 {l : List S34} (t : Tr l) (ns : List ByteArray) : ∃ q, ∃ hq : q < l.length, (walkI l ns (rd_T34 l 0)).2 = (walkN l ns 0).2 ∧ ((walkN l ns 0).2 = 0 → (walkN l ns 0).1 = (q : Int) ∧ (walkI l ns (rd_T34 l 0)).1 = l[q]) := by
  have := walk_rel t.pos t.r0.1 t.up ns 0 t.pos
  rwa [← rd34_get _ _ t.pos] at this
theorem above_rel {l : List S34} (t : Tr l) (ns : List ByteArray) : (aboveI l ns).e = (aboveN l ns).2 ∧ ((aboveN l ns).2 = 0 → ns.length ≠ 0 ∧ ∃ q, ∃ hq : q < l.length, (aboveN l ns).1 = (q : Int) ∧ (aboveI l ns).p = l[q] ∧ l[q].f3 = true ∧ (aboveI l ns).name = ns.getD (ns.length - 1) ⟨#[]⟩) := by
  unfold aboveI aboveN
  by_cases h : ns.length = 0
  · rw [if_pos h, if_pos h]
    exact ⟨rfl, fun h => by cases h⟩
  · rw [if_neg h, if_neg h]
    obtain ⟨q, hq, h1, h2⟩ := walk_rel0 t (ns.take (ns.length - 1))
    rw [h1]
    by_cases h3 : (walkN l (ns.take (ns.length - 1)) 0).2 = 0
    · obtain ⟨h4, h5⟩ := h2 h3
      rw [if_pos h3, h4, h5, rd34_get _ _ hq, if_pos h3]
      by_cases h6 : l[q].f3 = true
      · rw [if_pos h6, if_pos h6]
        exact ⟨rfl, fun _ => ⟨h, q, hq, rfl, rfl, h6, rfl⟩⟩
      · rw [if_neg h6, if_neg h6]
        exact ⟨rfl, fun h => by cases h⟩
    · rw [if_neg h3, if_neg h3]
      exact ⟨rfl, fun h7 => absurd h7 h3⟩
/-! ### the way up -/
theorem Tr.par {l : List S34} (t : Tr l) {i : Nat} (hi : i < l.length) (h0 : 0 < i) : ∃ p, ∃ hp : p < l.length, getN l l[i].f1 = (p : Int) ∧ findI l l[i].f1 = some l[p] ∧ l[p].f0 = l[i].f1 ∧ l[p].f3 = true :=
  ((second_iff l l[i]).1 (t.second' hi h0)).1
theorem in_rel {l : List S34} (t : Tr l) {k : Nat} (hk : k < l.length) : ∀ (m i : Nat) (hi : i < l.length), inUp l l[k].f0 m l[i].f0 = inN l (k : Int) m (i : Int) := by
  intro m
  induction m with
  | zero => intro i hi; rfl
  | succ m ih =>
    intro i hi
    rw [inUp, inN]
    by_cases h1 : i = k
    · subst h1
      rw [if_pos rfl, if_pos rfl]
    · rw [if_neg (fun h => h1 (t.up.inj hi hk h)), (t.up.find hi).1, if_pos (show (some l[i]).isSome = true from rfl), if_neg (show ¬ (i : Int) = (k : Int) by omega)]
      by_cases h2 : i = 0
      · rw [if_pos ((t.r1 hi).2 h2), if_pos (show (i : Int) = 0 by omega)]
      · rw [if_neg (fun h => h2 ((t.r1 hi).1 h)), if_neg (show ¬ (i : Int) = 0 by omega), if_pos (show 0 ≤ (i : Int) by omega)]
        obtain ⟨p, hp, h3, h4, h5, h6⟩ := t.par hi (by omega)
        have hg : gI (some l[i]) = l[i] := rfl
        rw [hg, rd34_get _ _ hi, h3, ← h5]
        exact ih p hp
theorem in_some (l : List S34) (inn : Int) : ∀ (m : Nat) (n id : Int), 0 ≤ n → 0 ≤ depthI l m n id → ∀ m' : Nat, m < m' → ∃ v, inUp l inn m' id = some v := by
  intro m
  induction m with
  | zero => intro n id hn h; simp [depthI] at h
  | succ m ih =>
    intro n id hn h m' hm
    obtain ⟨m', rfl⟩ : ∃ q, m' = q + 1 := ⟨m' - 1, by omega⟩
    rw [depthI] at h
    rw [inUp]
    by_cases h1 : id = inn
    · exact ⟨true, by rw [if_pos h1]⟩
    · rw [if_neg h1]
      cases hf : findI l id with
      | none => exact ⟨false, by rw [if_neg (by simp)]⟩
      | some p =>
        rw [if_pos (by rfl)]
        by_cases h2 : id = 1
        · exact ⟨false, by rw [if_pos h2]⟩
        · rw [if_neg h2]
          rw [if_neg h2, hf] at h
          exact ih (n + 1) p.f1 (by omega) h m' (by omega)
theorem Tr.depth {l : List S34} (t : Tr l) {i : Nat} (hi : i < l.length) : 0 ≤ depthI l 7 0 l[i].f0 := by
  by_cases h0 : i = 0
  · rw [(t.r1 hi).2 h0]
    simp [depthI]
  · exact ((second_iff l l[i]).1 (t.second' hi (by omega))).2.2.1
theorem Tr.inSome {l : List S34} (t : Tr l) {i k : Nat} (hi : i < l.length) (hk : k < l.length) : ∃ v, inUp l l[k].f0 50 l[i].f0 = some v ∧ inN l (k : Int) 50 (i : Int) = some v := by
  obtain ⟨v, hv⟩ := in_some l l[k].f0 7 0 l[i].f0 (by omega) (t.depth hi) 50 (by omega)
  exact ⟨v, hv, by rw [← in_rel t hk 50 i hi]; exact hv⟩
/-! ### one elsewhere -/
theorem set_f0 {l : List S34} {k : Nat} (hk : k < l.length) {x : S34} (h : x.f0 = l[k].f0) {i : Nat} (hi : i < (l.set k x).length) : (l.set k x)[i].f0 = (l[i]'(by simpa using hi)).f0 := by
  rw [List.getElem_set]
  split
  · rename_i he
    subst he
    exact h
  · rfl
theorem set_f3 {l : List S34} {k : Nat} (hk : k < l.length) {x : S34} (h : x.f3 = l[k].f3) {i : Nat} (hi : i < (l.set k x).length) : (l.set k x)[i].f3 = (l[i]'(by simpa using hi)).f3 := by
  rw [List.getElem_set]
  split
  · rename_i he
    subst he
    exact h
  · rfl
theorem set_f4 {l : List S34} {k : Nat} (hk : k < l.length) {x : S34} (h : x.f4 = l[k].f4) {i : Nat} (hi : i < (l.set k x).length) : (l.set k x)[i].f4 = (l[i]'(by simpa using hi)).f4 := by
  rw [List.getElem_set]
  split
  · rename_i he
    subst he
    exact h
  · rfl
theorem set_up {l : List S34} (hu : Up l) {k : Nat} (hk : k < l.length) {x : S34} (h : x.f0 = l[k].f0) : Up (l.set k x) := by
  intro a b hab hb
  rw [set_f0 hk h, set_f0 hk h]
  exact hu a b hab (by simpa using hb)
theorem set_getN {l : List S34} (hu : Up l) {k : Nat} (hk : k < l.length) {x : S34} (h : x.f0 = l[k].f0) (id : Int) : getN (l.set k x) id = getN l id := by
  rcases getN_cases l id with ⟨h1, h2⟩ | ⟨p, hp, h1, h2, h3⟩
  · rcases getN_cases (l.set k x) id with ⟨h4, h5⟩ | ⟨q, hq, h4, h5, h6⟩
    · rw [h1, h4]
    · rw [set_f0 hk h] at h6
      have := (hu.find (show q < l.length by simpa using hq)).1
      rw [h6, h2] at this
      cases this
  · have hp' : p < (l.set k x).length := by simpa using hp
    have := ((set_up hu hk h).find hp').2
    rw [set_f0 hk h, h3] at this
    rw [this, h1]
theorem outN_at (l : List S34) (k : Nat) (hk : k < l.length) (hu : Up l) : plc (outN l k) l[k].f0 = k := by
  have hlen : (outN l k).length = l.length - 1 := by simp [outN]; omega
  refine plc_at _ _ _ (by omega) (fun j hj => ?_) (fun h => ?_)
  · have : (outN l k)[j]'(by omega) = l[j]'(by omega) := by
      unfold outN
      rw [List.getElem_append_left (by simp; omega)]
      simp
    rw [this]
    exact hu j k hj hk
  · have : (outN l k)[k]'h = l[k + 1]'(by omega) := by
      have hle : (l.take k).length ≤ k := by rw [List.length_take]; omega
      refine (List.getElem_append_right hle).trans ?_
      rw [List.getElem_drop]
      congr 1
      rw [List.length_take]
      omega
    rw [this]
    have := hu k (k + 1) (by omega) (by omega)
    omega
theorem with_out (l : List S34) (k : Nat) (hk : k < l.length) (hu : Up l) (x : S34) (hx : x.f0 = l[k].f0) : withN (outN l k) x = l.set k x := by
  unfold withN
  rw [hx, outN_at l k hk hu, List.set_eq_take_append_cons_drop, if_pos hk]
  unfold outN
  congr 1
  · rw [List.take_append_of_le_length (by simp; omega), List.take_take, Nat.min_self]
  · congr 1
    rw [List.drop_append_of_le_length (by simp; omega)]
    simp
end Go.Proofs.YthbdgahmlggpmaaDoor.Q
