/- When a tree with one elsewhere is a tree, in plain Lean. -/
import Derived.Test.YthbdgahmlggpmaaDoorR4
namespace Go.Proofs.YthbdgahmlggpmaaDoor.Q
open Go.RowKit Go.Proofs.YthbdgahmlggpmaaDoorW.PrintWords Go.Proofs.YthbdgahmlggpmaaDoorW.PrintLast
set_option linter.unusedVariables false
set_option linter.unusedSimpArgs false
theorem kidsN_count (l : List S34) (d : Int) : kidsN l d = (l.drop 1).countP (fun x => x.f1 == d) := by
  unfold kidsN
  rw [List.countP_eq_length_filter]
theorem kids_set {l : List S34} {k : Nat} (h0 : 0 < k) (hk : k < l.length) (x : S34) (d : Int) :
    kidsN (l.set k x) d = (kidsN l d - (if l[k].f1 = d then 1 else 0)) + (if x.f1 = d then 1 else 0) := by
  rw [kidsN_count, kidsN_count, List.drop_set, if_neg (by omega), List.countP_set (by simp; omega)]
  have : (l.drop 1)[k - 1]'(by simp; omega) = l[k] := by
    rw [List.getElem_drop]
    congr 1
    omega
  rw [this]
  simp only [beq_iff_eq]
theorem kids_pos {l : List S34} {i : Nat} (h0 : 0 < i) (hi : i < l.length) : 0 < kidsN l l[i].f1 := by
  rw [kidsN_count]
  apply List.countP_pos_iff.2
  refine ⟨l[i], ?_, by simp⟩
  rw [List.mem_iff_getElem]
  exact ⟨i - 1, by simp; omega, by rw [List.getElem_drop]; congr 1; omega⟩
theorem Tr.kids12 {l : List S34} (t : Tr l) {i : Nat} (h0 : 0 < i) (hi : i < l.length) : kidsN l l[i].f1 ≤ 12 := by
  have := ((second_iff l l[i]).1 (t.second' hi h0)).2.2.2
  rwa [filter_len_eq t.pos t.r0.1 t.up] at this
theorem Tr.kids_any {l : List S34} (t : Tr l) (d : Int) : kidsN l d ≤ 12 := by
  rcases Nat.eq_zero_or_pos (kidsN l d) with h | h
  · omega
  · rw [kidsN_count] at h
    obtain ⟨y, hy, h2⟩ := List.countP_pos_iff.1 h
    obtain ⟨i, hi, rfl⟩ := List.mem_iff_getElem.1 hy
    rw [List.getElem_drop] at h2
    have hi2 : 1 + i < l.length := by rw [List.length_drop] at hi; omega
    have := t.kids12 (i := 1 + i) (by omega) hi2
    rwa [beq_iff_eq.1 h2] at this
/-- What holds of a place to which one is put. -/
structure Spot (l : List S34) (k p : Nat) (nm : ByteArray) : Prop where
  hk : k < l.length
  h0 : 0 < k
  hp : p < l.length
  dir : l[p].f3 = true
  name : isNameB nm = true
  free : ∀ (i : Nat) (hi : i < l.length), 0 < i → l[i].f1 = l[p].f0 → l[i].f2.toList = nm.toList → i = k
  room : l[p].f0 = l[k].f1 ∨ kidsN l l[p].f0 ≠ 12
theorem Spot.keys {l : List S34} (t : Tr l) {k p : Nat} {nm : ByteArray} (s : Spot l k p nm) : Keys (l.set k (moved (l[k]'s.hk) (l[p]'s.hp) nm)) := by
  have hk := s.hk
  have hp := s.hp
  intro i j hi hj h1 h2 h3 h4
  have hi' : i < l.length := by simpa using hi
  have hj' : j < l.length := by simpa using hj
  rw [List.getElem_set, List.getElem_set] at h3 h4
  by_cases ei : k = i
  · by_cases ej : k = j
    · omega
    · rw [if_pos ei, if_neg ej] at h3 h4
      have := s.free j hj' h2 h3.symm h4.symm
      omega
  · by_cases ej : k = j
    · rw [if_neg ei, if_pos ej] at h3 h4
      have := s.free i hi' h1 h3 h4
      omega
    · rw [if_neg ei, if_neg ej] at h3 h4
      exact t.keys i j hi' hj' h1 h2 h3 h4
theorem wfI_moved {x p : S34} {nm : ByteArray} (hx : wfI x = true) (hp : wfI p = true) : wfI (moved x p nm) = true := by
  rw [wfI_iff] at *
  exact ⟨hx.1, hx.2.1, hp.1, hp.2.1, hx.2.2.2.2.1, hx.2.2.2.2.2⟩
theorem wfL_at {l : List S34} (h : wfL l = true) {i : Nat} (hi : i < l.length) : wfI l[i] = true := List.all_eq_true.1 h _ (List.getElem_mem hi)
theorem wfL_set {l : List S34} (h : wfL l = true) {k : Nat} {x : S34} (hx : wfI x = true) : wfL (l.set k x) = true := by
  unfold wfL
  rw [List.all_eq_true]
  intro y hy
  rcases List.mem_or_eq_of_mem_set hy with h1 | rfl
  · exact List.all_eq_true.1 h y h1
  · exact hx
theorem rdS (l : List S34) (i : Nat) (hi : i < l.length) : rd_T34 l (i : Int) = l[i] := rd34_get l i hi
/-- A tree with one elsewhere is a tree if and only if none lies too deep. -/
theorem Spot.right {l : List S34} (t : Tr l) {k p : Nat} {nm : ByteArray} (s : Spot l k p nm) :
    rightB (l.set k (moved (l[k]'s.hk) (l[p]'s.hp) nm)) = true ↔ ∀ i : Nat, i < l.length → depthN (l.set k (moved (l[k]'s.hk) (l[p]'s.hp) nm)) 8 (i : Int) 0 ≤ 6 := by
  have hk := s.hk
  have hp := s.hp
  have h0 := s.h0
  have hf0 : (moved l[k] l[p] nm).f0 = l[k].f0 := rfl
  have hf3 : (moved l[k] l[p] nm).f3 = l[k].f3 := rfl
  have hf4 : (moved l[k] l[p] nm).f4 = l[k].f4 := rfl
  have hkeys := s.keys t
  have hu := set_up t.up hk hf0
  have hw : wfL (l.set k (moved l[k] l[p] nm)) = true := wfL_set t.wf (wfI_moved (wfL_at t.wf hk) (wfL_at t.wf hp))
  obtain ⟨o, ho⟩ : ∃ o, o = l.set k (moved l[k] l[p] nm) := ⟨_, rfl⟩
  have hlen : o.length = l.length := by rw [ho]; simp
  have hpos : 0 < o.length := by rw [hlen]; exact t.pos
  have hr0 : o[0].f0 = 1 := by
    simp only [ho]
    rw [set_f0 hk hf0]
    exact t.r0.1
  rw [← ho] at hkeys hu hw ⊢
  constructor
  · intro h i hi
    have t2 := tr_of hw h
    have hd := depth_cases t2.pos t2.r0.1 t2.up 7 i (by omega) 0 (by omega) (by omega)
    exact hd.1 (t2.depth (by omega))
  · intro h
    refine right_of hpos (by rw [hlen]; exact t.le) ?_ ?_ ?_
    · have : rd_T34 o 0 = rd_T34 l 0 := by
        rw [show (0 : Int) = ((0 : Nat) : Int) from rfl, rdS _ _ hpos, rdS _ _ t.pos]
        simp only [ho]
        rw [List.getElem_set, if_neg (by omega)]
      rw [this]
      exact t.root
    · intro j hj
      have hj' : j + 1 < l.length := by omega
      have hf := t.first j hj'
      unfold firstB at hf ⊢
      rw [rdS _ _ hj', rdS _ _ (show j < l.length by omega)] at hf
      rw [rdS _ _ hj, rdS _ _ (show j < o.length by omega)]
      have e1 : o[j + 1].f0 = l[j + 1].f0 := by simp only [ho]; rw [set_f0 hk hf0]
      have e2 : o[j].f0 = l[j].f0 := by simp only [ho]; rw [set_f0 hk hf0]
      have e3 : o[j + 1].f3 = l[j + 1].f3 := by simp only [ho]; rw [set_f3 hk hf3]
      have e4 : o[j + 1].f4 = l[j + 1].f4 := by simp only [ho]; rw [set_f4 hk hf4]
      have e5 : isNameB o[j + 1].f2 = true := by
        simp only [ho]
        rw [List.getElem_set]
        split
        · exact s.name
        · simp only [Bool.and_eq_true] at hf
          exact hf.1.1.2
      rw [e1, e2, e3, e4, e5]
      simp only [Bool.and_eq_true] at hf ⊢
      exact ⟨⟨⟨hf.1.1.1, trivial⟩, hf.1.2⟩, hf.2⟩
    · intro j hj
      have hj' : j + 1 < l.length := by omega
      have hg : ∀ id, getN o id = getN l id := fun id => by rw [ho]; exact set_getN t.up hk hf0 id
      have hdir : ∀ (q : Nat) (hq : q < l.length), (o[q]'(by omega)).f3 = l[q].f3 := fun q hq => by simp only [ho]; rw [set_f3 hk hf3]
      have hid : ∀ (q : Nat) (hq : q < l.length), (o[q]'(by omega)).f0 = l[q].f0 := fun q hq => by simp only [ho]; rw [set_f0 hk hf0]
      rw [second_iff]
      refine ⟨?_, ?_, ?_, ?_⟩
      · have hq : ∃ q, ∃ hq : q < l.length, o[j + 1].f1 = l[q].f0 ∧ l[q].f3 = true := by
          by_cases e : k = j + 1
          · refine ⟨p, hp, ?_, s.dir⟩
            simp only [ho]
            rw [List.getElem_set, if_pos e]
            rfl
          · obtain ⟨q, hq, _, _, h3, h4⟩ := t.par hj' (by omega)
            refine ⟨q, hq, ?_, h4⟩
            simp only [ho]
            rw [List.getElem_set, if_neg e, h3]
        obtain ⟨q, hq, h1, h2⟩ := hq
        have hq' : q < o.length := by omega
        have := hu.find hq'
        rw [hid q hq, ← h1] at this
        exact ⟨q, hq', this.2, this.1, by rw [hid q hq, h1], by rw [hdir q hq, h2]⟩
      · rw [(kid_at hpos hr0 hu hkeys hj (by omega) rfl rfl).1]
        rfl
      · have hd := depth_cases hpos hr0 hu 7 (j + 1) hj 0 (by omega) (by omega)
        exact hd.2 (h (j + 1) hj')
      · rw [filter_len_eq hpos hr0 hu]
        have hks : ∀ d, kidsN o d = (kidsN l d - (if l[k].f1 = d then 1 else 0)) + (if l[p].f0 = d then 1 else 0) := fun d => by rw [ho]; exact kids_set h0 hk _ d
        rw [hks]
        have h12 := t.kids_any o[j + 1].f1
        have hkp := kids_pos h0 hk
        by_cases e1 : l[k].f1 = o[j + 1].f1
        · rw [e1] at hkp
          rw [if_pos e1]
          split <;> omega
        · rw [if_neg e1]
          by_cases e2 : l[p].f0 = o[j + 1].f1
          · rw [if_pos e2]
            rcases s.room with h3 | h3
            · exact absurd (h3 ▸ e2) (by rw [h3] at e2; exact fun _ => e1 e2)
            · rw [e2] at h3
              omega
          · rw [if_neg e2]
            omega
theorem split_names {s : ByteArray} (h : (splitF s).2 = 0) : ∀ x ∈ (splitF s).1, isNameB x = true := by
  unfold splitF at h ⊢
  split
  · intro x hx; cases hx
  · rename_i h1
    rw [if_neg h1] at h
    split
    · intro x hx; cases hx
    · rename_i h2
      rw [if_neg h2] at h
      split
      · rename_i h3
        exact fun x hx => List.all_eq_true.1 h3 x hx
      · intro x hx; cases hx
theorem split_err (s : ByteArray) : (splitF s).2 = 0 ∨ (splitF s).2 = 9 := by
  unfold splitF
  split
  · exact .inl rfl
  · split
    · exact .inr rfl
    · split
      · exact .inl rfl
      · exact .inr rfl
end Go.Proofs.YthbdgahmlggpmaaDoor.Q
