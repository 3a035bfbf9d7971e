/- Rename: when a tree with one elsewhere is a tree; the document's Rename is the program's, in plain Lean. -/
import Derived.Test.YthbdgahmlggpmaaDoorR4
import Derived.Test.YthbdgahmlggpmaaDoorQ12
namespace Go.Proofs.YthbdgahmlggpmaaDoor.Q
open Go.RowKit Go.Proofs.YthbdgahmlggpmaaDoorW.PrintWords Go.Proofs.YthbdgahmlggpmaaDoorW.PrintLast
set_option linter.unusedVariables false
set_option linter.unusedSimpArgs false
theorem kidsN_count (l : List S34) (d : Int) : kidsN l d = (l.drop 1).countP (fun x => x.f1 == d) := by
  unfold kidsN
  rw [List.countP_eq_length_filter]
theorem kids_set {l : List S34} {k : Nat} (h0 : 0 < k) (hk : k < l.length) (x : S34) (d : Int) :
    kidsN (l.set k x) d = (kidsN l d - (if l[k].f1 = d then 1 else 0)) + (if x.f1 = d then 1 else 0) := by
  rw [kidsN_count, kidsN_count, List.drop_set, if_neg (by omega), List.countP_set (by simp; omega)]
  have : (l.drop 1)[k - 1]'(by simp; omega) = l[k] := by
    rw [List.getElem_drop]
    congr 1
    omega
  rw [this]
  simp only [beq_iff_eq]
theorem kids_pos {l : List S34} {i : Nat} (h0 : 0 < i) (hi : i < l.length) : 0 < kidsN l l[i].f1 := by
  rw [kidsN_count]
  apply List.countP_pos_iff.2
  refine ⟨l[i], ?_, by simp⟩
  rw [List.mem_iff_getElem]
  exact ⟨i - 1, by simp; omega, by rw [List.getElem_drop]; congr 1; omega⟩
theorem Tr.kids12 {l : List S34} (t : Tr l) {i : Nat} (h0 : 0 < i) (hi : i < l.length) : kidsN l l[i].f1 ≤ 12 := by
  have := ((second_iff l l[i]).1 (t.second' hi h0)).2.2.2
  rwa [filter_len_eq t.pos t.r0.1 t.up] at this
theorem Tr.kids_any {l : List S34} (t : Tr l) (d : Int) : kidsN l d ≤ 12 := by
  rcases Nat.eq_zero_or_pos (kidsN l d) with h | h
  · omega
  · rw [kidsN_count] at h
    obtain ⟨y, hy, h2⟩ := List.countP_pos_iff.1 h
    obtain ⟨i, hi, rfl⟩ := List.mem_iff_getElem.1 hy
    rw [List.getElem_drop] at h2
    have hi2 : 1 + i < l.length := by rw [List.length_drop] at hi; omega
    have := t.kids12 (i := 1 + i) (by omega) hi2
    rwa [beq_iff_eq.1 h2] at this
/-- What holds of a place to which one is put. -/
structure Spot (l : List S34) (k p : Nat) (nm : ByteArray) : Prop where
  hk : k < l.length
  h0 : 0 < k
  hp : p < l.length
  dir : l[p].f3 = true
  name : isNameB nm = true
  free : ∀ (i : Nat) (hi : i < l.length), 0 < i → l[i].f1 = l[p].f0 → l[i].f2.toList = nm.toList → i = k
  room : l[p].f0 = l[k].f1 ∨ kidsN l l[p].f0 ≠ 12
theorem Spot.keys {l : List S34} (t : Tr l) {k p : Nat} {nm : ByteArray} (s : Spot l k p nm) : Keys (l.set k (moved (l[k]'s.hk) (l[p]'s.hp) nm)) := by
  have hk := s.hk
  have hp := s.hp
  intro i j hi hj h1 h2 h3 h4
  have hi' : i < l.length := by simpa using hi
  have hj' : j < l.length := by simpa using hj
  rw [List.getElem_set, List.getElem_set] at h3 h4
  by_cases ei : k = i
  · by_cases ej : k = j
    · omega
    · rw [if_pos ei, if_neg ej] at h3 h4
      have := s.free j hj' h2 h3.symm h4.symm
      omega
  · by_cases ej : k = j
    · rw [if_neg ei, if_pos ej] at h3 h4
      have := s.free i hi' h1 h3 h4
      omega
    · rw [if_neg ei, if_neg ej] at h3 h4
      exact t.keys i j hi' hj' h1 h2 h3 h4
theorem wfI_moved {x p : S34} {nm : ByteArray} (hx : wfI x = true) (hp : wfI p = true) : wfI (moved x p nm) = true := by
  rw [wfI_iff] at *
  exact ⟨hx.1, hx.2.1, hp.1, hp.2.1, hx.2.2.2.2.1, hx.2.2.2.2.2⟩
theorem wfL_at {l : List S34} (h : wfL l = true) {i : Nat} (hi : i < l.length) : wfI l[i] = true := List.all_eq_true.1 h _ (List.getElem_mem hi)
theorem wfL_set {l : List S34} (h : wfL l = true) {k : Nat} {x : S34} (hx : wfI x = true) : wfL (l.set k x) = true := by
  unfold wfL
  rw [List.all_eq_true]
  intro y hy
  rcases List.mem_or_eq_of_mem_set hy with h1 | rfl
  · exact List.all_eq_true.1 h y h1
  · exact hx
theorem rdS (l : List S34) (i : Nat) (hi : i < l.length) : rd_T34 l (i : Int) = l[i] := rd34_get l i hi
/-- A tree with one elsewhere is a tree if and only if none lies too deep. -/
theorem Spot.right {l : List S34} (t : Tr l) {k p : Nat} {nm : ByteArray} (s : Spot l k p nm) :
    rightB (l.set k (moved (l[k]'s.hk) (l[p]'s.hp) nm)) = true ↔ ∀ i : Nat, i < l.length → depthN (l.set k (moved (l[k]'s.hk) (l[p]'s.hp) nm)) 8 (i : Int) 0 ≤ 6 := by
  have hk := s.hk
  have hp := s.hp
  have h0 := s.h0
  have hf0 : (moved l[k] l[p] nm).f0 = l[k].f0 := rfl
  have hf3 : (moved l[k] l[p] nm).f3 = l[k].f3 := rfl
  have hf4 : (moved l[k] l[p] nm).f4 = l[k].f4 := rfl
  have hkeys := s.keys t
  have hu := set_up t.up hk hf0
  have hw : wfL (l.set k (moved l[k] l[p] nm)) = true := wfL_set t.wf (wfI_moved (wfL_at t.wf hk) (wfL_at t.wf hp))
  obtain ⟨o, ho⟩ : ∃ o, o = l.set k (moved l[k] l[p] nm) := ⟨_, rfl⟩
  have hlen : o.length = l.length := by rw [ho]; simp
  have hpos : 0 < o.length := by rw [hlen]; exact t.pos
  have hr0 : o[0].f0 = 1 := by
    simp only [ho]
    rw [set_f0 hk hf0]
    exact t.r0.1
  rw [← ho] at hkeys hu hw ⊢
  constructor
  · intro h i hi
    have t2 := tr_of hw h
    have hd := depth_cases t2.pos t2.r0.1 t2.up 7 i (by omega) 0 (by omega) (by omega)
    exact hd.1 (t2.depth (by omega))
  · intro h
    refine right_of hpos (by rw [hlen]; exact t.le) ?_ ?_ ?_
    · have : rd_T34 o 0 = rd_T34 l 0 := by
        rw [show (0 : Int) = ((0 : Nat) : Int) from rfl, rdS _ _ hpos, rdS _ _ t.pos]
        simp only [ho]
        rw [List.getElem_set, if_neg (by omega)]
      rw [this]
      exact t.root
    · intro j hj
      have hj' : j + 1 < l.length := by omega
      have hf := t.first j hj'
      unfold firstB at hf ⊢
      rw [rdS _ _ hj', rdS _ _ (show j < l.length by omega)] at hf
      rw [rdS _ _ hj, rdS _ _ (show j < o.length by omega)]
      have e1 : o[j + 1].f0 = l[j + 1].f0 := by simp only [ho]; rw [set_f0 hk hf0]
      have e2 : o[j].f0 = l[j].f0 := by simp only [ho]; rw [set_f0 hk hf0]
      have e3 : o[j + 1].f3 = l[j + 1].f3 := by simp only [ho]; rw [set_f3 hk hf3]
      have e4 : o[j + 1].f4 = l[j + 1].f4 := by simp only [ho]; rw [set_f4 hk hf4]
      have e5 : isNameB o[j + 1].f2 = true := by
        simp only [ho]
        rw [List.getElem_set]
        split
        · exact s.name
        · simp only [Bool.and_eq_true] at hf
          exact hf.1.1.2
      rw [e1, e2, e3, e4, e5]
      simp only [Bool.and_eq_true] at hf ⊢
      exact ⟨⟨⟨hf.1.1.1, trivial⟩, hf.1.2⟩, hf.2⟩
    · intro j hj
      have hj' : j + 1 < l.length := by omega
      have hg : ∀ id, getN o id = getN l id := fun id => by rw [ho]; exact set_getN t.up hk hf0 id
      have hdir : ∀ (q : Nat) (hq : q < l.length), (o[q]'(by omega)).f3 = l[q].f3 := fun q hq => by simp only [ho]; rw [set_f3 hk hf3]
      have hid : ∀ (q : Nat) (hq : q < l.length), (o[q]'(by omega)).f0 = l[q].f0 := fun q hq => by simp only [ho]; rw [set_f0 hk hf0]
      rw [second_iff]
      refine ⟨?_, ?_, ?_, ?_⟩
      · have hq : ∃ q, ∃ hq : q < l.length, o[j + 1].f1 = l[q].f0 ∧ l[q].f3 = true := by
          by_cases e : k = j + 1
          · refine ⟨p, hp, ?_, s.dir⟩
            simp only [ho]
            rw [List.getElem_set, if_pos e]
            rfl
          · obtain ⟨q, hq, _, _, h3, h4⟩ := t.par hj' (by omega)
            refine ⟨q, hq, ?_, h4⟩
            simp only [ho]
            rw [List.getElem_set, if_neg e, h3]
        obtain ⟨q, hq, h1, h2⟩ := hq
        have hq' : q < o.length := by omega
        have := hu.find hq'
        rw [hid q hq, ← h1] at this
        exact ⟨q, hq', this.2, this.1, by rw [hid q hq, h1], by rw [hdir q hq, h2]⟩
      · rw [(kid_at hpos hr0 hu hkeys hj (by omega) rfl rfl).1]
        rfl
      · have hd := depth_cases hpos hr0 hu 7 (j + 1) hj 0 (by omega) (by omega)
        exact hd.2 (h (j + 1) hj')
      · rw [filter_len_eq hpos hr0 hu]
        have hks : ∀ d, kidsN o d = (kidsN l d - (if l[k].f1 = d then 1 else 0)) + (if l[p].f0 = d then 1 else 0) := fun d => by rw [ho]; exact kids_set h0 hk _ d
        rw [hks]
        have h12 := t.kids_any o[j + 1].f1
        have hkp := kids_pos h0 hk
        by_cases e1 : l[k].f1 = o[j + 1].f1
        · rw [e1] at hkp
          rw [if_pos e1]
          split <;> omega
        · rw [if_neg e1]
          by_cases e2 : l[p].f0 = o[j + 1].f1
          · rw [if_pos e2]
            rcases s.room with h3 | h3
            · exact absurd (h3 ▸ e2) (by rw [h3] at e2; exact fun _ => e1 e2)
            · rw [e2] at h3
              omega
          · rw [if_neg e2]
            omega
/-! ### the document's Rename -/
theorem rdep_loop (o : List S34) (hl : o.length ≤ 1000) : ∀ (n K i : Nat), i + n = o.length → o.length + n + 9 < K → r10_Rename.l0 K o (i : Int) = some (if ((List.range' i n).all fun j => decide (depthN o 8 (j : Int) 0 ≤ 6)) = true then (o, 0) else ([], 9)) := by
  intro n
  induction n with
  | zero =>
    intro K i hi hK
    obtain ⟨K, rfl⟩ : ∃ m, K = m + 1 := ⟨K - 1, by omega⟩
    rw [r10_Rename.l0, if_neg (by omega)]
    rfl
  | succ n ih =>
    intro K i hi hK
    obtain ⟨K, rfl⟩ : ∃ m, K = m + 1 := ⟨K - 1, by omega⟩
    rw [r10_Rename.l0, if_pos (by omega), rdepth_f o hl K (by omega) (i : Int) (by omega) (by omega), Option.bind_some, List.range'_succ, List.all_cons]
    by_cases hd : depthN o 8 (i : Int) 0 > 6
    · rw [if_pos hd, decide_eq_false (by omega), Bool.false_and, if_neg (by decide)]
    · rw [if_neg hd, decide_eq_true (by omega), Bool.true_and, wrap_in (by omega) (by omega), show ((i : Int) + 1) = ((i + 1 : Nat) : Int) by omega]
      exact ih K (i + 1) (by omega) (by omega)
theorem split_names {s : ByteArray} (h : (splitF s).2 = 0) : ∀ x ∈ (splitF s).1, isNameB x = true := by
  unfold splitF at h ⊢
  split
  · intro x hx; cases hx
  · rename_i h1
    rw [if_neg h1] at h
    split
    · intro x hx; cases hx
    · rename_i h2
      rw [if_neg h2] at h
      split
      · rename_i h3
        exact fun x hx => List.all_eq_true.1 h3 x hx
      · intro x hx; cases hx
theorem split_err (s : ByteArray) : (splitF s).2 = 0 ∨ (splitF s).2 = 9 := by
  unfold splitF
  split
  · exact .inl rfl
  · split
    · exact .inr rfl
    · split
      · exact .inl rfl
      · exact .inr rfl
/-- What the program's Rename answers behind the way up. -/
theorem ren2_eq {l : List S34} (t : Tr l) (hl : l.length ≤ 100) {k p : Nat} (hk : k < l.length) (h0 : 0 < k) (hp : p < l.length) (hd : l[p].f3 = true) (nm : ByteArray) (hnm : isNameB nm = true) (K : Nat) (hK : 1000 < K) :
    (if kidN l l[p].f0 nm = (k : Int) then ((some (([] : List S34))).bind fun y => if y.length + l.length < 4398046511104 then some ((y ++ l), (0 : Int)) else none)
     else if kidN l l[p].f0 nm ≥ 0 then some ([], 8)
     else if 0 ≤ (k : Int) then (if (k : Int) < (l.length : Int) then
       (if (rd_T34 l (p : Int)).f0 = (rd_T34 l (k : Int)).f1 then r10_Rename.j1 K l (k : Int) (p : Int) nm false
        else (r10_Kids.f K l (rd_T34 l (p : Int)).f0).bind fun c => r10_Rename.j1 K l (k : Int) (p : Int) nm (c == 12)) else none) else none)
    = ren2 l l[k] ⟨l[p], nm, 0⟩ false := by
  have hpk : putI l (moved l[k] l[p] nm) = l.set k (moved l[k] l[p] nm) := put_known t.up hk _ rfl
  have hw : wfL (l.set k (moved l[k] l[p] nm)) = true := wfL_set t.wf (wfI_moved (wfL_at t.wf hk) (wfL_at t.wf hp))
  have R : ren2 l l[k] ⟨l[p], nm, 0⟩ false = (if (kidI l l[p].f0 nm).isSome = true then (if (gI (kidI l l[p].f0 nm)).f0 = l[k].f0 then some (l, 0) else some ([], 8)) else if l[p].f0 ≠ l[k].f1 ∧ (kidsI l l[p].f0).length = 12 then some ([], 16) else if rightB (l.set k (moved l[k] l[p] nm)) = true then some (l.set k (moved l[k] l[p] nm), 0) else some ([], 9)) := by
    unfold ren2
    rw [if_neg Bool.false_ne_true]
    simp only [hpk]
    rw [if_pos hw]
  rw [R]
  clear R
  rcases kid_cases t.pos t.r0.1 t.up l[p].f0 nm with ⟨h1, h2⟩ | ⟨q, hq, h1, h2, h3, h4, h5⟩
  · rw [h1, h2, if_neg (show ¬ (-1 : Int) = (k : Int) by omega), if_neg (show ¬ (-1 : Int) ≥ 0 by omega), if_pos (show 0 ≤ (k : Int) by omega), if_pos (show (k : Int) < (l.length : Int) by omega), rdS _ _ hp, rdS _ _ hk, if_neg (show ¬ (none : Option S34).isSome = true by simp)]
    have hfree : ∀ (i : Nat) (hi : i < l.length), 0 < i → l[i].f1 = l[p].f0 → l[i].f2.toList = nm.toList → i = k := by
      intro i hi hi0 h3 h4
      have := (kid_at t.pos t.r0.1 t.up t.keys hi hi0 h3 h4).1
      rw [h2] at this
      cases this
    have main : ∀ (hr : l[p].f0 = l[k].f1 ∨ kidsN l l[p].f0 ≠ 12) (K : Nat), 1000 ≤ K → r10_Rename.j1 K l (k : Int) (p : Int) nm false = (if rightB (l.set k (moved l[k] l[p] nm)) = true then some (l.set k (moved l[k] l[p] nm), 0) else some ([], 9)) := by
      intro hr K hK
      obtain ⟨K, rfl⟩ : ∃ m, K = m + 1 := ⟨K - 1, by omega⟩
      rw [r10_Rename.j1, if_neg Bool.false_ne_true, if_pos (show 0 ≤ (k : Int) by omega), if_pos (show (k : Int) < (l.length : Int) by omega), if_pos (show 0 ≤ (p : Int) by omega), if_pos (show (p : Int) < (l.length : Int) by omega), rwithout_f l (by omega) k hk, Option.bind_some, rdS _ _ hk, rdS _ _ hp]
      have := rwith_f (outN l k) (by simp [outN]; omega) (moved l[k] l[p] nm) K (by simp [outN]; omega)
      rw [with_out l k hk t.up (moved l[k] l[p] nm) rfl] at this
      have e : r10_With.f K (outN l k) l[k].f0 l[p].f0 nm l[k].f3 l[k].f4 = some (l.set k (moved l[k] l[p] nm)) := this
      rw [e, Option.bind_some]
      have s : Spot l k p nm := ⟨hk, h0, hp, hd, hnm, hfree, hr⟩
      have hlen : (l.set k (moved l[k] l[p] nm)).length = l.length := by simp
      have := rdep_loop (l.set k (moved l[k] l[p] nm)) (by omega) (l.set k (moved l[k] l[p] nm)).length K 0 (by omega) (by omega)
      rw [show (0 : Int) = ((0 : Nat) : Int) from rfl, this]
      have hi := s.right t
      by_cases hb : rightB (l.set k (moved l[k] l[p] nm)) = true
      · rw [if_pos hb, if_pos]
        · rfl
        · rw [List.all_eq_true]
          intro j hj
          rw [List.mem_range'_1] at hj
          exact decide_eq_true (hi.1 hb j (by omega))
      · rw [if_neg hb, if_neg]
        intro ha
        apply hb
        rw [hi]
        intro j hj
        rw [List.all_eq_true] at ha
        exact of_decide_eq_true (ha j (by rw [List.mem_range'_1]; omega))
    by_cases h3 : l[p].f0 = l[k].f1
    · rw [if_pos h3, if_neg (fun h => h.1 h3)]
      exact main (.inl h3) K (by omega)
    · rw [if_neg h3, rkids_f l (show l.length ≤ 1000 by omega) t.pos _ K (by omega), Option.bind_some, filter_len_eq t.pos t.r0.1 t.up]
      by_cases h4 : kidsN l l[p].f0 = 12
      · rw [if_pos ⟨h3, h4⟩, h4]
        obtain ⟨K, rfl⟩ : ∃ m, K = m + 1 := ⟨K - 1, by omega⟩
        rw [show (((12 : Nat) : Int) == 12) = true from rfl, r10_Rename.j1, if_pos rfl]
      · rw [if_neg (fun h => h4 h.2), beq_eq_false_iff_ne.2 (by omega)]
        exact main (.inr h4) K (by omega)
  · rw [h2, h3]
    simp only [Option.isSome_some, if_true]
    have hg : gI (some l[q]) = l[q] := rfl
    rw [hg]
    by_cases h6 : q = k
    · subst h6
      rw [if_pos (show (q : Int) = (q : Int) from rfl), if_pos (show l[q].f0 = l[q].f0 from rfl), Option.bind_some, if_pos (by simp; omega), List.nil_append]
    · rw [if_neg (show ¬ (q : Int) = (k : Int) by omega), if_pos (show (q : Int) ≥ 0 by omega), if_neg (fun h => h6 (t.up.inj hq hk h))]
theorem rrename_f (l : List S34) (hw : wfL l = true) (hl : l.length ≤ 100) (s u : ByteArray) (hs : s.size ≤ 1000) (hu : u.size ≤ 1000) (K : Nat) (hK : 5000 < K) : r10_Rename.f K l s u = tree_Rename.f l s u := by
  unfold r10_Rename.f tree_Rename.f r10_Right.f ren0 beginF
  rw [if_pos hw, if_pos ⟨hw, by omega, by omega⟩, rightN_eq l hw, Option.bind_some]
  cases hr : rightB l with
  | false => rfl
  | true =>
  have t := tr_of hw hr
  simp only [if_true]
  rw [rsplit_f s (by omega) K (by omega), rsplit_f u (by omega) K (by omega)]
  simp only [Option.bind_some]
  have hls := splitF_len s
  have hlu := splitF_len u
  have hnu := fun h => split_names (s := u) h
  have hes := split_err s
  have heu := split_err u
  generalize splitF s = a at *
  generalize splitF u = b at *
  obtain ⟨a, ea⟩ := a
  obtain ⟨b, eb⟩ := b
  simp only at hls hlu hnu hes heu ⊢
  obtain ⟨K, rfl⟩ : ∃ m, K = m + 1 := ⟨K - 1, by omega⟩
  by_cases h1 : ea = 0
  · subst h1
    rw [if_pos (by rfl), if_pos rfl]
    by_cases h2 : eb = 0
    · subst h2
      rw [if_pos rfl]
      rw [show (!((0 : Int) == 0)) = false from rfl, r10_Rename.j0, if_neg (by decide), rwalk_f l (by omega) t.pos a (by omega) K (by omega), Option.bind_some]
      obtain ⟨k, hk, w1, w2⟩ := walk_rel0 t a
      rw [w1]
      by_cases h3 : (walkN l a 0).2 = 0
      · obtain ⟨w3, w4⟩ := w2 h3
        rw [if_pos h3, if_pos h3, w3, w4]
        by_cases h4 : k = 0
        · rw [if_pos (by omega), if_pos ((t.r1 hk).2 h4)]
        · rw [if_neg (by omega), if_neg (fun h => h4 ((t.r1 hk).1 h)), if_pos (wfL_at hw hk), rabove_f l (by omega) t.pos b (by omega) K (by omega), Option.bind_some]
          unfold ren1
          obtain ⟨e1, e2⟩ := above_rel t b
          rw [e1]
          by_cases h5 : (aboveN l b).2 = 0
          · obtain ⟨hne, p, hp, e3, e4, e5, e6⟩ := e2 h5
            obtain ⟨v, v1, v2⟩ := t.inSome hp hk
            have hget : rdOf ByteArray.empty b (wrap64 ((b.length : Int) - 1)) = b.getD (b.length - 1) ⟨#[]⟩ := by
              rw [wrap_in (by omega) (by omega), show ((b.length : Int) - 1) = ((b.length - 1 : Nat) : Int) by omega, rdOf_at _ _ _ (by omega), getD_at _ _ (by omega)]
            have hnm : isNameB (b.getD (b.length - 1) ⟨#[]⟩) = true := by
              rw [getD_at _ _ (by omega)]
              exact hnu rfl _ (List.getElem_mem _)
            have hA : aboveI l b = ⟨l[p], b.getD (b.length - 1) ⟨#[]⟩, 0⟩ := by
              have h7 : (aboveI l b).e = 0 := by rw [e1, h5]
              rw [← e4, ← e6, ← h7]
            have hin : r10_In.f K l (p : Int) (k : Int) = some v := rin_f l (by omega) (k : Int) 50 K (p : Int) v v2 (by omega) (by omega)
            rw [if_pos h5, if_pos h5, e3, hA]
            simp only
            rw [if_pos (wfL_at hw hp), v1, Option.bind_some, hin, Option.bind_some]
            cases v with
            | true => rfl
            | false =>
              rw [if_neg (by decide), hget, if_pos (by rw [wrap_in (by omega) (by omega)]; omega), if_pos (by rw [wrap_in (by omega) (by omega)]; omega), if_pos (by omega), if_pos (by omega), rkid_f l (by unfold maxLen; omega) t.pos _ _ K (by omega), Option.bind_some]
              have := ren2_eq t hl hk (by omega) hp e5 _ hnm K (by omega)
              rw [rdS _ _ hp] at this ⊢
              exact this
          · rw [if_neg h5, if_neg h5]
      · rw [if_neg h3, if_neg h3]
    · have h9 : eb = 9 := by rcases heu with h | h; exact absurd h h2; exact h
      subst h9
      rw [if_neg (by decide), show (!((9 : Int) == 0)) = true from rfl, r10_Rename.j0, if_pos rfl]
  · have h9 : ea = 9 := by rcases hes with h | h; exact absurd h h1; exact h
    subst h9
    rw [if_neg (by decide), if_neg (by decide), r10_Rename.j0, if_pos rfl]
end Go.Proofs.YthbdgahmlggpmaaDoor.Q
