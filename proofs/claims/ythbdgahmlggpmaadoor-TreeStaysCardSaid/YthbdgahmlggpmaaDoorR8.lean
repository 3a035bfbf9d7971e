/- A tree with one more: it is a tree, what was made is found, all else is found as ahead, and removed it is the tree again; in plain Lean. -/
import Derived.Test.YthbdgahmlggpmaaDoorR7a
import Derived.Test.YthbdgahmlggpmaaDoorR6
namespace Go.Proofs.YthbdgahmlggpmaaDoor.Q
open Go.RowKit Go.Proofs.YthbdgahmlggpmaaDoorW.PrintWords Go.Proofs.YthbdgahmlggpmaaDoorW.PrintLast
set_option linter.unusedVariables false
set_option linter.unusedSimpArgs false
/-- What a list with x at its place is. -/
structure Ins (l : List S34) (x : S34) (p : Nat) (o : List S34) : Prop where
  t : Tr l
  wx : wfI x = true
  hp : p < l.length
  dir : l[p].f3 = true
  par : x.f1 = l[p].f0
  new : findI l x.f0 = none
  big : 1 < x.f0
  free : kidI l x.f1 x.f2 = none
  ho : o = withN l x
  nmx : isNameB x.f2 = true
  sz : x.f4 = 0
  lev : ∃ d, d ≤ 5 ∧ Lev l p d
  room : (kidsI l x.f1).length ≠ 12
  max : l.length ≠ 40
theorem find_app {α : Type} (f : α → Bool) (a b : List α) (x : α) (h : f x = false) : (a ++ x :: b).find? f = (a ++ b).find? f := by
  rw [List.find?_append, List.find?_append, List.find?_cons_of_neg (by simp [h])]
theorem find_app_some {α : Type} (f : α → Bool) (a b : List α) (x : α) (h : f x = true) (hn : (a ++ b).find? f = none) : (a ++ x :: b).find? f = some x := by
  rw [List.find?_append] at hn ⊢
  rw [List.find?_cons_of_pos h]
  cases ha : a.find? f with
  | none => rfl
  | some y => rw [ha] at hn; cases hn
theorem Ins.findOld {l o : List S34} {x : S34} {p : Nat} (h : Ins l x p o) (id : Int) (hne : id ≠ x.f0) : findI o id = findI l id := by
  unfold findI
  rw [h.ho, withN, find_app _ _ _ _ (by rw [beq_eq_false_iff_ne]; exact fun e => hne e.symm), List.take_append_drop]
theorem Ins.findNew {l o : List S34} {x : S34} {p : Nat} (h : Ins l x p o) : findI o x.f0 = some x := by
  unfold findI
  rw [h.ho, withN]
  exact find_app_some _ _ _ _ (by simp) (by rw [List.take_append_drop]; exact h.new)
theorem Ins.someOld {l o : List S34} {x : S34} {p : Nat} (h : Ins l x p o) {id : Int} {y : S34} (hf : findI l id = some y) : id ≠ x.f0 ∧ findI o id = some y := by
  have hne : id ≠ x.f0 := by
    rintro rfl
    rw [h.new] at hf
    cases hf
  exact ⟨hne, by rw [h.findOld id hne, hf]⟩
theorem Ins.kidOld {l o : List S34} {x : S34} {p : Nat} (h : Ins l x p o) (d : Int) (nm : ByteArray) (hne : ¬ (d = x.f1 ∧ nm.toList = x.f2.toList)) : kidI o d nm = kidI l d nm := by
  unfold kidI
  rw [h.ho, withN, find_app _ _ _ _ ?_, List.take_append_drop]
  rw [Bool.and_eq_false_iff]
  by_cases e : d = x.f1
  · right
    rw [beq_eq_false_iff_ne]
    exact fun e2 => hne ⟨e, e2.symm⟩
  · left
    unfold isKid
    rw [beq_eq_false_iff_ne.2 (fun e2 => e e2.symm), Bool.false_and]
theorem Ins.kidSome {l o : List S34} {x : S34} {p : Nat} (h : Ins l x p o) {d : Int} {nm : ByteArray} {y : S34} (hk : kidI l d nm = some y) : kidI o d nm = some y := by
  rw [h.kidOld d nm, hk]
  rintro ⟨e1, e2⟩
  rw [e1, kidI_congr l _ e2, h.free] at hk
  cases hk
theorem Ins.kidNew {l o : List S34} {x : S34} {p : Nat} (h : Ins l x p o) {nm : ByteArray} (hn : nm.toList = x.f2.toList) : kidI o x.f1 nm = some x := by
  rw [kidI_congr o _ hn]
  unfold kidI
  rw [h.ho, withN]
  have := h.big
  refine find_app_some _ _ _ _ ?_ (by rw [List.take_append_drop]; exact h.free)
  unfold isKid
  rw [beq_eq_false_iff_ne.2 (show x.f0 ≠ 1 by omega)]
  simp
theorem Ins.mem {l o : List S34} {x : S34} {p : Nat} (h : Ins l x p o) {y : S34} (hy : y ∈ o) : y = x ∨ y ∈ l := by
  rw [h.ho, withN, List.mem_append, List.mem_cons] at hy
  rcases hy with hy | rfl | hy
  · exact .inr (List.mem_of_mem_take hy)
  · exact .inl rfl
  · exact .inr (List.mem_of_mem_drop hy)
theorem Ins.len {l o : List S34} {x : S34} {p : Nat} (h : Ins l x p o) : o.length = l.length + 1 := by
  rw [h.ho, withN]
  simp only [List.length_append, List.length_cons, List.length_take, List.length_drop]
  have : plc l x.f0 ≤ l.length := by
    unfold plc
    exact (List.takeWhile_prefix _).length_le
  omega
theorem plc_le (l : List S34) (id : Int) : plc l id ≤ l.length := by
  unfold plc
  exact (List.takeWhile_prefix _).length_le
theorem plc_lo (l : List S34) (id : Int) {j : Nat} (hj : j < plc l id) : ∃ h : j < l.length, l[j].f0 < id := by
  have hl : j < l.length := Nat.lt_of_lt_of_le hj (plc_le l id)
  refine ⟨hl, ?_⟩
  unfold plc at hj
  have h1 : (l.takeWhile (fun y => decide (y.f0 < id)))[j] = l[j] := by
    have := (List.takeWhile_prefix (l := l) (fun y => decide (y.f0 < id))).getElem hj
    exact this
  have h2 := List.all_eq_true.1 (List.all_takeWhile (l := l) (p := fun y => decide (y.f0 < id))) _ (List.getElem_mem hj)
  rw [h1] at h2
  simpa using h2
theorem plc_hi (l : List S34) (id : Int) (h : plc l id < l.length) : ¬ l[plc l id].f0 < id := by
  induction l with
  | nil => simp at h
  | cons y t ih =>
    by_cases hy : y.f0 < id
    · have e : plc (y :: t) id = plc t id + 1 := by unfold plc; rw [List.takeWhile_cons_of_pos (by simpa using hy), List.length_cons]
      simp only [e, List.getElem_cons_succ]
      exact ih (by rw [e] at h; simpa using h)
    · have e : plc (y :: t) id = 0 := by unfold plc; rw [List.takeWhile_cons_of_neg (by simpa using hy)]; rfl
      simp only [e, List.getElem_cons_zero]
      exact hy
theorem Ins.ne {l o : List S34} {x : S34} {p : Nat} (h : Ins l x p o) {y : S34} (hy : y ∈ l) : y.f0 ≠ x.f0 := by
  have := h.new
  unfold findI at this
  rw [List.find?_eq_none] at this
  intro e
  exact this y hy (by simp [e])
theorem Ins.pos {l o : List S34} {x : S34} {p : Nat} (h : Ins l x p o) : 0 < plc l x.f0 := by
  rcases Nat.eq_zero_or_pos (plc l x.f0) with h0 | h0
  · exfalso
    have := plc_hi l x.f0 (by rw [h0]; exact h.t.pos)
    simp only [h0] at this
    have h1 := h.t.r0.1
    have h2 := h.big
    omega
  · exact h0
theorem ins_get (l : List S34) (x : S34) (i : Nat) (hi : i ≤ l.length) (j : Nat) : (l.take i ++ x :: l.drop i)[j]? = if j < i then l[j]? else if j = i then some x else l[j - 1]? := by
  rw [List.getElem?_append, List.length_take, Nat.min_eq_left hi]
  by_cases h1 : j < i
  · rw [if_pos h1, if_pos h1, List.getElem?_take, if_pos h1]
  · rw [if_neg h1, if_neg h1]
    by_cases h2 : j = i
    · subst h2
      rw [if_pos rfl, Nat.sub_self, List.getElem?_cons_zero]
    · rw [if_neg h2]
      obtain ⟨m, hm⟩ : ∃ m, j - i = m + 1 := ⟨j - i - 1, by omega⟩
      rw [hm, List.getElem?_cons_succ, List.getElem?_drop]
      congr 1
      omega
theorem Ins.get {l o : List S34} {x : S34} {p : Nat} (h : Ins l x p o) {j : Nat} (hj : j < o.length) : (j < plc l x.f0 ∧ ∃ h1 : j < l.length, o[j] = l[j]) ∨ (j = plc l x.f0 ∧ o[j] = x) ∨ (plc l x.f0 < j ∧ ∃ h1 : j - 1 < l.length, o[j] = l[j - 1]) := by
  have hlen := h.len
  have hle := plc_le l x.f0
  have hg := ins_get l x (plc l x.f0) hle j
  have e : o[j]? = (l.take (plc l x.f0) ++ x :: l.drop (plc l x.f0))[j]? := by rw [h.ho]; rfl
  rw [← e, List.getElem?_eq_getElem hj] at hg
  by_cases h1 : j < plc l x.f0
  · rw [if_pos h1, List.getElem?_eq_getElem (show j < l.length by omega)] at hg
    exact .inl ⟨h1, by omega, Option.some.inj hg⟩
  · rw [if_neg h1] at hg
    by_cases h2 : j = plc l x.f0
    · rw [if_pos h2] at hg
      exact .inr (.inl ⟨h2, Option.some.inj hg⟩)
    · rw [if_neg h2, List.getElem?_eq_getElem (show j - 1 < l.length by omega)] at hg
      exact .inr (.inr ⟨by omega, by omega, Option.some.inj hg⟩)
theorem Ins.up {l o : List S34} {x : S34} {p : Nat} (h : Ins l x p o) : Up o := by
  intro a b hab hb
  have hle := plc_le l x.f0
  have lo : ∀ (j : Nat) (hj : j < l.length), j < plc l x.f0 → l[j].f0 < x.f0 := fun j hj h1 => (plc_lo l x.f0 h1).2
  have hi : ∀ (j : Nat) (hj : j < l.length), plc l x.f0 ≤ j → x.f0 < l[j].f0 := by
    intro j hj h1
    have h2 := plc_hi l x.f0 (by omega)
    have h3 := h.ne (List.getElem_mem (show plc l x.f0 < l.length by omega))
    rcases Nat.lt_or_ge (plc l x.f0) j with h4 | h4
    · have := h.t.up _ _ h4 hj
      omega
    · have e : plc l x.f0 = j := by omega
      simp only [e] at h2 h3
      omega
  rcases h.get (show a < o.length by omega) with ⟨a1, a2, a3⟩ | ⟨a1, a3⟩ | ⟨a1, a2, a3⟩ <;> rcases h.get hb with ⟨b1, b2, b3⟩ | ⟨b1, b3⟩ | ⟨b1, b2, b3⟩ <;> rw [a3, b3]
  · exact h.t.up a b hab b2
  · exact lo a a2 a1
  · exact h.t.up a (b - 1) (by omega) b2
  · omega
  · omega
  · exact hi (b - 1) b2 (by omega)
  · omega
  · omega
  · exact h.t.up (a - 1) (b - 1) (by omega) b2
theorem Ins.zero {l o : List S34} {x : S34} {p : Nat} (h : Ins l x p o) : ∃ h0 : 0 < o.length, o[0] = l[0]'h.t.pos := by
  have hlen := h.len
  have hp := h.pos
  refine ⟨by omega, ?_⟩
  rcases h.get (show 0 < o.length by omega) with ⟨a1, a2, a3⟩ | ⟨a1, a3⟩ | ⟨a1, a2, a3⟩
  · exact a3
  · omega
  · omega
theorem Ins.old {l o : List S34} {x : S34} {p : Nat} (h : Ins l x p o) {j : Nat} (hj : j + 1 < o.length) : o[j + 1] = x ∨ ∃ m, ∃ hm : m + 1 < l.length, o[j + 1] = l[m + 1] := by
  have hp := h.pos
  rcases h.get hj with ⟨a1, a2, a3⟩ | ⟨a1, a3⟩ | ⟨a1, a2, a3⟩
  · exact .inr ⟨j, a2, a3⟩
  · exact .inl a3
  · obtain ⟨m, rfl⟩ : ∃ m, j = m + 1 := ⟨j - 1, by omega⟩
    exact .inr ⟨m, a2, a3⟩
theorem Ins.depthOld {l o : List S34} {x : S34} {p : Nat} (h : Ins l x p o) : ∀ (m : Nat) (n id : Int), 0 ≤ depthI l m n id → depthI o m n id = depthI l m n id := by
  intro m
  induction m with
  | zero => intro n id _; rfl
  | succ m ih =>
    intro n id h1
    rw [depthI] at h1
    rw [depthI, depthI]
    by_cases h2 : id = 1
    · rw [if_pos h2, if_pos h2]
    · rw [if_neg h2] at h1
      rw [if_neg h2, if_neg h2]
      cases hf : findI l id with
      | none => rw [hf] at h1; simp at h1
      | some y =>
        rw [hf] at h1
        rw [(h.someOld hf).2]
        exact ih (n + 1) y.f1 h1
theorem lev_depth {l : List S34} (t : Tr l) {i d : Nat} (h : Lev l i d) : ∀ (hi : i < l.length) (m : Nat) (n : Int), d < m → depthI l m n l[i].f0 = n + (d : Int) := by
  induction h with
  | zero =>
    intro hi m n hm
    obtain ⟨m, rfl⟩ : ∃ q, m = q + 1 := ⟨m - 1, by omega⟩
    rw [t.r0.1, depthI, if_pos rfl]
    omega
  | step i q d hi' h0 hq h ih =>
    intro hi m n hm
    obtain ⟨m, rfl⟩ : ∃ q, m = q + 1 := ⟨m - 1, by omega⟩
    obtain ⟨p, hp, h3, h4, h5, h6⟩ := t.par hi (by omega)
    have : p = q := by omega
    subst this
    rw [depthI, if_neg (fun h1 => h0 ((t.r1 hi).1 h1)), (t.up.find hi).1]
    simp only
    rw [← h5, ih hp m (n + 1) (by omega)]
    omega
theorem walk_lev {l : List S34} (t : Tr l) : ∀ (ns : List ByteArray) (i : Nat) (hi : i < l.length) (e : Nat), Lev l i e → ∀ j : Nat, walkN l ns (i : Int) = ((j : Int), 0) → Lev l j (e + ns.length)
  | [], i, hi, e, h, j, hw => by
    rw [walkN] at hw
    have := ((Prod.mk.injEq ..).mp hw).1
    have : i = j := by omega
    subst this
    exact h
  | n :: ns, i, hi, e, h, j, hw => by
    rw [walkN, rdS _ _ hi] at hw
    by_cases h3 : l[i].f3 = true
    · rw [if_pos h3] at hw
      rcases kid_cases t.pos t.r0.1 t.up l[i].f0 n with ⟨h1, h2⟩ | ⟨q, hq, h1, h2, h4, h5, h6⟩
      · rw [h1, if_pos (by omega)] at hw
        have := (Prod.mk.injEq ..).mp hw
        omega
      · rw [h2, if_neg (by omega)] at hw
        have hg : getN l l[q].f1 = (i : Int) := by rw [h5]; exact (t.up.find hi).2
        have := walk_lev t ns q hq (e + 1) (Lev.step q i e hq (by omega) hg h) j hw
        rw [List.length_cons, show e + (ns.length + 1) = e + 1 + ns.length by omega]
        exact this
    · rw [if_neg h3] at hw
      have := (Prod.mk.injEq ..).mp hw
      omega
theorem Ins.kids {l o : List S34} {x : S34} {p : Nat} (h : Ins l x p o) (d : Int) : (kidsI o d).length = (kidsI l d).length + (if isKid d x = true then 1 else 0) := by
  unfold kidsI
  have e : (l.filter (isKid d)).length = ((l.take (plc l x.f0)).filter (isKid d)).length + ((l.drop (plc l x.f0)).filter (isKid d)).length := by
    rw [← List.length_append, ← List.filter_append, List.take_append_drop]
  rw [e, h.ho, withN, List.filter_append, List.length_append, List.filter_cons]
  split
  · rw [List.length_cons]
    omega
  · omega
theorem Tr.kidsI12 {l : List S34} (t : Tr l) (d : Int) : (kidsI l d).length ≤ 12 := by
  rw [filter_len_eq t.pos t.r0.1 t.up]
  exact t.kids_any d
theorem Ins.right {l o : List S34} {x : S34} {p : Nat} (h : Ins l x p o) : rightB o = true := by
  have hlen := h.len
  have hbig := h.big
  obtain ⟨h0, hz⟩ := h.zero
  have hpo := h.hp
  refine right_of h0 (by have := h.t.le; have := h.max; omega) ?_ ?_ ?_
  · have : rd_T34 o 0 = rd_T34 l 0 := by
      rw [show (0 : Int) = ((0 : Nat) : Int) from rfl, rdS _ _ h0, rdS _ _ h.t.pos, hz]
    rw [this]
    exact h.t.root
  · intro j hj
    have hu := h.up j (j + 1) (by omega) hj
    unfold firstB
    rw [rdS _ _ hj, rdS _ _ (show j < o.length by omega), decide_eq_false (by omega)]
    rcases h.old hj with e | ⟨m, hm, e⟩
    · rw [e, h.nmx, h.sz]
      simp
    · rw [e]
      have hf := h.t.first m hm
      unfold firstB at hf
      rw [rdS _ _ hm] at hf
      simp only [Bool.and_eq_true] at hf ⊢
      exact ⟨⟨⟨rfl, hf.1.1.2⟩, hf.1.2⟩, hf.2⟩
  · intro j hj
    have par : ∀ (q : Nat) (hq : q < l.length) (d : Int), l[q].f0 = d → l[q].f3 = true → ∃ p, ∃ hp : p < o.length, getN o d = (p : Int) ∧ findI o d = some o[p] ∧ o[p].f0 = d ∧ o[p].f3 = true := by
      intro q hq d h1 h2
      have hf := (h.t.up.find hq).1
      rw [h1] at hf
      have hf2 := (h.someOld hf).2
      rcases getN_cases o d with ⟨g1, g2⟩ | ⟨p', hp', g1, g2, g3⟩
      · rw [g2] at hf2
        cases hf2
      · refine ⟨p', hp', g1, g2, g3, ?_⟩
        rw [g2] at hf2
        rw [Option.some.inj hf2]
        exact h2
    rw [second_iff]
    rcases h.old hj with e | ⟨m, hm, e⟩
    · rw [e]
      refine ⟨par p hpo x.f1 h.par.symm h.dir, ?_, ?_, ?_⟩
      · rw [h.kidNew rfl]
        rfl
      · rw [depthI, if_neg (by omega), h.findNew]
        simp only
        obtain ⟨d, hd, hlev⟩ := h.lev
        have h1 := lev_depth h.t hlev hpo 6 (0 + 1) (by omega)
        rw [h.par, h.depthOld 6 (0 + 1) _ (by rw [h1]; omega), h1]
        omega
      · rw [h.kids]
        have h1 := h.t.kidsI12 x.f1
        have h2 := h.room
        split <;> omega
    · have hs := (second_iff l l[m + 1]).1 (h.t.second m hm)
      obtain ⟨⟨q, hq, g1, g2, g3, g4⟩, s2, s3, s4⟩ := hs
      rw [e]
      refine ⟨par q hq _ g3 g4, ?_, ?_, ?_⟩
      · cases hk : kidI l l[m + 1].f1 l[m + 1].f2 with
        | none =>
          rw [hk] at s2
          have h1 := h.t.up 0 (m + 1) (by omega) hm
          have h2 := h.t.r0.1
          have : (gI none).f0 = 0 := rfl
          omega
        | some y =>
          rw [hk] at s2
          rw [h.kidSome hk]
          exact s2
      · rw [h.depthOld 7 0 _ s3]
        exact s3
      · rw [h.kids]
        by_cases hk : isKid l[m + 1].f1 x = true
        · rw [if_pos hk]
          unfold isKid at hk
          simp only [Bool.and_eq_true, beq_iff_eq] at hk
          rw [← hk.1]
          have h1 := h.t.kidsI12 x.f1
          have h2 := h.room
          omega
        · rw [if_neg hk]
          exact s4
end Go.Proofs.YthbdgahmlggpmaaDoor.Q
