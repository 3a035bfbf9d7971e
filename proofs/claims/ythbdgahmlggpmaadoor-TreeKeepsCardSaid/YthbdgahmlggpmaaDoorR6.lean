/- Rename and back, in plain Lean. -/
import Derived.Test.YthbdgahmlggpmaaDoorR5
namespace Go.Proofs.YthbdgahmlggpmaaDoor.Q
open Go.RowKit Go.Proofs.YthbdgahmlggpmaaDoorW.PrintWords Go.Proofs.YthbdgahmlggpmaaDoorW.PrintLast
set_option linter.unusedVariables false
set_option linter.unusedSimpArgs false
theorem bytes_inj {a b : ByteArray} (h : a.toList = b.toList) : a = b := by
  rw [ByteArray.toList_eq, ByteArray.toList_eq] at h
  exact ByteArray.ext (Array.ext' h)
theorem walk_append (l : List S34) (ms : List ByteArray) : ∀ (ns : List ByteArray) (i : Int), walkN l (ns ++ ms) i = if (walkN l ns i).2 = 0 then walkN l ms (walkN l ns i).1 else walkN l ns i
  | [], i => by rw [List.nil_append, walkN, if_pos rfl]
  | n :: ns, i => by
    rw [List.cons_append, walkN, walkN]
    split
    · split
      · rw [if_neg (by decide)]
      · exact walk_append l ms ns _
    · rw [if_neg (by decide)]
theorem init_last (a : List ByteArray) (h : a.length ≠ 0) : a = a.take (a.length - 1) ++ [a.getD (a.length - 1) ⟨#[]⟩] := by
  rw [getD_at _ _ (by omega)]
  have := List.take_append_drop (a.length - 1) a
  rw [List.drop_eq_getElem_cons (by omega), List.drop_eq_nil_of_le (by omega)] at this
  exact this.symm
/-- A walk's last step. -/
theorem walk_last {l : List S34} {a : List ByteArray} {k : Nat} (h : walkN l a 0 = ((k : Int), 0)) (hk : k ≠ 0) (hp : 0 < l.length) : a.length ≠ 0 ∧ ∃ q, ∃ hq : q < l.length, walkN l (a.take (a.length - 1)) 0 = ((q : Int), 0) ∧ l[q].f3 = true ∧ kidN l l[q].f0 (a.getD (a.length - 1) ⟨#[]⟩) = (k : Int) := by
  have hne : a.length ≠ 0 := by
    intro h0
    rw [List.length_eq_zero_iff.1 h0, walkN] at h
    have := (Prod.mk.injEq ..).mp h
    omega
  refine ⟨hne, ?_⟩
  rw [init_last a hne, walk_append] at h
  have hr := walkN_range l hp (a.take (a.length - 1)) 0 (by omega) (by omega)
  by_cases h2 : (walkN l (a.take (a.length - 1)) 0).2 = 0
  · rw [if_pos h2] at h
    obtain ⟨q, hq⟩ : ∃ q : Nat, (walkN l (a.take (a.length - 1)) 0).1 = (q : Int) := ⟨_, (Int.toNat_of_nonneg hr.1).symm⟩
    rw [hq] at h hr
    have hq2 : q < l.length := by omega
    refine ⟨q, hq2, Prod.ext hq h2, ?_⟩
    rw [walkN, rdS _ _ hq2] at h
    by_cases h3 : l[q].f3 = true
    · rw [if_pos h3] at h
      refine ⟨h3, ?_⟩
      by_cases h4 : kidN l l[q].f0 (a.getD (a.length - 1) ⟨#[]⟩) < 0
      · rw [if_pos h4] at h
        have := (Prod.mk.injEq ..).mp h
        omega
      · rw [if_neg h4, walkN] at h
        exact ((Prod.mk.injEq ..).mp h).1
    · rw [if_neg h3] at h
      have := (Prod.mk.injEq ..).mp h
      omega
  · rw [if_neg h2] at h
    rw [h] at h2
    exact absurd rfl h2
theorem above_of_walk {l : List S34} {a : List ByteArray} {q : Nat} (hne : a.length ≠ 0) (hq : q < l.length) (h : walkN l (a.take (a.length - 1)) 0 = ((q : Int), 0)) (hd : l[q].f3 = true) : aboveN l a = ((q : Int), 0) := by
  unfold aboveN
  rw [if_neg hne, h]
  simp only [if_true]
  rw [rdS _ _ hq, if_pos hd]
theorem walk_of_above {l : List S34} {a : List ByteArray} {q : Nat} (h : aboveN l a = ((q : Int), 0)) (hp : 0 < l.length) : a.length ≠ 0 ∧ ∃ hq : q < l.length, walkN l (a.take (a.length - 1)) 0 = ((q : Int), 0) ∧ l[q].f3 = true := by
  unfold aboveN at h
  by_cases h0 : a.length = 0
  · rw [if_pos h0] at h
    have := (Prod.mk.injEq ..).mp h
    omega
  · rw [if_neg h0] at h
    have hr := walkN_range l hp (a.take (a.length - 1)) 0 (by omega) (by omega)
    by_cases h2 : (walkN l (a.take (a.length - 1)) 0).2 = 0
    · rw [if_pos h2] at h
      by_cases h3 : (rd_T34 l (walkN l (a.take (a.length - 1)) 0).1).f3 = true
      · rw [if_pos h3] at h
        have h4 := ((Prod.mk.injEq ..).mp h).1
        rw [h4] at hr h3
        have hq : q < l.length := by omega
        rw [rdS _ _ hq] at h3
        exact ⟨h0, hq, Prod.ext h4 h2, h3⟩
      · rw [if_neg h3] at h
        have := (Prod.mk.injEq ..).mp h
        omega
    · rw [if_neg h2] at h
      exact absurd ((Prod.mk.injEq ..).mp h).2 h2
theorem kidN_key {l : List S34} (t : Tr l) {d : Int} {nm : ByteArray} {k : Nat} (h : kidN l d nm = (k : Int)) : ∃ hk : k < l.length, 0 < k ∧ l[k].f1 = d ∧ l[k].f2.toList = nm.toList := by
  rcases kid_cases t.pos t.r0.1 t.up d nm with ⟨h1, h2⟩ | ⟨q, hq, h1, h2, h3, h4, h5⟩
  · omega
  · have : q = k := by omega
    subst this
    exact ⟨hq, h1, h4, h5⟩
/-! ### above one another -/
inductive Anc (l : List S34) (k : Nat) : Nat → Prop
  | refl : Anc l k k
  | up (i q : Nat) (hi : i < l.length) (h0 : i ≠ 0) (hq : getN l l[i].f1 = (q : Int)) (h : Anc l k q) : Anc l k i
inductive Lev (l : List S34) : Nat → Nat → Prop
  | zero : Lev l 0 0
  | step (i q d : Nat) (hi : i < l.length) (h0 : i ≠ 0) (hq : getN l l[i].f1 = (q : Int)) (h : Lev l q d) : Lev l i (d + 1)
theorem Lev.uniq {l : List S34} {i d : Nat} (h : Lev l i d) : ∀ {d' : Nat}, Lev l i d' → d = d' := by
  induction h with
  | zero =>
    intro d' h'
    cases h' with
    | zero => rfl
    | step _ q d hi h0 hq h => exact absurd rfl h0
  | step i q d hi h0 hq h ih =>
    intro d' h'
    cases h' with
    | zero => exact absurd rfl h0
    | step _ q' d'' hi' h0' hq' h'' =>
      have : q' = q := by omega
      subst this
      rw [ih h'']
theorem Anc.lev {l : List S34} {k i : Nat} (h : Anc l k i) : ∀ {d d' : Nat}, Lev l i d → Lev l k d' → d' ≤ d := by
  induction h with
  | refl =>
    intro d d' h1 h2
    rw [h1.uniq h2]
    exact Nat.le_refl _
  | up i q hi h0 hq h ih =>
    intro d d' h1 h2
    cases h1 with
    | zero => exact absurd rfl h0
    | step _ q' d'' hi' h0' hq' h'' =>
      have : q' = q := by omega
      subst this
      have := ih h'' h2
      omega
theorem lev_of {l : List S34} (t : Tr l) : ∀ (m : Nat) (n : Int) (i : Nat) (hi : i < l.length), 0 ≤ n → 0 ≤ depthI l m n l[i].f0 → ∃ d, Lev l i d := by
  intro m
  induction m with
  | zero => intro n i hi hn h; simp [depthI] at h
  | succ m ih =>
    intro n i hi hn h
    rw [depthI] at h
    by_cases h0 : i = 0
    · subst h0
      exact ⟨0, .zero⟩
    · rw [if_neg (fun h1 => h0 ((t.r1 hi).1 h1)), (t.up.find hi).1] at h
      obtain ⟨p, hp, h3, h4, h5, h6⟩ := t.par hi (by omega)
      simp only at h
      rw [← h5] at h
      obtain ⟨d, hd⟩ := ih (n + 1) p hp (by omega) h
      exact ⟨d + 1, .step i p d hi h0 h3 hd⟩
theorem Tr.lev {l : List S34} (t : Tr l) {i : Nat} (hi : i < l.length) : ∃ d, Lev l i d := lev_of t 7 0 i hi (by omega) (t.depth hi)
theorem not_anc {l : List S34} {k : Nat} : ∀ (m i : Nat), i < l.length → inN l (k : Int) m (i : Int) = some false → ¬ Anc l k i := by
  intro m
  induction m with
  | zero => intro i hi h; simp [inN] at h
  | succ m ih =>
    intro i hi h ha
    rw [inN] at h
    by_cases h1 : (i : Int) = (k : Int)
    · rw [if_pos h1] at h
      cases h
    · rw [if_neg h1] at h
      cases ha with
      | refl => exact h1 rfl
      | up _ q hi' h0 hq ha' =>
        rw [if_neg (show ¬ (i : Int) = 0 by omega), if_pos (show 0 ≤ (i : Int) by omega), rdS _ _ hi, hq] at h
        have hr := (getN_range l l[i].f1).2
        exact ih q (by omega) h ha'
theorem anc_of {l : List S34} {k : Nat} : ∀ (m i : Nat), i < l.length → inN l (k : Int) m (i : Int) = some true → Anc l k i := by
  intro m
  induction m with
  | zero => intro i hi h; simp [inN] at h
  | succ m ih =>
    intro i hi h
    rw [inN] at h
    by_cases h1 : (i : Int) = (k : Int)
    · have : i = k := by omega
      subst this
      exact .refl
    · rw [if_neg h1] at h
      by_cases h2 : (i : Int) = 0
      · rw [if_pos h2] at h
        cases h
      · rw [if_neg h2, if_pos (show 0 ≤ (i : Int) by omega), rdS _ _ hi] at h
        rcases getN_cases l l[i].f1 with ⟨h3, h4⟩ | ⟨q, hq, h3, h4, h5⟩
        · rw [h3] at h
          cases m with
          | zero => simp [inN] at h
          | succ m => rw [inN, if_neg (by omega), if_neg (by omega), if_neg (by omega)] at h; cases h
        · rw [h3] at h
          exact .up i q hi (by omega) h3 (ih q hq h)
/-- A walk that doesn't end below one walks the same way in a list in which that one is elsewhere. -/
theorem walk_set {l o : List S34} (t : Tr l) {k : Nat} (hlen : o.length = l.length) (hr : ∀ h : 0 < o.length, o[0].f0 = 1) (hu : Up o) (hkeys : Keys o)
    (hf0 : ∀ (i : Nat) (hi : i < l.length), (o[i]'(by omega)).f0 = l[i].f0) (hf3 : ∀ (i : Nat) (hi : i < l.length), (o[i]'(by omega)).f3 = l[i].f3)
    (hne : ∀ (i : Nat) (hi : i < l.length), i ≠ k → (o[i]'(by omega)) = l[i]) : ∀ (ns : List ByteArray) (i : Nat), i < l.length → ∀ j : Nat, walkN l ns (i : Int) = ((j : Int), 0) → ¬ Anc l k j →
      walkN o ns (i : Int) = ((j : Int), 0) ∧ ¬ Anc l k i
  | [], i, hi, j, h, hj => by
    rw [walkN] at h ⊢
    have := ((Prod.mk.injEq ..).mp h).1
    have : i = j := by omega
    subst this
    exact ⟨rfl, hj⟩
  | n :: ns, i, hi, j, h, hj => by
    rw [walkN, rdS _ _ hi] at h
    rw [walkN, rdS _ _ (show i < o.length by omega), hf3 i hi, hf0 i hi]
    by_cases h3 : l[i].f3 = true
    · rw [if_pos h3] at h ⊢
      rcases kid_cases t.pos t.r0.1 t.up l[i].f0 n with ⟨h1, h2⟩ | ⟨q, hq, h1, h2, h4, h5, h6⟩
      · rw [h1, if_pos (by omega)] at h
        have := (Prod.mk.injEq ..).mp h
        omega
      · rw [h2, if_neg (by omega)] at h
        obtain ⟨h7, h8⟩ := walk_set t hlen hr hu hkeys hf0 hf3 hne ns q hq j h hj
        have hqk : q ≠ k := by
          rintro rfl
          exact h8 .refl
        have hqo : q < o.length := by omega
        have e := hne q hq hqk
        have := (kid_at (show 0 < o.length by omega) (hr (by omega)) hu hkeys hqo h1 (d := l[i].f0) (nm := n) (by rw [e, h5]) (by rw [e, h6])).2
        rw [this, if_neg (by omega)]
        refine ⟨h7, fun ha => h8 ?_⟩
        have hg : getN l l[q].f1 = (i : Int) := by rw [h5]; exact (t.up.find hi).2
        exact .up q i hq (by omega) hg ha
    · rw [if_neg h3] at h
      have := (Prod.mk.injEq ..).mp h
      omega
theorem ren_go {l : List S34} (hw : wfL l = true) (hr : rightB l = true) {s u : ByteArray} (hs : s.size ≤ 1000) (hu : u.size ≤ 1000) {a b : List ByteArray} (ha : splitF s = (a, 0)) (hb : splitF u = (b, 0)) {k : Nat} (hk : k < l.length) (hk0 : k ≠ 0) (h1 : walkN l a 0 = ((k : Int), 0)) {p : Nat} (hp : p < l.length) (h2 : aboveN l b = ((p : Int), 0)) {v : Bool} (h3 : inN l (k : Int) 50 (p : Int) = some v) :
    tree_Rename.f l s u = ren2 l l[k] ⟨l[p], b.getD (b.length - 1) ⟨#[]⟩, 0⟩ v := by
  have t := tr_of hw hr
  unfold tree_Rename.f ren0 beginF
  rw [if_pos ⟨hw, by omega, by omega⟩, if_pos hr, ha, hb]
  simp only [if_true]
  obtain ⟨q, hq, w1, w2⟩ := walk_rel0 t a
  rw [h1] at w1 w2
  obtain ⟨w3, w4⟩ := w2 rfl
  have : q = k := by simp only at w3; omega
  subst this
  rw [w1, w4]
  simp only [if_true]
  rw [if_neg (fun h => hk0 ((t.r1 hk).1 h)), if_pos (wfL_at hw hk)]
  unfold ren1
  obtain ⟨e1, e2⟩ := above_rel t b
  rw [h2] at e1 e2
  obtain ⟨hne, p', hp', e3, e4, e5, e6⟩ := e2 rfl
  have : p' = p := by simp only at e3; omega
  subst this
  have h7 : (aboveI l b).e = 0 := e1
  have hA : aboveI l b = ⟨l[p'], b.getD (b.length - 1) ⟨#[]⟩, 0⟩ := by rw [← e4, ← e6, ← h7]
  rw [hA]
  simp only [if_true]
  have hin : inUp l l[q].f0 50 l[p'].f0 = some v := by rw [in_rel t hq 50 p' hp]; exact h3
  rw [if_pos (wfL_at hw hp), hin, Option.bind_some]
theorem ren2_val {l : List S34} (t : Tr l) {k p : Nat} (hk : k < l.length) (hp : p < l.length) (nm : ByteArray) :
    ren2 l l[k] ⟨l[p], nm, 0⟩ false = (if (kidI l l[p].f0 nm).isSome = true then (if (gI (kidI l l[p].f0 nm)).f0 = l[k].f0 then some (l, 0) else some ([], 8)) else if l[p].f0 ≠ l[k].f1 ∧ (kidsI l l[p].f0).length = 12 then some ([], 16) else if rightB (l.set k (moved l[k] l[p] nm)) = true then some (l.set k (moved l[k] l[p] nm), 0) else some ([], 9)) := by
  have hpk : putI l (moved l[k] l[p] nm) = l.set k (moved l[k] l[p] nm) := put_known t.up hk _ rfl
  have hw : wfL (l.set k (moved l[k] l[p] nm)) = true := wfL_set t.wf (wfI_moved (wfL_at t.wf hk) (wfL_at t.wf hp))
  unfold ren2
  rw [if_neg Bool.false_ne_true]
  simp only [hpk]
  rw [if_pos hw]
/-- What a Rename that answers has met. -/
theorem ren_met {l : List S34} (hw : wfL l = true) (hl : l.length ≤ 100) {s u : ByteArray} (hs : s.size ≤ 1000) (hu : u.size ≤ 1000) : ∃ r, tree_Rename.f l s u = some r ∧ ((r.2 ≠ 0 ∧ r.1 = []) ∨
    (r.2 = 0 ∧ rightB l = true ∧ ∃ a b, splitF s = (a, 0) ∧ splitF u = (b, 0) ∧ ∃ k, ∃ hk : k < l.length, k ≠ 0 ∧ walkN l a 0 = ((k : Int), 0) ∧ ∃ p, ∃ hp : p < l.length, aboveN l b = ((p : Int), 0) ∧ inN l (k : Int) 50 (p : Int) = some false ∧
      ((kidN l l[p].f0 (b.getD (b.length - 1) ⟨#[]⟩) = (k : Int) ∧ r.1 = l) ∨
       (kidN l l[p].f0 (b.getD (b.length - 1) ⟨#[]⟩) = -1 ∧ r.1 = l.set k (moved l[k] l[p] (b.getD (b.length - 1) ⟨#[]⟩)) ∧ rightB r.1 = true)))) := by
  cases hr : rightB l with
  | false =>
    refine ⟨([], 1), ?_, .inl ⟨by simp, rfl⟩⟩
    unfold tree_Rename.f ren0 beginF
    rw [if_pos ⟨hw, by omega, by omega⟩, hr]
    rfl
  | true =>
  have t := tr_of hw hr
  have hes := split_err s
  have heu := split_err u
  obtain ⟨a, ea, hsa⟩ : ∃ a ea, splitF s = (a, ea) := ⟨_, _, rfl⟩
  obtain ⟨b, eb, hsb⟩ : ∃ b eb, splitF u = (b, eb) := ⟨_, _, rfl⟩
  rw [hsa] at hes
  rw [hsb] at heu
  simp only at hes heu
  have F : tree_Rename.f l s u = ren0 l (a, ea) (b, eb) := by
    unfold tree_Rename.f beginF
    rw [if_pos ⟨hw, by omega, by omega⟩, if_pos hr, hsa, hsb]
  by_cases h1 : ea = 0
  rotate_left
  · refine ⟨([], ea), ?_, .inl ⟨h1, rfl⟩⟩
    rw [F]
    unfold ren0
    rw [if_neg h1]
  subst h1
  by_cases h2 : eb = 0
  rotate_left
  · refine ⟨([], eb), ?_, .inl ⟨h2, rfl⟩⟩
    rw [F]
    unfold ren0
    rw [if_pos rfl, if_neg h2]
  subst h2
  obtain ⟨k, hk, w1, w2⟩ := walk_rel0 t a
  by_cases h3 : (walkN l a 0).2 = 0
  rotate_left
  · refine ⟨([], (walkN l a 0).2), ?_, .inl ⟨h3, rfl⟩⟩
    rw [F]
    unfold ren0
    rw [if_pos rfl, if_pos rfl, w1, if_neg h3]
  obtain ⟨w3, w4⟩ := w2 h3
  have W : walkN l a 0 = ((k : Int), 0) := Prod.ext w3 h3
  by_cases h4 : k = 0
  · refine ⟨([], 21), ?_, .inl ⟨by simp, rfl⟩⟩
    rw [F]
    unfold ren0
    rw [if_pos rfl, if_pos rfl, w1, if_pos h3, w4, if_pos ((t.r1 hk).2 h4)]
  obtain ⟨e1, e2⟩ := above_rel t b
  by_cases h5 : (aboveN l b).2 = 0
  rotate_left
  · refine ⟨([], (aboveN l b).2), ?_, .inl ⟨h5, rfl⟩⟩
    rw [F]
    unfold ren0
    rw [if_pos rfl, if_pos rfl, w1, if_pos h3, w4, if_neg (fun h => h4 ((t.r1 hk).1 h)), if_pos (wfL_at hw hk)]
    unfold ren1
    rw [e1, if_neg h5]
  obtain ⟨hne, p, hp, e3, e4, e5, e6⟩ := e2 h5
  have A : aboveN l b = ((p : Int), 0) := Prod.ext e3 h5
  obtain ⟨v, v1, v2⟩ := t.inSome hp hk
  rw [ren_go hw hr hs hu hsa hsb hk h4 W hp A v2]
  cases v with
  | true => exact ⟨([], 1), rfl, .inl ⟨by simp, rfl⟩⟩
  | false =>
    have hnm : isNameB (b.getD (b.length - 1) ⟨#[]⟩) = true := by
      rw [getD_at _ _ (by omega)]
      have := split_names (s := u) (by rw [hsb])
      rw [hsb] at this
      exact this _ (List.getElem_mem _)
    rw [ren2_val t hk hp]
    rcases kid_cases t.pos t.r0.1 t.up l[p].f0 (b.getD (b.length - 1) ⟨#[]⟩) with ⟨c1, c2⟩ | ⟨q, hq, c1, c2, c3, c4, c5⟩
    · rw [c2, if_neg (by simp)]
      split
      · exact ⟨([], 16), rfl, .inl ⟨by simp, rfl⟩⟩
      · by_cases hb2 : rightB (l.set k (moved l[k] l[p] (b.getD (b.length - 1) ⟨#[]⟩))) = true
        · rw [if_pos hb2]
          exact ⟨_, rfl, .inr ⟨rfl, rfl, a, b, hsa, hsb, k, hk, h4, W, p, hp, A, v2, .inr ⟨by rw [← c1], rfl, hb2⟩⟩⟩
        · rw [if_neg hb2]
          exact ⟨([], 9), rfl, .inl ⟨by simp, rfl⟩⟩
    · rw [c3, if_pos (by rfl)]
      have hg : gI (some l[q]) = l[q] := rfl
      rw [hg]
      by_cases c6 : q = k
      · subst c6
        rw [if_pos rfl]
        exact ⟨_, rfl, .inr ⟨rfl, rfl, a, b, hsa, hsb, q, hk, h4, W, p, hp, A, v2, .inl ⟨c2, rfl⟩⟩⟩
      · rw [if_neg (fun h => c6 (t.up.inj hq hk h))]
        exact ⟨([], 8), rfl, .inl ⟨by simp, rfl⟩⟩
end Go.Proofs.YthbdgahmlggpmaaDoor.Q
