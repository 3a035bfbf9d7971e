/- TreeBack (lamella/lamellalaw10.TreeBack): what was renamed, and is renamed back, leaves the tree as it was: for every list and every two paths the law answers true. -/
import Derived.Test.YthbdgahmlggpmaaDoorR6
import Derived.Test.YthbdgahmlggpmaaDoorQ15
namespace Go.Proofs.YthbdgahmlggpmaaDoor.Q
open Go.RowKit Go.Proofs.YthbdgahmlggpmaaDoorW.PrintWords Go.Proofs.YthbdgahmlggpmaaDoorW.PrintLast
set_option linter.unusedVariables false
set_option linter.unusedSimpArgs false
theorem ren2_there {l : List S34} (t : Tr l) {k q : Nat} (hk : k < l.length) (hq : q < l.length) {nm : ByteArray} (h : kidN l l[q].f0 nm = (k : Int)) : ren2 l l[k] ⟨l[q], nm, 0⟩ false = some (l, 0) := by
  unfold ren2
  rw [if_neg Bool.false_ne_true]
  rcases kid_cases t.pos t.r0.1 t.up l[q].f0 nm with ⟨c1, c2⟩ | ⟨x, hx, c1, c2, c3, c4, c5⟩
  · omega
  · have : x = k := by omega
    subst this
    simp only
    rw [c3, if_pos (by rfl)]
    exact if_pos rfl
theorem walk_all {l : List S34} {b : List ByteArray} {p k : Nat} (hne : b.length ≠ 0) (hp : p < l.length) (h : walkN l (b.take (b.length - 1)) 0 = ((p : Int), 0)) (hd : l[p].f3 = true) (hk : kidN l l[p].f0 (b.getD (b.length - 1) ⟨#[]⟩) = (k : Int)) : walkN l b 0 = ((k : Int), 0) := by
  rw [init_last b hne, walk_append, h]
  simp only [if_true]
  rw [walkN, rdS _ _ hp, if_pos hd, hk, if_neg (by omega), walkN]
theorem anc_set {l o : List S34} {k : Nat} (hlen : o.length = l.length) (hg : ∀ id, getN o id = getN l id) (hne : ∀ (i : Nat) (hi : i < l.length), i ≠ k → (o[i]'(by omega)) = l[i]) {i : Nat} (h : Anc o k i) : Anc l k i := by
  induction h with
  | refl => exact .refl
  | up i q hi h0 hq h ih =>
    by_cases e : i = k
    · subst e
      exact .refl
    · rw [hne i (by omega) e, hg] at hq
      exact .up i q (by omega) h0 hq ih
/-- What was renamed is renamed back. -/
theorem back_ok {l : List S34} (hw : wfL l = true) (hl : l.length ≤ 100) {s u : ByteArray} (hs : s.size ≤ 1000) (hu : u.size ≤ 1000) (hr : rightB l = true) {a b : List ByteArray} (ha : splitF s = (a, 0)) (hb : splitF u = (b, 0)) {k : Nat} (hk : k < l.length) (hk0 : k ≠ 0) (W : walkN l a 0 = ((k : Int), 0)) {p : Nat} (hp : p < l.length) (A : aboveN l b = ((p : Int), 0)) (I : inN l (k : Int) 50 (p : Int) = some false) {o : List S34}
    (h : (kidN l l[p].f0 (b.getD (b.length - 1) ⟨#[]⟩) = (k : Int) ∧ o = l) ∨ (kidN l l[p].f0 (b.getD (b.length - 1) ⟨#[]⟩) = -1 ∧ o = l.set k (moved l[k] l[p] (b.getD (b.length - 1) ⟨#[]⟩)) ∧ rightB o = true)) :
    tree_Rename.f o u s = some (l, 0) := by
  have t := tr_of hw hr
  obtain ⟨hb0, _, wb, dp⟩ := walk_of_above A t.pos
  obtain ⟨ha0, q, hq, wa, dq, ka⟩ := walk_last W hk0 t.pos
  obtain ⟨_, _, key1, key2⟩ := kidN_key t ka
  have nap := not_anc 50 p hp I
  have naq : ¬ Anc l k q := by
    intro h
    obtain ⟨d, hd⟩ := t.lev hq
    have hg : getN l l[k].f1 = (q : Int) := by rw [key1]; exact (t.up.find hq).2
    have := h.lev hd (Lev.step k q d hk hk0 hg hd)
    omega
  rcases h with ⟨h1, rfl⟩ | ⟨h1, ho, hb2⟩
  · obtain ⟨v, _, hv⟩ := t.inSome hq hk
    have hv' : v = false := by
      cases v with
      | false => rfl
      | true => exact absurd (anc_of 50 q hq hv) naq
    subst hv'
    rw [ren_go hw hr hu hs hb ha hk hk0 (walk_all hb0 hp wb dp h1) hq (above_of_walk ha0 hq wa dq) hv]
    exact ren2_there t hk hq ka
  · have hf0 : (moved l[k] l[p] (b.getD (b.length - 1) ⟨#[]⟩)).f0 = l[k].f0 := rfl
    have hf3 : (moved l[k] l[p] (b.getD (b.length - 1) ⟨#[]⟩)).f3 = l[k].f3 := rfl
    have hw2 : wfL o = true := by rw [ho]; exact wfL_set hw (wfI_moved (wfL_at hw hk) (wfL_at hw hp))
    have t2 := tr_of hw2 hb2
    have hlen : o.length = l.length := by rw [ho]; simp
    have hk2 : k < o.length := by omega
    have hq2 : q < o.length := by omega
    have hp2 : p < o.length := by omega
    have ok : o[k] = moved l[k] l[p] (b.getD (b.length - 1) ⟨#[]⟩) := by simp only [ho]; rw [List.getElem_set_self]
    have o0 : ∀ (i : Nat) (hi : i < l.length), (o[i]'(by omega)).f0 = l[i].f0 := fun i hi => by simp only [ho]; rw [set_f0 hk hf0]
    have o3 : ∀ (i : Nat) (hi : i < l.length), (o[i]'(by omega)).f3 = l[i].f3 := fun i hi => by simp only [ho]; rw [set_f3 hk hf3]
    have one : ∀ (i : Nat) (hi : i < l.length), i ≠ k → (o[i]'(by omega)) = l[i] := fun i hi e => by simp only [ho]; rw [List.getElem_set, if_neg (fun h => e h.symm)]
    have og : ∀ id, getN o id = getN l id := fun id => by rw [ho]; exact set_getN t.up hk hf0 id
    have WS := fun ns j => walk_set t hlen (fun _ => t2.r0.1) t2.up t2.keys o0 o3 one ns 0 t.pos j
    have wb2 := (WS _ p wb nap).1
    have wa2 := (WS _ q wa naq).1
    obtain ⟨v, _, hv⟩ := t2.inSome hq2 hk2
    have hv' : v = false := by
      cases v with
      | false => rfl
      | true => exact absurd (anc_set hlen og one (anc_of 50 q hq2 hv)) naq
    subst hv'
    have kb : kidN o o[p].f0 (b.getD (b.length - 1) ⟨#[]⟩) = (k : Int) := (kid_at t2.pos t2.r0.1 t2.up t2.keys hk2 (by omega) (by rw [ok, o0 p hp]; rfl) (by rw [ok]; rfl)).2
    rw [ren_go hw2 hb2 hu hs hb ha hk2 hk0 (walk_all hb0 hp2 wb2 (by rw [o3 p hp]; exact dp) kb) hq2 (above_of_walk ha0 hq2 wa2 (by rw [o3 q hq]; exact dq)) hv]
    have hpk : o.set k (moved o[k] o[q] (a.getD (a.length - 1) ⟨#[]⟩)) = l := by
      have : moved o[k] o[q] (a.getD (a.length - 1) ⟨#[]⟩) = l[k] := by
        rw [ok]
        have e1 : o[q].f0 = l[k].f1 := by rw [o0 q hq, key1]
        have e2 := bytes_inj key2
        unfold moved
        rw [e1, ← e2]
      rw [this, ho, List.set_set, List.set_getElem_self]
    have hnone : kidI o o[q].f0 (a.getD (a.length - 1) ⟨#[]⟩) = none := by
      rcases kid_cases t2.pos t2.r0.1 t2.up o[q].f0 (a.getD (a.length - 1) ⟨#[]⟩) with ⟨c1, c2⟩ | ⟨x, hx, c1, c2, c3, c4, c5⟩
      · exact c2
      · exfalso
        rw [o0 q hq] at c4
        by_cases e : x = k
        · subst e
          rw [ok] at c4 c5
          have e2 : p = q := t.up.inj hp hq c4
          subst e2
          have := kidN_congr l l[p].f0 (show (b.getD (b.length - 1) ⟨#[]⟩).toList = (a.getD (a.length - 1) ⟨#[]⟩).toList from c5)
          omega
        · rw [one x (by omega) e] at c4 c5
          exact e (t.keys x k (by omega) hk c1 (by omega) (by rw [c4, key1]) (by rw [c5, key2]))
    rw [ren2_val t2 hk2 hq2, hnone, if_neg (by simp), if_neg, hpk, if_pos hr]
    rintro ⟨e1, e2⟩
    have hks : ∀ d, kidsN o d = (kidsN l d - (if l[k].f1 = d then 1 else 0)) + (if l[p].f0 = d then 1 else 0) := fun d => by rw [ho]; exact kids_set (by omega) hk _ d
    rw [filter_len_eq t2.pos t2.r0.1 t2.up, hks, o0 q hq] at e2
    have h12 := t.kids_any l[q].f0
    have e4 : ¬ l[p].f0 = l[q].f0 := by
      intro h
      apply e1
      rw [ok, o0 q hq]
      exact h.symm
    rw [if_pos key1, if_neg e4] at e2
    omega
end Go.Proofs.YthbdgahmlggpmaaDoor.Q
namespace Go.Proofs.YthbdgahmlggpmaaDoor.Q.Pure
open Go.RowKit Go.Proofs.YthbdgahmlggpmaaDoorW.PrintWords Go.Proofs.YthbdgahmlggpmaaDoorW.PrintLast Go.Proofs.YthbdgahmlggpmaaDoor.Q
theorem TreeBack (l0 : List S34) (a1 a2 : ByteArray) (hl : l0.length ≤ maxLen ∧ ∀ x ∈ l0, (Lit.int .u32 x.f0).wf = true ∧ (Lit.int .u32 x.f1).wf = true ∧ x.f2.size ≤ maxLen ∧ True ∧ (Lit.int .u32 x.f4).wf = true) (_ : a1.size ≤ maxLen) (_ : a2.size ≤ maxLen) :
    ∃ k, w10_TreeBack.f k l0 a1 a2 = some true := by
  have hw := wfL_of l0 hl.2
  refine ⟨6000, ?_⟩
  unfold w10_TreeBack.f
  rw [alive_t]
  simp only [Option.bind_some, if_true]
  rcases great_cases l0 a1 a2 6000 (by omega) with hg | ⟨hg, hlen, h1, h2⟩
  · rw [hg]
    rfl
  · rw [hg]
    simp only [Option.bind_some, Bool.false_eq_true, if_false]
    obtain ⟨r, hr, hc⟩ := ren_met hw hlen h1 h2
    rw [hr]
    simp only [Option.bind_some]
    rcases hc with ⟨h3, h4⟩ | ⟨h3, hright, a, b, ha, hb, k, hk, hk0, W, p, hp, A, I, h⟩
    · rw [if_neg h3, h4]
      rfl
    · rw [if_pos h3, back_ok hw hlen h1 h2 hright ha hb hk hk0 W hp A I h]
      simp only [Option.bind_some, if_true]
      rw [same_f _ (by omega) 6000 (by omega)]
      rfl
end Go.Proofs.YthbdgahmlggpmaaDoor.Q.Pure
