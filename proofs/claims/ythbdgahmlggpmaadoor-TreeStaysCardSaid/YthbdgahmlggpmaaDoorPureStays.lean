/- TreeStays (lamella/lamellalaw10.TreeStays): what is answered is a tree, what was made is found, all else is found as ahead, and made and removed leaves the tree as it was: for every list, two paths, Id and kind the law answers true. -/
import Derived.Test.YthbdgahmlggpmaaDoorR8
import Derived.Test.YthbdgahmlggpmaaDoorQ24
namespace Go.Proofs.YthbdgahmlggpmaaDoor.Q
open Go.RowKit Go.Proofs.YthbdgahmlggpmaaDoorW.PrintWords Go.Proofs.YthbdgahmlggpmaaDoorW.PrintLast
set_option linter.unusedVariables false
set_option linter.unusedSimpArgs false
theorem Ins.walkOld {l o : List S34} {x : S34} {p : Nat} (h : Ins l x p o) : ∀ (ns : List ByteArray) (y z : S34), walkI l ns y = (z, 0) → walkI o ns y = (z, 0)
  | [], y, z, hw => hw
  | n :: ns, y, z, hw => by
    rw [walkI] at hw ⊢
    by_cases h3 : y.f3 = true
    · rw [if_pos h3] at hw ⊢
      cases hk : kidI l y.f0 n with
      | none =>
        rw [hk] at hw
        have := ((Prod.mk.injEq ..).mp hw).2
        omega
      | some k =>
        rw [hk] at hw
        rw [h.kidSome hk]
        exact h.walkOld ns k z hw
    · rw [if_neg h3] at hw
      have := ((Prod.mk.injEq ..).mp hw).2
      omega
theorem walkI_append (l : List S34) (ms : List ByteArray) : ∀ (ns : List ByteArray) (y z : S34), walkI l ns y = (z, 0) → walkI l (ns ++ ms) y = walkI l ms z
  | [], y, z, h => by
    rw [walkI] at h
    rw [List.nil_append, ((Prod.mk.injEq ..).mp h).1]
  | n :: ns, y, z, h => by
    rw [List.cons_append]
    rw [walkI] at h ⊢
    by_cases h3 : y.f3 = true
    · rw [if_pos h3] at h ⊢
      cases hk : kidI l y.f0 n with
      | none =>
        rw [hk] at h
        have := ((Prod.mk.injEq ..).mp h).2
        omega
      | some k =>
        rw [hk] at h
        exact walkI_append l ms ns k z h
    · rw [if_neg h3] at h
      have := ((Prod.mk.injEq ..).mp h).2
      omega
theorem Ins.noKid {l o : List S34} {x : S34} {p : Nat} (h : Ins l x p o) {q : Nat} (hq : q < l.length) (h0 : 0 < q) : l[q].f1 ≠ x.f0 := by
  intro e
  obtain ⟨r, hr, _, h2, _, _⟩ := h.t.par hq h0
  rw [e, h.new] at h2
  cases h2
theorem Ins.parNe {l o : List S34} {x : S34} {p : Nat} (h : Ins l x p o) : x.f0 ≠ x.f1 := by
  rw [h.par]
  exact fun e => h.ne (List.getElem_mem h.hp) e.symm
theorem Ins.kidNone {l o : List S34} {x : S34} {p : Nat} (h : Ins l x p o) (n : ByteArray) : kidI o x.f0 n = none := by
  rw [h.kidOld x.f0 n (fun e => h.parNe e.1)]
  rcases kid_cases h.t.pos h.t.r0.1 h.t.up x.f0 n with ⟨h1, h2⟩ | ⟨q, hq, h1, h2, h3, h4, h5⟩
  · exact h2
  · exact absurd h4 (h.noKid hq h1)
theorem Ins.walkNew {l o : List S34} {x : S34} {p : Nat} (h : Ins l x p o) : ∀ (ns : List ByteArray) (y : S34), (walkI o ns y).2 = 0 → (walkI o ns y).1.f0 = x.f0 ∨ walkI l ns y = walkI o ns y
  | [], y, _ => .inr rfl
  | n :: ns, y, hw => by
    rw [walkI] at hw ⊢
    rw [walkI]
    by_cases h3 : y.f3 = true
    · rw [if_pos h3] at hw ⊢
      rw [if_pos h3]
      by_cases e : y.f0 = x.f1 ∧ n.toList = x.f2.toList
      · left
        have hk : kidI o y.f0 n = some x := by rw [e.1]; exact h.kidNew e.2
        rw [hk] at hw ⊢
        cases ns with
        | nil => rfl
        | cons n2 ns =>
          exfalso
          simp only at hw
          rw [walkI] at hw
          by_cases h4 : x.f3 = true
          · rw [if_pos h4, h.kidNone n2] at hw
            simp at hw
          · rw [if_neg h4] at hw
            simp at hw
      · rw [h.kidOld y.f0 n e] at hw ⊢
        cases hk : kidI l y.f0 n with
        | none => exact .inr rfl
        | some k =>
          rw [hk] at hw
          exact h.walkNew ns k hw
    · rw [if_neg h3] at hw
      simp at hw
theorem Ins.wf {l o : List S34} {x : S34} {p : Nat} (h : Ins l x p o) : wfL o = true := by
  unfold wfL
  rw [List.all_eq_true]
  intro y hy
  rcases h.mem hy with rfl | hy
  · exact h.wx
  · exact List.all_eq_true.1 h.t.wf y hy
theorem Ins.rd0 {l o : List S34} {x : S34} {p : Nat} (h : Ins l x p o) : rd_T34 o 0 = rd_T34 l 0 := by
  obtain ⟨h0, hz⟩ := h.zero
  rw [show (0 : Int) = ((0 : Nat) : Int) from rfl, rdS _ _ h0, rdS _ _ h.t.pos, hz]
theorem Ins.out {l o : List S34} {x : S34} {p : Nat} (h : Ins l x p o) : outI o x.f0 = l := by
  have hle := plc_le l x.f0
  have hlen := h.len
  have hx : o[plc l x.f0]'(by omega) = x := by
    rcases h.get (show plc l x.f0 < o.length by omega) with ⟨a1, _⟩ | ⟨_, a3⟩ | ⟨a1, _⟩
    · omega
    · exact a3
    · omega
  have hg := (h.up.find (show plc l x.f0 < o.length by omega)).2
  rw [hx] at hg
  unfold outI
  rw [hg, Int.toNat_natCast]
  unfold outN
  rw [h.ho, withN]
  have e1 : (l.take (plc l x.f0) ++ x :: l.drop (plc l x.f0)).take (plc l x.f0) = l.take (plc l x.f0) := by
    rw [List.take_append_of_le_length (by rw [List.length_take]; omega), List.take_take, Nat.min_self]
  have e2 : (l.take (plc l x.f0) ++ x :: l.drop (plc l x.f0)).drop (plc l x.f0 + 1) = l.drop (plc l x.f0) := by
    rw [show l.take (plc l x.f0) ++ x :: l.drop (plc l x.f0) = (l.take (plc l x.f0) ++ [x]) ++ l.drop (plc l x.f0) by simp]
    exact List.drop_left' (by rw [List.length_append, List.length_take]; simp; omega)
  rw [e1, e2, List.take_append_drop]
/-- What a Make that answers has met. -/
theorem make_met {l : List S34} (hw : wfL l = true) (s : ByteArray) (id : Int) (dir : Bool) (h0 : 0 ≤ id) (hid : id ≤ 4294967295) : ((makeF l s id dir).2 ≠ 0 ∧ (makeF l s id dir).1 = []) ∨
    ((makeF l s id dir).2 = 0 ∧ ∃ a p nm, splitF s = (a, 0) ∧ a.length ≠ 0 ∧ nm = a.getD (a.length - 1) ⟨#[]⟩ ∧ (∃ hp : p < l.length, walkI l (a.take (a.length - 1)) (rd_T34 l 0) = (l[p], 0) ∧ Ins l ⟨id, l[p].f0, nm, dir, 0⟩ p (makeF l s id dir).1)) := by
  unfold makeF
  by_cases hb : (beginF l s).2 = 0
  rotate_left
  · rw [if_neg hb]
    exact .inl ⟨hb, rfl⟩
  rw [if_pos hb]
  have hr := begin_ok hb
  have t := tr_of hw hr
  have hbs : beginF l s = splitF s := by unfold beginF; rw [if_pos hr]
  rw [hbs] at hb ⊢
  have hsn := split_names hb
  have hls := splitF_len s
  obtain ⟨a, ea, hsa⟩ : ∃ a ea, splitF s = (a, ea) := ⟨_, _, rfl⟩
  rw [hsa] at hb hsn hls ⊢
  simp only at hb hsn hls ⊢
  subst hb
  obtain ⟨e1, _⟩ := above_rel t a
  by_cases h2 : (aboveN l a).2 = 0
  rotate_left
  · rw [if_neg (by rw [e1]; exact h2), e1]
    exact .inl ⟨h2, rfl⟩
  obtain ⟨hne, p, hp, A, dp, AI⟩ := above_at t a h2
  obtain ⟨_, hp', W, _⟩ := walk_of_above A t.pos
  rw [AI]
  simp only [if_true]
  have hnm : isNameB (a.getD (a.length - 1) ⟨#[]⟩) = true := by
    rw [getD_at _ _ (by omega)]
    exact hsn _ (List.getElem_mem _)
  by_cases h3 : (kidI l l[p].f0 (a.getD (a.length - 1) ⟨#[]⟩)).isSome = true
  · rw [if_pos h3]
    exact .inl ⟨by simp, rfl⟩
  rw [if_neg h3]
  by_cases h4 : l.length = 40
  · rw [if_pos h4]
    exact .inl ⟨by simp, rfl⟩
  rw [if_neg h4]
  by_cases h5 : (kidsI l l[p].f0).length = 12
  · rw [if_pos h5]
    exact .inl ⟨by simp, rfl⟩
  rw [if_neg h5]
  by_cases h6 : id ≤ 1
  · rw [if_pos h6]
    exact .inl ⟨by simp, rfl⟩
  rw [if_neg h6]
  by_cases h7 : (findI l id).isSome = true
  · rw [if_pos h7]
    exact .inl ⟨by simp, rfl⟩
  rw [if_neg h7]
  have hn : findI l id = none := by simpa using h7
  have hwp := (wfI_iff _).1 (wfL_at hw hp)
  have hlev := walk_lev t (a.take (a.length - 1)) 0 t.pos 0 .zero p W
  rw [List.length_take] at hlev
  obtain ⟨q, hq, w1, w2⟩ := walk_rel0 t (a.take (a.length - 1))
  rw [W] at w1 w2
  obtain ⟨w3, w4⟩ := w2 rfl
  have : q = p := by simp only at w3; omega
  subst this
  refine .inr ⟨rfl, a, q, _, rfl, hne, rfl, hp, Prod.ext w4 w1, ?_⟩
  exact { t := t, wx := by rw [wfI_iff]; exact ⟨h0, hid, hwp.1, hwp.2.1, by simp, by simp⟩, hp := hp, dir := dp, par := rfl, new := hn, big := by simp only; omega, free := by simpa using h3, ho := put_new _ hn, nmx := hnm, sz := rfl, lev := ⟨_, by omega, hlev⟩, room := h5, max := h4 }
end Go.Proofs.YthbdgahmlggpmaaDoor.Q
namespace Go.Proofs.YthbdgahmlggpmaaDoor.Q.Pure
open Go.RowKit Go.Proofs.YthbdgahmlggpmaaDoorW.PrintWords Go.Proofs.YthbdgahmlggpmaaDoorW.PrintLast Go.Proofs.YthbdgahmlggpmaaDoor.Q
set_option linter.unusedVariables false
set_option linter.unusedSimpArgs false
abbrev fnd (r : S34 × Int) : Int × Int × ByteArray × Bool × Int × Int := (r.1.f0, r.1.f1, r.1.f2, r.1.f3, r.1.f4, r.2)
theorem find_f (l : List S34) (hw : wfL l = true) (s : ByteArray) (hs : s.size ≤ 1000) : tree_Find.f l s = some (fnd (findF l s)) := by
  unfold tree_Find.f
  rw [if_pos ⟨hw, by omega⟩]
theorem TreeStays (l0 : List S34) (a1 a2 : ByteArray) (a3 : Int) (a4 : Bool) (hl : l0.length ≤ maxLen ∧ ∀ x ∈ l0, (Lit.int .u32 x.f0).wf = true ∧ (Lit.int .u32 x.f1).wf = true ∧ x.f2.size ≤ maxLen ∧ True ∧ (Lit.int .u32 x.f4).wf = true) (_ : a1.size ≤ maxLen) (_ : a2.size ≤ maxLen) (h2 : (Lit.int .u32 a3).wf = true) :
    ∃ k, w10_TreeStays.f k l0 a1 a2 a3 a4 = some true := by
  have hw := wfL_of l0 hl.2
  have ha := u32_of h2
  refine ⟨6000, ?_⟩
  unfold w10_TreeStays.f
  rw [alive_t]
  simp only [Option.bind_some, if_true]
  rcases great_cases l0 a1 a2 6000 (by omega) with hg | ⟨hg, hlen, s1, s2⟩
  · rw [hg]
    rfl
  rw [hg]
  simp only [Option.bind_some, Bool.false_eq_true, if_false]
  rw [make_f l0 hw a1 a3 a4 s1 ha.1 ha.2]
  simp only [Option.bind_some]
  rcases make_met hw a1 a3 a4 ha.1 ha.2 with ⟨m1, m2⟩ | ⟨m1, a, p, nm, hsa, hne, hnm, hp, hwalk, hI⟩
  · rw [if_neg m1, m2]
    rfl
  rw [if_pos m1]
  generalize (makeF l0 a1 a3 a4).1 = o at hI ⊢
  have hwo := hI.wf
  have hro := hI.right
  have hrl : rightB l0 = true := right_of hI.t.pos hI.t.le hI.t.root hI.t.first hI.t.second
  have hfo : findF o a1 = (⟨a3, l0[p].f0, nm, a4, 0⟩, 0) := by
    unfold findF beginF
    rw [if_pos hro, hsa]
    simp only [if_true]
    rw [hI.rd0, init_last a hne, walkI_append o _ _ _ _ (hI.walkOld _ _ _ hwalk), walkI, if_pos hI.dir, ← hnm]
    have := hI.kidNew (nm := nm) rfl
    simp only at this
    rw [this]
    rfl
  rw [find_f o hwo a1 s1, hfo]
  unfold tree_Right.f
  rw [if_pos hwo, hro]
  simp only [Option.bind_some, if_true, fnd, bne_self_eq_false, Bool.false_eq_true, if_false]
  have hrem : remF o a1 a4 = (l0, ⟨a3, l0[p].f0, nm, a4, 0⟩, 0) := by
    unfold remF
    rw [hfo]
    simp only [if_true]
    have hb := hI.big
    simp only at hb
    have hk : (kidsI o a3).length = 0 := by
      have h1 := hI.kids a3
      rw [h1]
      have h3 : isKid a3 (⟨a3, l0[p].f0, nm, a4, 0⟩ : S34) = false := by
        unfold isKid
        rw [beq_eq_false_iff_ne.2 (fun e => hI.parNe e.symm), Bool.false_and]
      rw [h3]
      have h4 : kidsI l0 a3 = [] := by
        unfold kidsI
        rw [List.filter_eq_nil_iff]
        intro y hy hky
        obtain ⟨q, hq, rfl⟩ := List.mem_iff_getElem.1 hy
        unfold isKid at hky
        simp only [Bool.and_eq_true, beq_iff_eq, Bool.not_eq_true', beq_eq_false_iff_ne] at hky
        have hq0 : 0 < q := by
          rcases Nat.eq_zero_or_pos q with e | e
          · subst e
            exact absurd hI.t.r0.1 hky.2
          · exact e
        exact hI.noKid hq hq0 hky.1
      rw [h4]
      rfl
    have ho := hI.out
    simp only at ho
    rw [if_neg (by omega), if_neg (by rintro ⟨e1, e2⟩; rw [e1] at e2; cases e2), if_neg (by omega), if_neg (by rintro ⟨e1, e2⟩; rw [e1] at e2; cases e2), ho]
  have hj1 : ∀ K : Nat, 2000 ≤ K → w10_TreeStays.j1 K l0 a1 a4 o false a3 l0[p].f0 nm a4 0 = some true := by
    intro K hK
    obtain ⟨K, rfl⟩ : ∃ m, K = m + 1 := ⟨K - 1, by omega⟩
    rw [w10_TreeStays.j1, if_neg Bool.false_ne_true, remove_f o hwo a1 a4 s1, hrem, Option.bind_some, alive_t]
    simp only [Option.bind_some, if_true, tup]
    rw [if_pos (by simp), same_f l0 (by omega) K (by omega)]
    rfl
  show w10_TreeStays.j0 6000 l0 a1 a2 a3 a4 o false a3 l0[p].f0 nm a4 0 = some true
  rw [w10_TreeStays.j0, if_neg Bool.false_ne_true, find_f l0 hw a2 s2, find_f o hwo a2 s2, Option.bind_some, Option.bind_some]
  have hfl : findF l0 a2 = if (splitF a2).2 = 0 then walkI l0 (splitF a2).1 (rd_T34 l0 0) else (zI, (splitF a2).2) := by
    unfold findF beginF
    rw [if_pos hrl]
  have hfo2 : findF o a2 = if (splitF a2).2 = 0 then walkI o (splitF a2).1 (rd_T34 l0 0) else (zI, (splitF a2).2) := by
    unfold findF beginF
    rw [if_pos hro, hI.rd0]
  by_cases hs2 : (splitF a2).2 = 0
  rotate_left
  · rw [if_neg hs2] at hfl hfo2
    rw [hfl, hfo2]
    simp only [fnd]
    rw [if_neg hs2, if_neg hs2]
    exact hj1 _ (by omega)
  rw [if_pos hs2] at hfl hfo2
  have wo := fun z => hI.walkOld (splitF a2).1 (rd_T34 l0 0) z
  have wn := hI.walkNew (splitF a2).1 (rd_T34 l0 0)
  rw [← hfl, ← hfo2] at wn
  rw [← hfl, ← hfo2] at wo
  generalize findF l0 a2 = fl at *
  generalize findF o a2 = fo at *
  obtain ⟨z, g⟩ := fl
  obtain ⟨y, e⟩ := fo
  simp only [fnd] at wo wn ⊢
  by_cases hg0 : g = 0
  · subst hg0
    have := wo z rfl
    simp only [Prod.mk.injEq] at this
    obtain ⟨rfl, rfl⟩ := this
    rw [if_pos rfl, if_pos rfl, if_neg (by simp)]
    exact hj1 _ (by omega)
  · rw [if_neg hg0]
    by_cases he0 : e = 0
    · subst he0
      rw [if_pos rfl]
      rcases wn rfl with h3 | h3
      · rw [h3, bne_self_eq_false]
        exact hj1 _ (by omega)
      · exact absurd ((Prod.mk.injEq ..).mp h3).2 hg0
    · rw [if_neg he0]
      exact hj1 _ (by omega)
end Go.Proofs.YthbdgahmlggpmaaDoor.Q.Pure
