/- Contracts and plain theory of this seat, merged out of smaller texts: P1, T9, T6. -/
import Derived.Test.YthbdgahmlggpmaaDoorQ2
import Derived.Test.YthbdgahmlggpmaaDoorQ3
import Derived.Test.YthbdgahmlggpmaaDoorM3
import Derived.Test.YthbdgahmlggpmaaDoorM1
import Derived.Outline
import Derived.BigQuiet
import Derived.Deep.QuietTactic
import Derived.Laws.CopyOwn
import Derived.Great.BuildSlice
/- The plain theory of trees: what kid, kids and depth answer, in plain Lean. -/



namespace Go.Proofs.YthbdgahmlggpmaaDoor.Q
open Go.RowKit Go.Proofs.YthbdgahmlggpmaaDoorW.PrintWords Go.Proofs.YthbdgahmlggpmaaDoorW.PrintLast
set_option linter.unusedVariables false
set_option linter.unusedSimpArgs false
abbrev I6 := Int × Int × ByteArray × Bool × Int × Bool
def toI6 : Option S34 → I6
  | some x => (x.f0, x.f1, x.f2, x.f3, x.f4, true)
  | none => (0, 0, ⟨#[]⟩, false, 0, false)
theorem wrap_in {i : Int} (h0 : -9223372036854775808 ≤ i) (h : i ≤ 9223372036854775807) : wrap64 i = i := by unfold wrap64; omega
theorem drop34 (l : List S34) (i : Nat) (h : i < l.length) : l.drop i = rd_T34 l (i : Int) :: l.drop (i + 1) := by
  rw [List.drop_eq_getElem_cons h]
  simp [rd_T34, List.getD_eq_getElem?_getD, List.getElem?_eq_getElem h]
theorem rd34_get (l : List S34) (i : Nat) (h : i < l.length) : rd_T34 l (i : Int) = l[i] := by
  simp [rd_T34, List.getD_eq_getElem?_getD, List.getElem?_eq_getElem h]
/-! ### kid -/
def isKid (d : Int) (x : S34) : Bool := x.f1 == d && !(x.f0 == 1)
def kidI (l : List S34) (d : Int) (nm : ByteArray) : Option S34 := l.find? (fun x => isKid d x && x.f2.toList == nm.toList)
theorem kid_loop (l : List S34) (hl : l.length ≤ maxLen) (d : Int) (nm : ByteArray) : ∀ (n k i : Nat), i + n = l.length → n < k → tree_kid.l0 k d nm l (l.length : Int) (i : Int) = some (toI6 ((l.drop i).find? (fun x => isKid d x && x.f2.toList == nm.toList))) := by
  unfold maxLen at hl
  intro n
  induction n with
  | zero =>
    intro k i hi hk
    obtain ⟨k, rfl⟩ : ∃ m, k = m + 1 := ⟨k - 1, by omega⟩
    simp only [tree_kid.l0]
    rw [if_neg (by omega), List.drop_eq_nil_of_le (by omega)]
    rfl
  | succ n ih =>
    intro k i hi hk
    obtain ⟨k, rfl⟩ : ∃ m, k = m + 1 := ⟨k - 1, by omega⟩
    simp only [tree_kid.l0]
    rw [if_pos (by omega), if_pos (by omega), if_pos (by omega), drop34 l i (by omega), wrap_in (by omega) (by omega)]
    have hi' := ih k (i + 1) (by omega) (by omega)
    rw [show (((i + 1 : Nat)) : Int) = (i : Int) + 1 by omega] at hi'
    rw [hi', List.find?_cons]
    generalize rd_T34 l (i : Int) = x
    by_cases h1 : x.f1 = d
    · rw [if_pos h1]
      by_cases h2 : x.f2.toList = nm.toList
      · rw [if_pos h2]
        by_cases h3 : x.f0 = 1
        · rw [if_pos h3]
          have : (isKid d x && x.f2.toList == nm.toList) = false := by simp [isKid, h3]
          rw [this]
        · rw [if_neg h3]
          have : (isKid d x && x.f2.toList == nm.toList) = true := by simp [isKid, h1, h2, h3]
          rw [this]
          rfl
      · rw [if_neg h2]
        have : (isKid d x && x.f2.toList == nm.toList) = false := by simp [h2]
        rw [this]
    · rw [if_neg h1]
      have : (isKid d x && x.f2.toList == nm.toList) = false := by simp [isKid, h1]
      rw [this]
theorem kid_f (l : List S34) (hl : l.length ≤ maxLen) (d : Int) (nm : ByteArray) (k : Nat) (hk : l.length < k) : tree_kid.f k l d nm = some (toI6 (kidI l d nm)) := by
  unfold tree_kid.f
  exact kid_loop l hl d nm l.length k 0 (by omega) hk
/-! ### kids -/
def kidsI (l : List S34) (d : Int) : List S34 := l.filter (isKid d)
theorem kids_loop (l : List S34) (hl : l.length ≤ 1000) (d : Int) : ∀ (n k i : Nat) (acc : List S34), i + n = l.length → n < k → acc.length ≤ i → tree_kids.l0 k d acc l (l.length : Int) (i : Int) = some (acc ++ (l.drop i).filter (isKid d)) := by
  intro n
  induction n with
  | zero =>
    intro k i acc hi hk ha
    obtain ⟨k, rfl⟩ : ∃ m, k = m + 1 := ⟨k - 1, by omega⟩
    simp only [tree_kids.l0]
    rw [if_neg (by omega), List.drop_eq_nil_of_le (by omega), List.filter_nil, List.append_nil]
  | succ n ih =>
    intro k i acc hi hk ha
    obtain ⟨k, rfl⟩ : ∃ m, k = m + 1 := ⟨k - 1, by omega⟩
    simp only [tree_kids.l0]
    rw [if_pos (by omega), if_pos (by omega), if_pos (by omega), drop34 l i (by omega), wrap_in (by omega) (by omega)]
    have hi1 := ih k (i + 1) acc (by omega) (by omega) (by omega)
    have hi2 := ih k (i + 1) (acc ++ [rd_T34 l (i : Int)]) (by omega) (by omega) (by simp; omega)
    rw [show (((i + 1 : Nat)) : Int) = (i : Int) + 1 by omega] at hi1 hi2
    rw [List.filter_cons]
    generalize rd_T34 l (i : Int) = x at hi2 ⊢
    by_cases h1 : x.f1 = d
    · rw [if_pos h1]
      by_cases h3 : x.f0 = 1
      · rw [if_pos h3, hi1, if_neg (show ¬ isKid d x = true by simp [isKid, h3])]
      · rw [if_neg h3, if_pos (show acc.length < 4398046511104 by omega), if_pos (show isKid d x = true by simp [isKid, h1, h3])]
        rw [show (⟨x.f0, x.f1, x.f2, x.f3, x.f4⟩ : S34) = x from rfl, hi2]
        simp
    · rw [if_neg h1, hi1, if_neg (show ¬ isKid d x = true by simp [isKid, h1])]
theorem kids_f (l : List S34) (hl : l.length ≤ 1000) (d : Int) (k : Nat) (hk : l.length < k) : tree_kids.f k l d = some (kidsI l d) := by
  unfold tree_kids.f
  rw [show (0 : Int) = ((0 : Nat) : Int) from rfl, kids_loop l hl d l.length k 0 [] (by omega) hk (by simp)]
  rfl
/-! ### depth -/
def wfI (x : S34) : Bool := decide (0 ≤ x.f0) && decide (x.f0 ≤ 4294967295) && decide (0 ≤ x.f1) && decide (x.f1 ≤ 4294967295) && decide (0 ≤ x.f4) && decide (x.f4 ≤ 4294967295)
theorem wfI_iff (x : S34) : wfI x = true ↔ 0 ≤ x.f0 ∧ x.f0 ≤ 4294967295 ∧ 0 ≤ x.f1 ∧ x.f1 ≤ 4294967295 ∧ 0 ≤ x.f4 ∧ x.f4 ≤ 4294967295 := by
  simp only [wfI, Bool.and_eq_true, decide_eq_true_eq]
  constructor
  · intro ⟨⟨⟨⟨⟨a, b⟩, c⟩, d⟩, e⟩, f⟩
    exact ⟨a, b, c, d, e, f⟩
  · intro ⟨a, b, c, d, e, f⟩
    exact ⟨⟨⟨⟨⟨a, b⟩, c⟩, d⟩, e⟩, f⟩
theorem get_f (l : List S34) (id : Int) (hl : l.length ≤ 1000) (h0 : 0 ≤ id) (h1 : id ≤ 4294967295) (hup : upB (-1) l = true) : tree_get.f l id = some (toI6 (findI l id)) := by
  unfold tree_get.f getDom
  rw [decide_eq_true hl, decide_eq_true h0, decide_eq_true h1, hup, if_pos (by rfl)]
  cases findI l id <;> rfl
theorem findI_mem {l : List S34} {id : Int} {x : S34} (h : findI l id = some x) : x ∈ l ∧ x.f0 = id := by
  unfold findI at h
  exact ⟨List.mem_of_find?_eq_some h, by have := List.find?_some h; simpa using this⟩
def depthI (l : List S34) : Nat → Int → Int → Int
  | 0, _, _ => -1
  | m + 1, n, id => if id = 1 then n else match findI l id with
    | some p => depthI l m (n + 1) p.f1
    | none => -1
theorem depth_loop (l : List S34) (hl : l.length ≤ 1000) (hup : upB (-1) l = true) (hw : ∀ x ∈ l, wfI x = true) : ∀ (m k : Nat) (n id : Int), n = 7 - (m : Int) → m ≤ 7 → m < k → 0 ≤ id → id ≤ 4294967295 → tree_depth.l0 k l id n = some (depthI l m n id) := by
  intro m
  induction m with
  | zero =>
    intro k n id hn hm hk h0 h1
    obtain ⟨k, rfl⟩ : ∃ m, k = m + 1 := ⟨k - 1, by omega⟩
    simp only [tree_depth.l0]
    rw [if_neg (by omega)]
    rfl
  | succ m ih =>
    intro k n id hn hm hk h0 h1
    obtain ⟨k, rfl⟩ : ∃ m, k = m + 1 := ⟨k - 1, by omega⟩
    simp only [tree_depth.l0, depthI]
    rw [if_pos (by omega)]
    by_cases h2 : id = 1
    · rw [if_pos h2, if_pos h2]
    · rw [if_neg h2, if_neg h2, get_f l id hl h0 h1 hup]
      cases hf : findI l id with
      | none => rfl
      | some p =>
        have hp := (wfI_iff p).1 (hw p (findI_mem hf).1)
        show (if true = true then tree_depth.l0 k l p.f1 (wrap64 (n + 1)) else some (-1)) = some (depthI l m (n + 1) p.f1)
        rw [if_pos rfl, wrap_in (by omega) (by omega)]
        exact ih k (n + 1) p.f1 (by omega) (by omega) (by omega) hp.2.2.1 hp.2.2.2.1
theorem depth_f (l : List S34) (hl : l.length ≤ 1000) (hup : upB (-1) l = true) (hw : ∀ x ∈ l, wfI x = true) (k : Nat) (hk : 7 < k) (id : Int) (h0 : 0 ≤ id) (h1 : id ≤ 4294967295) : tree_depth.f k l id = some (depthI l 7 0 id) := by
  unfold tree_depth.f
  exact depth_loop l hl hup hw 7 k 0 id (by omega) (by omega) hk h0 h1
end Go.Proofs.YthbdgahmlggpmaaDoor.Q
/- The contract of tree.Right, for every list of inodes whose numbers are u32. -/





namespace Go.Proofs.YthbdgahmlggpmaaDoor.Q
open Go.RowKit Go.Proofs.YthbdgahmlggpmaaDoorW.PrintWords Go.Proofs.YthbdgahmlggpmaaDoorW.PrintLast Go.Proofs.YthbdgahmlggpmaaDoorW.PrintMore
set_option linter.unusedVariables false
set_option linter.unusedSimpArgs false
def zI : S34 := ⟨0, 0, ⟨#[]⟩, false, 0⟩
def gI (o : Option S34) : S34 := o.getD zI
theorem toI6_eq (o : Option S34) : toI6 o = ((gI o).f0, (gI o).f1, (gI o).f2, (gI o).f3, (gI o).f4, o.isSome) := by cases o <;> rfl
theorem get_c (A0 : Option Addr) (c0 : Nat) (l : List S34) (id : Int) (w : World) (hr0 : Kd.C k34 w A0 l.length l) (hc0 : l.length ≤ c0) (hl : l.length ≤ 1000) (h0 : 0 ≤ id) (h1 : id ≤ 4294967295) (hup : upB (-1) l = true) :
    Calls Tryd.prog 51 #[.slice A0 l.length c0, .int .u32 id] w fun e w' => e = .returned (.tuple #[.agg #[.int .u32 (gI (findI l id)).f0, .int .u32 (gI (findI l id)).f1, .string (gI (findI l id)).f2, .bool (gI (findI l id)).f3, .int .u32 (gI (findI l id)).f4], .bool (findI l id).isSome]) ∧ Below w.heap.size w w' :=
  tree_get.calls A0 c0 l id _ _ _ _ _ _ w hr0 hc0 (by rw [get_f l id hl h0 h1 hup, toI6_eq])
theorem kid_c (A0 : Option Addr) (c0 : Nat) (l : List S34) (d : Int) (nm : ByteArray) (w : World) (hr0 : Kd.C k34 w A0 l.length l) (hc0 : l.length ≤ c0) (hl : l.length ≤ 1000) :
    Calls Tryd.prog 37 #[.slice A0 l.length c0, .int .u32 d, .string nm] w fun e w' => e = .returned (.tuple #[.agg #[.int .u32 (gI (kidI l d nm)).f0, .int .u32 (gI (kidI l d nm)).f1, .string (gI (kidI l d nm)).f2, .bool (gI (kidI l d nm)).f3, .int .u32 (gI (kidI l d nm)).f4], .bool (kidI l d nm).isSome]) ∧ Below w.heap.size w w' :=
  tree_kid.calls (l.length + 1) A0 c0 l d nm _ _ _ _ _ _ w hr0 hc0 (by rw [kid_f l (by unfold maxLen; omega) d nm _ (by omega), toI6_eq])
theorem depth_c (A0 : Option Addr) (c0 : Nat) (l : List S34) (id : Int) (w : World) (hr0 : Kd.C k34 w A0 l.length l) (hc0 : l.length ≤ c0) (hl : l.length ≤ 1000) (h0 : 0 ≤ id) (h1 : id ≤ 4294967295) (hup : upB (-1) l = true) (hw : ∀ x ∈ l, wfI x = true) :
    Calls Tryd.prog 53 #[.slice A0 l.length c0, .int .u32 id] w fun e w' => e = .returned (.int .i64 (depthI l 7 0 id)) ∧ Below w.heap.size w w' :=
  tree_depth.calls 8 A0 c0 l id _ w hr0 hc0 (depth_f l hl hup hw 8 (by omega) id h0 h1)
theorem kids_c (A0 : Option Addr) (c0 : Nat) (l : List S34) (d : Int) (w : World) (hr0 : Kd.C k34 w A0 l.length l) (hc0 : l.length ≤ c0) (hl : l.length ≤ 1000) :
    Calls Tryd.prog 40 #[.slice A0 l.length c0, .int .u32 d] w fun e w' => (∃ A c, e = .returned (.slice A (kidsI l d).length c)) ∧ Below w.heap.size w w' := by
  refine (tree_kids.calls (l.length + 1) A0 c0 l d _ w hr0 hc0 (kids_f l hl d _ (by omega))).mono fun e w' hh => ?_
  obtain ⟨v, he, hr, hb⟩ := hh
  obtain ⟨A, c, rfl, _, _⟩ := Kd.R_reads hr
  exact ⟨⟨A, c, he⟩, hb⟩
theorem name_q (s : ByteArray) (w : World) : Calls Tryd.prog 52 #[.string s] w fun e w' => e = .returned (.bool (isNameB s)) ∧ ∃ m, w' = w.drewN m :=
  (tree_isName.calls s _ w rfl).mono fun e w' hh => ⟨hh.1, hh.2.out⟩
theorem adr (a : Addr) (i : Nat) : a.add ((i + 1) * 5) = (⟨a.block, a.off + 5 + i * 5, none⟩ : Addr) := by
  unfold Addr.add
  rw [if_neg (by omega)]
  congr 1
  omega
theorem wj1 (j : Nat) (h : j ≤ 1000) : IntKind.i64.wrap (((j + 1 : Nat) : Int) - 1) = (j : Int) := by
  have := IntWalk.i64_in (((j + 1 : Nat) : Int) - 1) (by omega)
  rw [this]; omega
theorem wj2 (j : Nat) (h : j ≤ 1000) : IntKind.i64.wrap ((j : Int) + 1 - 1) = (j : Int) := by
  have := IntWalk.i64_in ((j : Int) + 1 - 1) (by omega)
  rw [this]; omega
/-! ### what Right says -/
def firstB (l : List S34) (j : Nat) : Bool :=
  !(decide ((rd_T34 l ((j + 1 : Nat) : Int)).f0 ≤ (rd_T34 l (j : Int)).f0)) && isNameB (rd_T34 l ((j + 1 : Nat) : Int)).f2 && !(decide ((rd_T34 l ((j + 1 : Nat) : Int)).f4 > 1024)) && !((rd_T34 l ((j + 1 : Nat) : Int)).f3 && decide ((rd_T34 l ((j + 1 : Nat) : Int)).f4 > 0))
def secondB (l : List S34) (x : S34) : Bool :=
  (findI l x.f1).isSome && (gI (findI l x.f1)).f3 && ((gI (kidI l x.f1 x.f2)).f0 == x.f0) && decide (0 ≤ depthI l 7 0 x.f0) && decide ((kidsI l x.f1).length ≤ 12)
def rootB (x : S34) : Bool := x.f0 == 1 && x.f1 == 0 && x.f2.toList == [] && x.f3 && x.f4 == 0
def rightB (l : List S34) : Bool :=
  decide (1 ≤ l.length) && decide (l.length ≤ 40) && rootB (rd_T34 l 0) && (List.range (l.length - 1)).all (firstB l) && (List.range (l.length - 1)).all (fun j => secondB l (rd_T34 l ((j + 1 : Nat) : Int)))
def wfL (l : List S34) : Bool := l.all wfI
theorem upB_of : ∀ (l : List S34) (lo : Int), (∀ x ∈ l, lo < x.f0 ∧ x.f0 ≤ 4294967295) → (∀ j : Nat, j + 1 < l.length → (rd_T34 l (j : Int)).f0 < (rd_T34 l ((j + 1 : Nat) : Int)).f0) → upB lo l = true
  | [], _, _, _ => rfl
  | x :: t, lo, h1, h2 => by
    have hx := h1 x (List.mem_cons_self ..)
    have hs : ∀ a : Nat, a < t.length → x.f0 < (rd_T34 t (a : Int)).f0 := by
      intro a
      induction a with
      | zero =>
        intro ha
        have := h2 0 (by simp; omega)
        rw [rd34_get _ _ (by simp), rd34_get _ _ (by simp; omega)] at this
        rw [rd34_get _ _ ha]
        exact this
      | succ a ih =>
        intro ha
        have := h2 (a + 1) (by simp; omega)
        rw [rd34_get _ _ (by simp; omega), rd34_get _ _ (by simp; omega)] at this
        have h3 := ih (by omega)
        rw [rd34_get _ _ (by omega)] at h3
        rw [rd34_get _ _ ha]
        simp only [List.getElem_cons_succ] at this
        omega
    simp only [upB, Bool.and_eq_true, decide_eq_true_eq]
    refine ⟨hx, upB_of t x.f0 (fun y hy => ?_) (fun j hj => ?_)⟩
    · obtain ⟨a, ha, rfl⟩ := List.mem_iff_getElem.1 hy
      have := hs a ha
      rw [rd34_get _ _ ha] at this
      exact ⟨this, (h1 _ (List.mem_cons_of_mem _ hy)).2⟩
    · have := h2 (j + 1) (by simp; omega)
      rw [rd34_get _ _ (by simp; omega), rd34_get _ _ (by simp; omega)] at this
      rw [rd34_get _ _ (by omega), rd34_get _ _ hj]
      simpa only [List.getElem_cons_succ] using this
theorem up_of_first (l : List S34) (hw : wfL l = true) (h : ∀ j : Nat, j + 1 < l.length → firstB l j = true) : upB (-1) l = true := by
  refine upB_of l (-1) (fun x hx => ?_) (fun j hj => ?_)
  · have := (wfI_iff x).1 (List.all_eq_true.1 hw x hx)
    omega
  · have := h j hj
    unfold firstB at this
    simp only [Bool.and_eq_true, Bool.not_eq_true', decide_eq_false_iff_not] at this
    omega
def tree_Right.f (l : List S34) : Option Bool := if wfL l = true then some (rightB l) else none
set_option maxHeartbeats 4000000 in
set_option maxRecDepth 100000 in
theorem tree_Right.calls (A0 : Option Addr) (c0 : Nat) (l0 : List S34) (r : Bool) (w : World) (hr0 : Kd.C k34 w A0 l0.length l0) (hc0 : l0.length ≤ c0) (h : tree_Right.f l0 = some r) :
    Calls Tryd.prog 19 #[.slice A0 l0.length c0] w fun e w' => e = .returned (.bool r) ∧ Below w.heap.size w w' := by
  unfold tree_Right.f at h
  by_cases hwf : wfL l0 = true
  · rw [if_pos hwf] at h
    cases h
    have HR0 := Aside0.mk hr0
    have HC0 := Aside0.mk hc0
    clear hr0 hc0
    have hwf := Aside0.mk hwf
    by_cases H1 : l0.length < 1
    · have hf : rightB l0 = false := by unfold rightB; rw [decide_eq_false (show ¬ 1 ≤ l0.length by omega)]; simp
      rw [hf]
      go_enter Tryd.func19, Tryd.ntmps19
      go_wp2_with (fail)
      go_ret
      exact ⟨rfl, Below.refl _ _⟩
    by_cases H2 : 40 < l0.length
    · have hf : rightB l0 = false := by unfold rightB; rw [decide_eq_false (show ¬ l0.length ≤ 40 by omega)]; simp
      rw [hf]
      go_enter Tryd.func19, Tryd.ntmps19
      go_wp2_with (fail)
      all_goals first | (go_ret; exact ⟨rfl, Below.refl _ _⟩) | (exfalso; omega)
    obtain ⟨ad, e, z0, z1, z2, z3, z4⟩ := at_T34 HR0.out 0 (by omega) (by omega)
    cases e
    have HCR : Aside0 (∀ j : Nat, j < l0.length → w.cell? (ad.add (j * 5)) = some (.int .u32 (rd_T34 l0 j).f0) ∧ w.cell? ⟨(ad.add (j * 5)).block, (ad.add (j * 5)).off + 1, none⟩ = some (.int .u32 (rd_T34 l0 j).f1) ∧ w.cell? ⟨(ad.add (j * 5)).block, (ad.add (j * 5)).off + 2, none⟩ = some (.string (rd_T34 l0 j).f2) ∧ w.cell? ⟨(ad.add (j * 5)).block, (ad.add (j * 5)).off + 3, none⟩ = some (.bool (rd_T34 l0 j).f3) ∧ w.cell? ⟨(ad.add (j * 5)).block, (ad.add (j * 5)).off + 4, none⟩ = some (.int .u32 (rd_T34 l0 j).f4)) := ⟨fun j hj => by
      obtain ⟨ad', e, q⟩ := at_T34 HR0.out (j : Int) (by omega) (by omega)
      cases e
      simpa only [Int.toNat_natCast] using q⟩
    rw [show ((0 : Int)).toNat * 5 = 0 from rfl, Addr.add_zero'] at z0 z1 z2 z3 z4
    have hcmp : (!((rd_T34 l0 0).f0 == 1) || (!((rd_T34 l0 0).f1 == 0) || (!((rd_T34 l0 0).f2.toList == []) || (!(rd_T34 l0 0).f3 || !((rd_T34 l0 0).f4 == 0))))) = !rootB (rd_T34 l0 0) := by
      unfold rootB
      simp [Bool.not_and, Bool.or_assoc]
    have hg1 : (0 < l0.length) = True := eq_true (by omega)
    by_cases H3 : rootB (rd_T34 l0 0) = false
    · have hf : rightB l0 = false := by unfold rightB; rw [H3]; simp
      rw [hf]
      clear hcmp
      go_enter Tryd.func19, Tryd.ntmps19
      go_wp2_with (fail)
      all_goals first | (go_ret; exact ⟨rfl, Below.refl _ _⟩) | skip
      exfalso
      have q0 : (rd_T34 l0 0).f0 = 1 := by assumption
      have q1 : (rd_T34 l0 0).f1 = 0 := by assumption
      have q2 : (rd_T34 l0 0).f2.toList = [] := by assumption
      have q3 : ¬ (rd_T34 l0 0).f3 = false := by assumption
      have q4 : (rd_T34 l0 0).f4 = 0 := by assumption
      unfold rootB at H3
      rw [q0, q1, q2, q4] at H3
      simp at H3
      exact q3 H3
    · have H3' : rootB (rd_T34 l0 0) = true := by simpa using H3
      clear hcmp
      have hrootb := H3'
      unfold rootB at H3'
      simp only [Bool.and_eq_true, beq_iff_eq] at H3'
      obtain ⟨⟨⟨⟨q0, q1⟩, q2⟩, q3⟩, q4⟩ := H3'
      have hf : rightB l0 = ((List.range (l0.length - 1)).all (firstB l0) && (List.range (l0.length - 1)).all (fun j => secondB l0 (rd_T34 l0 ((j + 1 : Nat) : Int)))) := by
        unfold rightB
        rw [hrootb, decide_eq_true (show 1 ≤ l0.length by omega), decide_eq_true (show l0.length ≤ 40 by omega)]
        simp
      go_enter Tryd.func19, Tryd.ntmps19
      go_wp2_with (fail)
      go_loopw [28] (fun v28 wr => ∃ i : Nat, i ≤ l0.length ∧ v28 = .int .i64 i ∧ Aside0 (∀ j : Nat, j + 1 < i → firstB l0 j = true) ∧ Aside0 (Below w.heap.size w wr)) (fun v28 _ => l0.length - (intOf v28).toNat)
      case atStart => exact ⟨0, Nat.zero_le _, rfl, ⟨fun j hj => by omega⟩, ⟨Below.refl _ _⟩⟩
      case round =>
        obtain ⟨i, hi, rfl, HN, HB⟩ := hrel
        by_cases hlt : i < l0.length
        · obtain ⟨x0, x1, x2, x3, x4⟩ := HCR.out i hlt
          replace x0 := (HB.out.cell (World.block_lt_of_cell? w _ x0)).trans x0
          replace x1 := (HB.out.cell (World.block_lt_of_cell? w _ x1)).trans x1
          replace x2 := (HB.out.cell (World.block_lt_of_cell? w _ x2)).trans x2
          replace x3 := (HB.out.cell (World.block_lt_of_cell? w _ x3)).trans x3
          replace x4 := (HB.out.cell (World.block_lt_of_cell? w _ x4)).trans x4
          clear z0 z1 z2 z3 z4 q0 q1 q2 q3 q4 hf
          rcases Nat.eq_zero_or_pos i with h0 | h0
          · subst h0
            rw [Nat.zero_mul, Addr.add_zero'] at x0 x1 x2 x3 x4
            go_wp2_with (fail)
            refine ⟨⟨1, by omega, rfl, ⟨fun j hj => by omega⟩, ⟨below_alloc HB.out _⟩⟩, ?_⟩
            simp [intOf]
            omega
          · obtain ⟨j, rfl⟩ : ∃ j, i = j + 1 := ⟨i - 1, by omega⟩
            have hjl : j < l0.length := by omega
            obtain ⟨y0, _, _, _, _⟩ := HCR.out j hjl
            replace y0 := (HB.out.cell (World.block_lt_of_cell? w _ y0)).trans y0
            have hfj : firstB l0 j = (!(decide ((rd_T34 l0 ((j + 1 : Nat) : Int)).f0 ≤ (rd_T34 l0 (j : Int)).f0)) && isNameB (rd_T34 l0 ((j + 1 : Nat) : Int)).f2 && !(decide ((rd_T34 l0 ((j + 1 : Nat) : Int)).f4 > 1024)) && !((rd_T34 l0 ((j + 1 : Nat) : Int)).f3 && decide ((rd_T34 l0 ((j + 1 : Nat) : Int)).f4 > 0))) := rfl
            have hff : firstB l0 j = false → rightB l0 = false := by
              intro hb
              rw [Bool.eq_false_iff]
              intro hc
              unfold rightB at hc
              simp only [Bool.and_eq_true] at hc
              have := List.all_eq_true.1 hc.1.2 j (List.mem_range.2 (by omega))
              rw [hb] at this
              cases this
            have HFF := Aside0.mk hff
            have HFJ := Aside0.mk hfj
            clear hff hfj
            have hw1 := wj1 j (by omega)
            have hw2 := wj2 j (by omega)
            generalize rd_T34 l0 ((j + 1 : Nat) : Int) = x at x0 x1 x2 x3 x4 HFJ
            generalize (rd_T34 l0 (j : Int)).f0 = yy at y0 HFJ
            go_wp2_with (fail)
            have HB' := Aside0.mk (below_alloc HB.out (.cells #[.int .u32 x.f0, .int .u32 x.f1, .string x.f2, .bool x.f3, .int .u32 x.f4] 34))
            have hW : (wr.alloc (.cells #[.int .u32 x.f0, .int .u32 x.f1, .string x.f2, .bool x.f3, .int .u32 x.f4] 34)).heap[wr.heap.size]? = some (.cells #[.int .u32 x.f0, .int .u32 x.f1, .string x.f2, .bool x.f3, .int .u32 x.f4] 34 (0, 0)) := heap_alloc_new _ _
            have y0' : (wr.alloc (.cells #[.int .u32 x.f0, .int .u32 x.f1, .string x.f2, .bool x.f3, .int .u32 x.f4] 34)).cell? (ad.add (j * 5)) = some (.int .u32 yy) := ((below_alloc (Below.refl wr.heap.size wr) _).cell (World.block_lt_of_cell? _ _ y0)).trans y0
            clear x0 x1 x2 x3 x4 y0
            generalize wr.alloc (.cells #[.int .u32 x.f0, .int .u32 x.f1, .string x.f2, .bool x.f3, .int .u32 x.f4] 34) = W at HB' hW y0' ⊢
            generalize wr.heap.size = g at hW ⊢
            have k0 : W.cell? ⟨g, 0, none⟩ = some (.int .u32 x.f0) := (blk_cell hW 0).trans rfl
            have k1 : W.cell? ⟨g, 1, none⟩ = some (.int .u32 x.f1) := (blk_cell hW 1).trans rfl
            have k2 : W.cell? ⟨g, 2, none⟩ = some (.string x.f2) := (blk_cell hW 2).trans rfl
            have k3 : W.cell? ⟨g, 3, none⟩ = some (.bool x.f3) := (blk_cell hW 3).trans rfl
            have k4 : W.cell? ⟨g, 4, none⟩ = some (.int .u32 x.f4) := (blk_cell hW 4).trans rfl
            have HW := Aside0.mk hW
            clear hW
            by_cases d1 : x.f0 ≤ yy
            · have e1 : decide (x.f0 ≤ yy) = true := decide_eq_true d1
              go_quiet ((go_at_call 52; exact Calls.quiet_of (name_q _ _)))
              go_wp2_with (fail)
              rw [HFF.out (by rw [HFJ.out]; simp [d1])]
              go_ret
              exact ⟨rfl, pw_below_drewN HB'.out _⟩
            · have e1 : decide (x.f0 ≤ yy) = false := decide_eq_false d1
              cases hn : isNameB x.f2
              · go_quiet ((go_at_call 52; exact Calls.quiet_of (name_q _ _)))
                go_wp2_with (fail)
                rw [HFF.out (by rw [HFJ.out]; simp [hn])]
                go_ret
                exact ⟨rfl, pw_below_drewN HB'.out _⟩
              · by_cases d3 : 1024 < x.f4
                · have e3 : decide (1024 < x.f4) = true := decide_eq_true d3
                  go_quiet ((go_at_call 52; exact Calls.quiet_of (name_q _ _)))
                  go_wp2_with (fail)
                  rw [HFF.out (by rw [HFJ.out]; simp [d3])]
                  go_ret
                  exact ⟨rfl, pw_below_drewN HB'.out _⟩
                · have e3 : decide (1024 < x.f4) = false := decide_eq_false d3
                  cases hd : x.f3
                  · rw [hd] at k3
                    have hT : firstB l0 j = true := by rw [HFJ.out]; simp [d1, hn, d3, hd]
                    clear HFF HFJ
                    go_quiet ((go_at_call 52; exact Calls.quiet_of (name_q _ _)))
                    go_wp2_with (fail)
                    refine ⟨⟨j + 2, by omega, by go_num, ⟨fun j' hj' => ?_⟩, ⟨pw_below_drewN HB'.out _⟩⟩, by simp [intOf]; omega⟩
                    rcases Nat.lt_or_ge (j' + 1) (j + 1) with h5 | h5
                    · exact HN.out j' h5
                    · obtain rfl : j' = j := by omega
                      exact hT
                  · rw [hd] at k3
                    by_cases d5 : 0 < x.f4
                    · have e5 : decide (0 < x.f4) = true := decide_eq_true d5
                      go_quiet ((go_at_call 52; exact Calls.quiet_of (name_q _ _)))
                      go_wp2_with (fail)
                      rw [HFF.out (by rw [HFJ.out]; simp [hd, d5])]
                      go_ret
                      exact ⟨rfl, pw_below_drewN HB'.out _⟩
                    · have e5 : decide (0 < x.f4) = false := decide_eq_false d5
                      have hT : firstB l0 j = true := by rw [HFJ.out]; simp [d1, hn, d3, hd, d5]
                      clear HFF HFJ
                      go_quiet ((go_at_call 52; exact Calls.quiet_of (name_q _ _)))
                      go_wp2_with (fail)
                      refine ⟨⟨j + 2, by omega, by go_num, ⟨fun j' hj' => ?_⟩, ⟨pw_below_drewN HB'.out _⟩⟩, by simp [intOf]; omega⟩
                      rcases Nat.lt_or_ge (j' + 1) (j + 1) with h5 | h5
                      · exact HN.out j' h5
                      · obtain rfl : j' = j := by omega
                        exact hT
        · obtain rfl : i = l0.length := by omega
          clear z0 z1 z2 z3 z4
          have hup : Aside0 (upB (-1) l0 = true) := ⟨up_of_first l0 hwf.out (fun j hj => HN.out j hj)⟩
          have hf1 : (List.range (l0.length - 1)).all (firstB l0) = true := List.all_eq_true.2 fun j hj => HN.out j (by have := List.mem_range.1 hj; omega)
          rw [hf1, Bool.true_and] at hf
          have HF := Aside0.mk hf
          clear hf hf1 HN
          go_wp2_with (fail)
          · have hl1 : l0.length = 1 := by have := HC0.out; omega
            have hT : rightB l0 = true := by rw [HF.out, hl1]; rfl
            have hl2 : l0.length - 1 = 0 := by omega
            go_loopw [68] (fun v68 wq => v68 = .int .i64 0 ∧ Aside0 (Below w.heap.size w wq)) (fun _ _ => 0)
            case atStart => exact ⟨rfl, HB⟩
            case round =>
              obtain ⟨rfl, HB⟩ := hrel
              go_wp2_with (fail)
              (try rw [hT])
              go_ret
              exact ⟨rfl, HB.out⟩
          · rename_i hc1
            go_loopw [68] (fun v68 wq => ∃ i : Nat, i ≤ l0.length - 1 ∧ v68 = .int .i64 i ∧ Aside0 (∀ j : Nat, j < i → secondB l0 (rd_T34 l0 ((j + 1 : Nat) : Int)) = true) ∧ Aside0 (Below w.heap.size w wq)) (fun v68 _ => l0.length - (intOf v68).toNat)
            case atStart => exact ⟨0, Nat.zero_le _, rfl, ⟨fun j hj => by omega⟩, HB⟩
            case round =>
              clear HB
              obtain ⟨i, hi, rfl, HN, HB⟩ := hrel
              by_cases hlt : i < l0.length - 1
              · obtain ⟨x0, x1, x2, x3, x4⟩ := HCR.out (i + 1) (by omega)
                rw [show ad.add ((i + 1) * 5) = (⟨ad.block, ad.off + 5 + i * 5, none⟩ : Addr) from adr ad i] at x0 x1 x2 x3 x4
                have hwx := (wfI_iff _).1 (List.all_eq_true.1 hwf.out (rd_T34 l0 ((i + 1 : Nat) : Int)) (by rw [rd34_get _ _ (show i + 1 < l0.length by omega)]; exact List.getElem_mem _))
                have hff : secondB l0 (rd_T34 l0 ((i + 1 : Nat) : Int)) = false → rightB l0 = false := by
                  intro hb
                  rw [HF.out, Bool.eq_false_iff]
                  intro hc
                  have := List.all_eq_true.1 hc i (List.mem_range.2 hlt)
                  rw [hb] at this
                  cases this
                have HSB := Aside0.mk (rfl : secondB l0 (rd_T34 l0 ((i + 1 : Nat) : Int)) = secondB l0 (rd_T34 l0 ((i + 1 : Nat) : Int)))
                have HFF := Aside0.mk hff
                clear hff HF
                generalize hX : rd_T34 l0 ((i + 1 : Nat) : Int) = x at x0 x1 x2 x3 x4 hwx HFF HSB
                have HX := Aside0.mk hX
                clear hX
                obtain ⟨hx0, hx1, hx2, hx3, hx4, hx5⟩ := hwx
                dsimp only at x1 x2 x3 x4
                replace x0 := (HB.out.cell (World.block_lt_of_cell? w _ x0)).trans x0
                replace x1 := (HB.out.cell (World.block_lt_of_cell? w _ x1)).trans x1
                replace x2 := (HB.out.cell (World.block_lt_of_cell? w _ x2)).trans x2
                replace x3 := (HB.out.cell (World.block_lt_of_cell? w _ x3)).trans x3
                replace x4 := (HB.out.cell (World.block_lt_of_cell? w _ x4)).trans x4
                have HSB' : secondB l0 x = ((findI l0 x.f1).isSome && (gI (findI l0 x.f1)).f3 && ((gI (kidI l0 x.f1 x.f2)).f0 == x.f0) && decide (0 ≤ depthI l0 7 0 x.f0) && decide ((kidsI l0 x.f1).length ≤ 12)) := rfl
                clear HSB
                have HSB := Aside0.mk HSB'
                clear HSB'
                go_upto_region 14 with (go_at_call 51; refine (get_c (some ad) c0 l0 x.f1 _ (Kd.C_below HR0.out (below_alloc HB.out _)) HC0.out (by omega) hx2 hx3 hup.out).mono ?_; rintro e w1 ⟨rfl, hb1⟩; have BK6 := Aside0.mk (blk_below (heap_alloc_new wr _) hb1); have HB1 := Aside0.mk (below_step (below_alloc HB.out _) hb1); clear hb1; generalize wr.heap.size = g6 at BK6 ⊢; generalize gI (findI l0 x.f1) = p at HSB ⊢; generalize (findI l0 x.f1).isSome = b at HSB ⊢)
                have BK6a := Aside0.mk (blk_alloc BK6.out (.cells #[.int .u32 p.f0, .int .u32 p.f1, .string p.f2, .bool p.f3, .int .u32 p.f4] 34))
                have BK7 := Aside0.mk (heap_alloc_new w1 (.cells #[.int .u32 p.f0, .int .u32 p.f1, .string p.f2, .bool p.f3, .int .u32 p.f4] 34))
                have HB2 := Aside0.mk (below_alloc HB1.out (.cells #[.int .u32 p.f0, .int .u32 p.f1, .string p.f2, .bool p.f3, .int .u32 p.f4] 34))
                clear BK6 HB1
                generalize w1.alloc (.cells #[.int .u32 p.f0, .int .u32 p.f1, .string p.f2, .bool p.f3, .int .u32 p.f4] 34) = w2 at BK6a BK7 HB2 ⊢
                generalize w1.heap.size = g7 at BK7 ⊢
                have a61 : w2.cell? ⟨g6, 1, none⟩ = some (.int .u32 x.f1) := (blk_cell BK6a.out 1).trans rfl
                have a62 : w2.cell? ⟨g6, 2, none⟩ = some (.string x.f2) := (blk_cell BK6a.out 2).trans rfl
                go_upto_region 15 with (go_at_call 37; refine (kid_c (some ad) c0 l0 x.f1 x.f2 _ (Kd.C_below HR0.out HB2.out) HC0.out (by omega)).mono ?_; rintro e w3 ⟨rfl, hb3⟩; have BK6b := Aside0.mk (blk_below BK6a.out hb3); have BK7b := Aside0.mk (blk_below BK7.out hb3); have HB3 := Aside0.mk (below_step HB2.out hb3); clear hb3; generalize gI (kidI l0 x.f1 x.f2) = y at HSB ⊢)
                clear a61 a62 BK6a BK7 HB2
                have BK6 := Aside0.mk (blk_alloc BK6b.out (.cells #[.int .u32 y.f0, .int .u32 y.f1, .string y.f2, .bool y.f3, .int .u32 y.f4] 34))
                have BK7 := Aside0.mk (blk_alloc BK7b.out (.cells #[.int .u32 y.f0, .int .u32 y.f1, .string y.f2, .bool y.f3, .int .u32 y.f4] 34))
                have BK9 := Aside0.mk (heap_alloc_new w3 (.cells #[.int .u32 y.f0, .int .u32 y.f1, .string y.f2, .bool y.f3, .int .u32 y.f4] 34))
                have HB3' := Aside0.mk (below_alloc HB3.out (.cells #[.int .u32 y.f0, .int .u32 y.f1, .string y.f2, .bool y.f3, .int .u32 y.f4] 34))
                clear BK6b BK7b HB3
                generalize w3.alloc (.cells #[.int .u32 y.f0, .int .u32 y.f1, .string y.f2, .bool y.f3, .int .u32 y.f4] 34) = w6 at BK6 BK7 BK9 HB3' ⊢
                have HB3 := HB3'
                clear HB3'
                generalize w3.heap.size = g9 at BK9 ⊢
                have a60 : w6.cell? ⟨g6, 0, none⟩ = some (.int .u32 x.f0) := (blk_cell BK6.out 0).trans rfl
                have a61 : w6.cell? ⟨g6, 1, none⟩ = some (.int .u32 x.f1) := (blk_cell BK6.out 1).trans rfl
                have a73 : w6.cell? ⟨g7, 3, none⟩ = some (.bool p.f3) := (blk_cell BK7.out 3).trans rfl
                have a90 : w6.cell? ⟨g9, 0, none⟩ = some (.int .u32 y.f0) := (blk_cell BK9.out 0).trans rfl
                cases b
                · have hR := HFF.out (by rw [HSB.out]; simp [])
                  clear HFF HSB
                  go_wp2_with (first | (go_at_call 53; refine (depth_c (some ad) c0 l0 x.f0 _ (Kd.C_below HR0.out HB3.out) HC0.out (by omega) hx0 hx1 hup.out (List.all_eq_true.1 hwf.out)).mono ?_; rintro e w4 ⟨rfl, hb4⟩; have HB4 := Aside0.mk (below_step HB3.out hb4); have i61 : w4.cell? ⟨g6, 1, none⟩ = some (.int .u32 x.f1) := (blk_cell (blk_below BK6.out hb4) 1).trans rfl; clear hb4) | (go_at_call 40; refine (kids_c (some ad) c0 l0 x.f1 _ (Kd.C_below HR0.out HB4.out) HC0.out (by omega)).mono ?_; rintro e w5 ⟨⟨A5, c5, rfl⟩, hb5⟩; have HB5 := Aside0.mk (below_step HB4.out hb5); clear hb5))
                  (try rw [hR])
                  go_ret
                  exact ⟨rfl, HB3.out⟩
                · cases q2 : p.f3
                  · rw [q2] at a73
                    have hR := HFF.out (by rw [HSB.out]; simp [q2])
                    clear HFF HSB
                    go_wp2_with (first | (go_at_call 53; refine (depth_c (some ad) c0 l0 x.f0 _ (Kd.C_below HR0.out HB3.out) HC0.out (by omega) hx0 hx1 hup.out (List.all_eq_true.1 hwf.out)).mono ?_; rintro e w4 ⟨rfl, hb4⟩; have HB4 := Aside0.mk (below_step HB3.out hb4); have i61 : w4.cell? ⟨g6, 1, none⟩ = some (.int .u32 x.f1) := (blk_cell (blk_below BK6.out hb4) 1).trans rfl; clear hb4) | (go_at_call 40; refine (kids_c (some ad) c0 l0 x.f1 _ (Kd.C_below HR0.out HB4.out) HC0.out (by omega)).mono ?_; rintro e w5 ⟨⟨A5, c5, rfl⟩, hb5⟩; have HB5 := Aside0.mk (below_step HB4.out hb5); clear hb5))
                    (try rw [hR])
                    go_ret
                    exact ⟨rfl, HB3.out⟩
                  · rw [q2] at a73
                    cases q3 : (y.f0 == x.f0)
                    · have q3' : (y.f0 != x.f0) = true := by unfold bne; rw [q3]; rfl
                      have hR := HFF.out (by rw [HSB.out]; simp [q3])
                      clear HFF HSB
                      go_wp2_with (first | (go_at_call 53; refine (depth_c (some ad) c0 l0 x.f0 _ (Kd.C_below HR0.out HB3.out) HC0.out (by omega) hx0 hx1 hup.out (List.all_eq_true.1 hwf.out)).mono ?_; rintro e w4 ⟨rfl, hb4⟩; have HB4 := Aside0.mk (below_step HB3.out hb4); have i61 : w4.cell? ⟨g6, 1, none⟩ = some (.int .u32 x.f1) := (blk_cell (blk_below BK6.out hb4) 1).trans rfl; clear hb4) | (go_at_call 40; refine (kids_c (some ad) c0 l0 x.f1 _ (Kd.C_below HR0.out HB4.out) HC0.out (by omega)).mono ?_; rintro e w5 ⟨⟨A5, c5, rfl⟩, hb5⟩; have HB5 := Aside0.mk (below_step HB4.out hb5); clear hb5))
                      (try rw [hR])
                      go_ret
                      exact ⟨rfl, HB3.out⟩
                    · have q3' : (y.f0 != x.f0) = false := by unfold bne; rw [q3]; rfl
                      by_cases q4 : depthI l0 7 0 x.f0 < 0
                      · have e4 : decide (depthI l0 7 0 x.f0 < 0) = true := decide_eq_true q4
                        have hR := HFF.out (by rw [HSB.out]; simp [Int.not_le.mpr q4])
                        clear HFF HSB
                        go_wp2_with (first | (go_at_call 53; refine (depth_c (some ad) c0 l0 x.f0 _ (Kd.C_below HR0.out HB3.out) HC0.out (by omega) hx0 hx1 hup.out (List.all_eq_true.1 hwf.out)).mono ?_; rintro e w4 ⟨rfl, hb4⟩; have HB4 := Aside0.mk (below_step HB3.out hb4); have i61 : w4.cell? ⟨g6, 1, none⟩ = some (.int .u32 x.f1) := (blk_cell (blk_below BK6.out hb4) 1).trans rfl; clear hb4) | (go_at_call 40; refine (kids_c (some ad) c0 l0 x.f1 _ (Kd.C_below HR0.out HB4.out) HC0.out (by omega)).mono ?_; rintro e w5 ⟨⟨A5, c5, rfl⟩, hb5⟩; have HB5 := Aside0.mk (below_step HB4.out hb5); clear hb5))
                        (try rw [hR])
                        go_ret
                        exact ⟨rfl, HB4.out⟩
                      · have e4 : decide (depthI l0 7 0 x.f0 < 0) = false := decide_eq_false q4
                        by_cases q5 : 12 < (kidsI l0 x.f1).length
                        · have e5 : decide ((12 : Int) < ((kidsI l0 x.f1).length : Int)) = true := decide_eq_true (by omega)
                          have hR := HFF.out (by rw [HSB.out]; simp [Nat.not_le.mpr q5])
                          clear HFF HSB
                          go_wp2_with (first | (go_at_call 53; refine (depth_c (some ad) c0 l0 x.f0 _ (Kd.C_below HR0.out HB3.out) HC0.out (by omega) hx0 hx1 hup.out (List.all_eq_true.1 hwf.out)).mono ?_; rintro e w4 ⟨rfl, hb4⟩; have HB4 := Aside0.mk (below_step HB3.out hb4); have i61 : w4.cell? ⟨g6, 1, none⟩ = some (.int .u32 x.f1) := (blk_cell (blk_below BK6.out hb4) 1).trans rfl; clear hb4) | (go_at_call 40; refine (kids_c (some ad) c0 l0 x.f1 _ (Kd.C_below HR0.out HB4.out) HC0.out (by omega)).mono ?_; rintro e w5 ⟨⟨A5, c5, rfl⟩, hb5⟩; have HB5 := Aside0.mk (below_step HB4.out hb5); clear hb5))
                          (try rw [hR])
                          go_ret
                          exact ⟨rfl, HB5.out⟩
                        · have e5 : decide ((12 : Int) < ((kidsI l0 x.f1).length : Int)) = false := decide_eq_false (by omega)
                          have hT : secondB l0 x = true := by
                            rw [HSB.out, q2, q3, decide_eq_true (show 0 ≤ depthI l0 7 0 x.f0 by omega), decide_eq_true (show (kidsI l0 x.f1).length ≤ 12 by omega)]
                            rfl
                          clear HSB HFF
                          go_wp2_with (first | (go_at_call 53; refine (depth_c (some ad) c0 l0 x.f0 _ (Kd.C_below HR0.out HB3.out) HC0.out (by omega) hx0 hx1 hup.out (List.all_eq_true.1 hwf.out)).mono ?_; rintro e w4 ⟨rfl, hb4⟩; have HB4 := Aside0.mk (below_step HB3.out hb4); have i61 : w4.cell? ⟨g6, 1, none⟩ = some (.int .u32 x.f1) := (blk_cell (blk_below BK6.out hb4) 1).trans rfl; clear hb4) | (go_at_call 40; refine (kids_c (some ad) c0 l0 x.f1 _ (Kd.C_below HR0.out HB4.out) HC0.out (by omega)).mono ?_; rintro e w5 ⟨⟨A5, c5, rfl⟩, hb5⟩; have HB5 := Aside0.mk (below_step HB4.out hb5); clear hb5))
                          refine ⟨⟨i + 1, by omega, by go_num, ⟨fun j' hj' => ?_⟩, HB5⟩, by simp [intOf]; omega⟩
                          rcases Nat.lt_or_ge j' i with h5 | h5
                          · exact HN.out j' h5
                          · obtain rfl : j' = i := by omega
                            rw [HX.out]
                            exact hT
              · obtain rfl : i = l0.length - 1 := by omega
                have hT : rightB l0 = true := by
                  rw [HF.out]
                  exact List.all_eq_true.2 fun j hj => HN.out j (List.mem_range.1 hj)
                go_wp2_with (fail)
                rw [hT]
                go_ret
                exact ⟨rfl, HB.out⟩
  · rw [if_neg hwf] at h
    cases h
end Go.Proofs.YthbdgahmlggpmaaDoor.Q
/- The contract of tree.within, by its closure's. -/




namespace Go.Proofs.YthbdgahmlggpmaaDoor.Q
open Go.RowKit Go.Proofs.YthbdgahmlggpmaaDoorW.PrintWords Go.Proofs.YthbdgahmlggpmaaDoorW.PrintLast Go.Proofs.YthbdgahmlggpmaaDoorW.PrintMore
set_option linter.unusedVariables false
set_option linter.unusedSimpArgs false
def inUp (l : List S34) (inn : Int) : Nat → Int → Option Bool
  | 0, _ => none
  | m + 1, id => if id = inn then some true else if (findI l id).isSome = true then (if id = 1 then some false else inUp l inn m (gI (findI l id)).f1) else some false
def okL (l : List S34) : Bool := decide (l.length ≤ 1000) && upB (-1) l && wfL l
theorem findI_wf {l : List S34} {id : Int} (hw : wfL l = true) (h : (findI l id).isSome = true) : wfI (gI (findI l id)) = true := by
  cases hf : findI l id with
  | none => rw [hf] at h; cases h
  | some p => exact List.all_eq_true.1 hw p (findI_mem hf).1
theorem keep_alloc' {w w1 : World} (h : Below w.heap.size w w1) (o : Obj) (a : Addr) (v : Value) (hc : w.cell? a = some v) : (w1.alloc o).cell? a = some v :=
  ((below_alloc h o).cell (World.block_lt_of_cell? w _ hc)).trans hc
set_option maxHeartbeats 4000000 in
set_option maxRecDepth 100000 in
theorem up.calls (A0 : Option Addr) (c0 : Nat) (l : List S34) (inn : Int) (gT gN gU : Nat) (hc0 : l.length ≤ c0) (hl : l.length ≤ 1000) (hup : upB (-1) l = true) (hw : wfL l = true) : ∀ (m : Nat) (id : Int) (r : Bool) (w : World),
    Kd.C k34 w A0 l.length l → w.cell? ⟨gT, 0, none⟩ = some (.slice A0 l.length c0) → w.cell? ⟨gN, 0, none⟩ = some (.int .u32 inn) → w.cell? ⟨gU, 0, none⟩ = some (.func (.func 61) #[] #[.pointer (some ⟨gT, 0, none⟩), .pointer (some ⟨gN, 0, none⟩), .pointer (some ⟨gU, 0, none⟩)]) →
    0 ≤ id → id ≤ 4294967295 → inUp l inn m id = some r →
    Calls Tryd.prog 61 #[.int .u32 id, .pointer (some ⟨gT, 0, none⟩), .pointer (some ⟨gN, 0, none⟩), .pointer (some ⟨gU, 0, none⟩)] w fun e w' => e = .returned (.bool r) ∧ Below w.heap.size w w' := by
  intro m
  induction m with
  | zero => intro id r w _ _ _ _ _ _ h; cases h
  | succ m ih =>
    intro id r w hr0 hT hN hU h0 h1 h
    have HR0 := Aside0.mk hr0
    have HC0 := Aside0.mk hc0
    have HUP := Aside0.mk hup
    have HWF := Aside0.mk hw
    have HIH := Aside0.mk ih
    have HT := Aside0.mk hT
    have HN := Aside0.mk hN
    have HU := Aside0.mk hU
    have HH := Aside0.mk h
    clear hr0 hc0 hup hw ih hN hU h
    go_enter Tryd.func61, Tryd.ntmps61
    go_upto_region 2 with (go_at_call 51; refine (get_c A0 c0 l id _ HR0.out HC0.out hl h0 h1 HUP.out).mono ?_; rintro e w1 ⟨rfl, hb1⟩; have HB1 := Aside0.mk hb1; clear hb1)
    have hN2 : (w1.alloc (.cells #[.int .u32 (gI (findI l id)).f0, .int .u32 (gI (findI l id)).f1, .string (gI (findI l id)).f2, .bool (gI (findI l id)).f3, .int .u32 (gI (findI l id)).f4] 34)).cell? ⟨gN, 0, none⟩ = some (.int .u32 inn) := keep_alloc' HB1.out _ _ _ HN.out
    have hU2 : (w1.alloc (.cells #[.int .u32 (gI (findI l id)).f0, .int .u32 (gI (findI l id)).f1, .string (gI (findI l id)).f2, .bool (gI (findI l id)).f3, .int .u32 (gI (findI l id)).f4] 34)).cell? ⟨gU, 0, none⟩ = some (.func (.func 61) #[] #[.pointer (some ⟨gT, 0, none⟩), .pointer (some ⟨gN, 0, none⟩), .pointer (some ⟨gU, 0, none⟩)]) := keep_alloc' HB1.out _ _ _ HU.out
    have hT2 := Aside0.mk (keep_alloc' HB1.out (.cells #[.int .u32 (gI (findI l id)).f0, .int .u32 (gI (findI l id)).f1, .string (gI (findI l id)).f2, .bool (gI (findI l id)).f3, .int .u32 (gI (findI l id)).f4] 34) _ _ HT.out)
    have BK := heap_alloc_new w1 (.cells #[.int .u32 (gI (findI l id)).f0, .int .u32 (gI (findI l id)).f1, .string (gI (findI l id)).f2, .bool (gI (findI l id)).f3, .int .u32 (gI (findI l id)).f4] 34)
    have HB2 := Aside0.mk (below_alloc HB1.out (.cells #[.int .u32 (gI (findI l id)).f0, .int .u32 (gI (findI l id)).f1, .string (gI (findI l id)).f2, .bool (gI (findI l id)).f3, .int .u32 (gI (findI l id)).f4] 34))
    clear HB1 hT
    have HH2 := Aside0.mk (show (if id = inn then some true else if (findI l id).isSome = true then (if id = 1 then some false else inUp l inn m (gI (findI l id)).f1) else some false) = some r from HH.out)
    clear HH
    have hwfp := Aside0.mk (findI_wf (l := l) (id := id) HWF.out)
    generalize gI (findI l id) = p at BK HB2 hN2 hU2 hT2 HH2 hwfp ⊢
    generalize (findI l id).isSome = b at HH2 hwfp ⊢
    generalize w1.alloc (.cells #[.int .u32 p.f0, .int .u32 p.f1, .string p.f2, .bool p.f3, .int .u32 p.f4] 34) = w2 at BK HB2 hN2 hU2 hT2 ⊢
    generalize w1.heap.size = g6 at BK ⊢
    have k1 : w2.cell? ⟨g6, 1, none⟩ = some (.int .u32 p.f1) := (blk_cell BK 1).trans rfl
    clear BK
    by_cases c1 : id = inn
    · have e1 : (id == inn) = true := beq_iff_eq.2 c1
      have hr := HH2.out
      rw [if_pos c1] at hr
      cases hr
      clear HH2
      go_wp2_with (fail)
      go_ret
      exact ⟨rfl, HB2.out⟩
    · have e1 : (id == inn) = false := beq_eq_false_iff_ne.2 c1
      have hr := HH2.out
      rw [if_neg c1] at hr
      clear HH2
      cases b
      · rw [if_neg (by decide)] at hr
        cases hr
        go_wp2_with (fail)
        go_ret
        exact ⟨rfl, HB2.out⟩
      · rw [if_pos rfl] at hr
        by_cases c2 : id = 1
        · rw [if_pos c2] at hr
          cases hr
          subst c2
          go_wp2_with (fail)
          go_ret
          exact ⟨rfl, HB2.out⟩
        · have e2 : (id != 1) = true := bne_iff_ne.2 c2
          rw [if_neg c2] at hr
          have hp := (wfI_iff p).1 (hwfp.out rfl)
          have HR3 := Aside0.mk hr
          clear hr
          go_wp2_with (go_at_call 61; refine (HIH.out p.f1 r _ (Kd.C_below HR0.out HB2.out) hT2.out hN2 hU2 hp.2.2.1 hp.2.2.2.1 HR3.out).mono ?_; rintro e w3 ⟨rfl, hb3⟩; have HB3 := Aside0.mk (below_step HB2.out hb3); clear hb3)
          go_ret
          exact ⟨rfl, HB3.out⟩
def tree_within.f (l : List S34) (id inn : Int) : Option Bool := if okL l = true ∧ 0 ≤ id ∧ id ≤ 4294967295 then inUp l inn 50 id else none
set_option maxHeartbeats 4000000 in
set_option maxRecDepth 100000 in
theorem tree_within.calls (A0 : Option Addr) (c0 : Nat) (l0 : List S34) (a1 a2 : Int) (r : Bool) (w : World) (hr0 : Kd.C k34 w A0 l0.length l0) (hc0 : l0.length ≤ c0) (h : tree_within.f l0 a1 a2 = some r) :
    Calls Tryd.prog 38 #[.slice A0 l0.length c0, .int .u32 a1, .int .u32 a2] w fun e w' => e = .returned (.bool r) ∧ Below w.heap.size w w' := by
  unfold tree_within.f at h
  by_cases hd : okL l0 = true ∧ 0 ≤ a1 ∧ a1 ≤ 4294967295
  · rw [if_pos hd] at h
    obtain ⟨hok, h0, h1⟩ := hd
    unfold okL at hok
    simp only [Bool.and_eq_true, decide_eq_true_eq] at hok
    obtain ⟨⟨hl, hup⟩, hw⟩ := hok
    have HR0 := Aside0.mk hr0
    have HC0 := Aside0.mk hc0
    have HUP := Aside0.mk hup
    have HWF := Aside0.mk hw
    have HH := Aside0.mk h
    clear hr0 hc0 hup hw h
    have hi87 : Aside0 ((Tryd.prog.info? 87).map (·.size) = some 1) := ⟨by kernel_rfl⟩
    obtain ⟨W3, hW3⟩ : ∃ W3, W3 = ((w.alloc (.cells #[.slice A0 l0.length c0] 22)).alloc (.cells #[.int .u32 a2] 31)).alloc (.cells #[.nilFunc] 87) := ⟨_, rfl⟩
    have s1 : (w.alloc (.cells #[.slice A0 l0.length c0] 22)).heap.size = w.heap.size + 1 := by simp
    have s2 : ((w.alloc (.cells #[.slice A0 l0.length c0] 22)).alloc (.cells #[.int .u32 a2] 31)).heap.size = w.heap.size + 1 + 1 := by simp
    have B2 : W3.heap[w.heap.size + 1 + 1]? = some (.cells #[.nilFunc] 87 (0, 0)) := by rw [hW3, ← s2]; exact heap_alloc_new _ _
    have B1 : W3.heap[w.heap.size + 1]? = some (.cells #[.int .u32 a2] 31 (0, 0)) := by rw [hW3, ← s1]; exact blk_alloc (heap_alloc_new _ _) _
    have B0 : W3.heap[w.heap.size]? = some (.cells #[.slice A0 l0.length c0] 22 (0, 0)) := by rw [hW3]; exact blk_alloc (blk_alloc (heap_alloc_new _ _) _) _
    have BB : Below w.heap.size w W3 := by rw [hW3]; exact below_alloc (below_alloc (below_alloc (Below.refl _ _) _) _) _
    have HB2 := Aside0.mk B2
    have HW3 := Aside0.mk hW3
    have C1 := Aside0.mk ((setRow_other W3 (w.heap.size + 1 + 1) (w.heap.size + 1) #[.func (.func 61) #[] #[.pointer (some ⟨w.heap.size, 0, none⟩), .pointer (some ⟨w.heap.size + 1, 0, none⟩), .pointer (some ⟨w.heap.size + 1 + 1, 0, none⟩)]] (by omega)).trans B1)
    have C0 := Aside0.mk ((setRow_other W3 (w.heap.size + 1 + 1) (w.heap.size) #[.func (.func 61) #[] #[.pointer (some ⟨w.heap.size, 0, none⟩), .pointer (some ⟨w.heap.size + 1, 0, none⟩), .pointer (some ⟨w.heap.size + 1 + 1, 0, none⟩)]] (by omega)).trans B0)
    have C2 := Aside0.mk (setRow_heap W3 (w.heap.size + 1 + 1) #[.nilFunc] #[.func (.func 61) #[] #[.pointer (some ⟨w.heap.size, 0, none⟩), .pointer (some ⟨w.heap.size + 1, 0, none⟩), .pointer (some ⟨w.heap.size + 1 + 1, 0, none⟩)]] 87 (0, 0) B2)
    have CB := Aside0.mk (below_setRow BB (show w.heap.size ≤ w.heap.size + 1 + 1 by omega) #[.func (.func 61) #[] #[.pointer (some ⟨w.heap.size, 0, none⟩), .pointer (some ⟨w.heap.size + 1, 0, none⟩), .pointer (some ⟨w.heap.size + 1 + 1, 0, none⟩)]])
    clear B0 B1 B2 BB s1 s2 hW3
    go_enter Tryd.func38, Tryd.ntmps38
    go_upto_region 3 with ((rw [← HW3.out]; refine wpList_store_one rfl 87 (.tmp 7) (.tmp 8) rfl (w.heap.size + 1 + 1) rfl rfl 87 .nilFunc HB2.out hi87.out ?_))
    change Code.wp _ _ _ _ (W3.setRow (w.heap.size + 1 + 1) #[.func (.func 61) #[] #[.pointer (some ⟨w.heap.size, 0, none⟩), .pointer (some ⟨w.heap.size + 1, 0, none⟩), .pointer (some ⟨w.heap.size + 1 + 1, 0, none⟩)]])
    clear HW3 HB2
    generalize W3.setRow (w.heap.size + 1 + 1) #[.func (.func 61) #[] #[.pointer (some ⟨w.heap.size, 0, none⟩), .pointer (some ⟨w.heap.size + 1, 0, none⟩), .pointer (some ⟨w.heap.size + 1 + 1, 0, none⟩)]] = W4 at C0 C1 C2 CB ⊢
    have c0' : W4.cell? ⟨w.heap.size, 0, none⟩ = some (.slice A0 l0.length c0) := (blk_cell C0.out 0).trans rfl
    have c1' : W4.cell? ⟨w.heap.size + 1, 0, none⟩ = some (.int .u32 a2) := (blk_cell C1.out 0).trans rfl
    have c2' : W4.cell? ⟨w.heap.size + 1 + 1, 0, none⟩ = some (.func (.func 61) #[] #[.pointer (some ⟨w.heap.size, 0, none⟩), .pointer (some ⟨w.heap.size + 1, 0, none⟩), .pointer (some ⟨w.heap.size + 1 + 1, 0, none⟩)]) := (blk_cell C2.out 0).trans rfl
    go_wp2_with (go_at_call 61; refine (up.calls A0 c0 l0 a2 w.heap.size (w.heap.size + 1) (w.heap.size + 1 + 1) HC0.out hl HUP.out HWF.out 50 a1 r _ (Kd.C_below HR0.out CB.out) c0' c1' c2' h0 h1 HH.out).mono ?_; rintro e w5 ⟨rfl, hb5⟩; have HB5 := Aside0.mk (below_step CB.out hb5); clear hb5)
    go_ret
    exact ⟨rfl, HB5.out⟩
  · rw [if_neg hd] at h
    cases h
end Go.Proofs.YthbdgahmlggpmaaDoor.Q
