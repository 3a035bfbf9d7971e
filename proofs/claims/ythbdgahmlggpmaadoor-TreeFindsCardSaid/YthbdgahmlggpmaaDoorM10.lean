/- Contracts and plain theory of this seat, merged out of smaller texts: T10, T10b, T11, T11b, T12, T14, T16. -/
import Derived.Test.YthbdgahmlggpmaaDoorM9
import Derived.Test.YthbdgahmlggpmaaDoorM1
import Derived.Test.YthbdgahmlggpmaaDoorQ4
import Derived.Test.YthbdgahmlggpmaaDoorQ5
import Derived.Laws.CopyOwn
import Derived.Test.YthbdgahmlggpmaaDoorM5
import Derived.Test.YthbdgahmlggpmaaDoorQ1
/- The contracts of tree.begin and tree.Find, and what walk and above answer, in plain Lean. -/





namespace Go.Proofs.YthbdgahmlggpmaaDoor.Q
open Go.RowKit Go.Proofs.YthbdgahmlggpmaaDoorW.PrintWords Go.Proofs.YthbdgahmlggpmaaDoorW.PrintLast Go.Proofs.YthbdgahmlggpmaaDoorW.PrintMore
set_option linter.unusedVariables false
set_option linter.unusedSimpArgs false
def walkI (l : List S34) : List ByteArray → S34 → S34 × Int
  | [], x => (x, 0)
  | n :: ns, x => if x.f3 = true then (match kidI l x.f0 n with | some k => walkI l ns k | none => (zI, 7)) else (zI, 10)
theorem walk_loop (l : List S34) (hl : l.length ≤ 1000) (names : List ByteArray) (hn : names.length ≤ 1000) : ∀ (d k i : Nat) (x : S34), i + d = names.length → l.length + d < k → tree_walk.l0 k l names (names.length : Int) (i : Int) x.f0 x.f1 x.f2 x.f3 x.f4 = some ((walkI l (names.drop i) x).1.f0, (walkI l (names.drop i) x).1.f1, (walkI l (names.drop i) x).1.f2, (walkI l (names.drop i) x).1.f3, (walkI l (names.drop i) x).1.f4, (walkI l (names.drop i) x).2) := by
  intro d
  induction d with
  | zero =>
    intro k i x hi hk
    obtain ⟨k, rfl⟩ : ∃ m, k = m + 1 := ⟨k - 1, by omega⟩
    simp only [tree_walk.l0]
    rw [if_neg (by omega), List.drop_eq_nil_of_le (by omega)]
    rfl
  | succ d ih =>
    intro k i x hi hk
    obtain ⟨k, rfl⟩ : ∃ m, k = m + 1 := ⟨k - 1, by omega⟩
    simp only [tree_walk.l0]
    rw [if_pos (by omega), if_pos (by omega), if_pos (by omega), List.drop_eq_getElem_cons (show i < names.length by omega)]
    have e : rdOf ByteArray.empty names (i : Int) = names[i]'(by omega) := by simp [rdOf, List.getD_eq_getElem?_getD, show i < names.length by omega]
    rw [e]
    simp only [walkI]
    by_cases h1 : x.f3 = true
    · rw [if_pos h1, if_pos h1, kid_f l (by unfold maxLen; omega) _ _ k (by omega)]
      cases hk2 : kidI l x.f0 (names[i]'(by omega)) with
      | none => rfl
      | some q =>
        have h9 := ih k (i + 1) q (by omega) (by omega)
        rw [show ((i + 1 : Nat) : Int) = (i : Int) + 1 by omega] at h9
        rw [wrap_in (by omega) (by omega)]
        exact h9
    · rw [if_neg h1, if_neg h1]
      rfl
theorem walk_f (l : List S34) (hl : l.length ≤ 1000) (hp : 0 < l.length) (names : List ByteArray) (hn : names.length ≤ 1000) (k : Nat) (hk : l.length + names.length < k) : tree_walk.f k l names = some ((walkI l names (rd_T34 l 0)).1.f0, (walkI l names (rd_T34 l 0)).1.f1, (walkI l names (rd_T34 l 0)).1.f2, (walkI l names (rd_T34 l 0)).1.f3, (walkI l names (rd_T34 l 0)).1.f4, (walkI l names (rd_T34 l 0)).2) := by
  unfold tree_walk.f
  rw [if_pos (by omega)]
  exact walk_loop l hl names hn names.length k 0 _ (by omega) hk
theorem walk_c (A0 : Option Addr) (c0 : Nat) (l : List S34) (A1 : Option Addr) (c1 : Nat) (names : List ByteArray) (w : World) (hr0 : Kd.C k34 w A0 l.length l) (hc0 : l.length ≤ c0) (hr1 : Kd.C Kd.string w A1 names.length names) (hc1 : names.length ≤ c1) (hl : l.length ≤ 1000) (hp : 0 < l.length) (hn : names.length ≤ 1000) :
    Calls Tryd.prog 35 #[.slice A0 l.length c0, .slice A1 names.length c1] w fun e w' => e = .returned (.tuple #[.agg #[.int .u32 (walkI l names (rd_T34 l 0)).1.f0, .int .u32 (walkI l names (rd_T34 l 0)).1.f1, .string (walkI l names (rd_T34 l 0)).1.f2, .bool (walkI l names (rd_T34 l 0)).1.f3, .int .u32 (walkI l names (rd_T34 l 0)).1.f4], .int .i64 (walkI l names (rd_T34 l 0)).2]) ∧ Below w.heap.size w w' :=
  tree_walk.calls (l.length + names.length + 1) A0 c0 l A1 c1 names _ _ _ _ _ _ w hr0 hc0 hr1 hc1 (walk_f l hl hp names hn _ (by omega))
theorem rightB_len {l : List S34} (h : rightB l = true) : 1 ≤ l.length ∧ l.length ≤ 40 := by
  unfold rightB at h
  simp only [Bool.and_eq_true, decide_eq_true_eq] at h
  exact ⟨h.1.1.1.1, h.1.1.1.2⟩
theorem splitF_len (s : ByteArray) : (splitF s).1.length ≤ 6 := by
  unfold splitF
  split
  · simp
  · split
    · simp
    · rename_i h
      simp only [Bool.or_eq_true, decide_eq_true_eq, not_or] at h
      split
      · simp only [List.length_tail]; omega
      · simp
def beginF (l : List S34) (s : ByteArray) : List ByteArray × Int := if rightB l = true then splitF s else ([], 1)
theorem right_c (A0 : Option Addr) (c0 : Nat) (l : List S34) (w : World) (hr0 : Kd.C k34 w A0 l.length l) (hc0 : l.length ≤ c0) (hw : wfL l = true) : Calls Tryd.prog 19 #[.slice A0 l.length c0] w fun e w' => e = .returned (.bool (rightB l)) ∧ Below w.heap.size w w' :=
  tree_Right.calls A0 c0 l _ w hr0 hc0 (by unfold tree_Right.f; rw [if_pos hw])
theorem split_c (s : ByteArray) (w : World) (hs : s.size ≤ 100000) : Calls Tryd.prog 27 #[.string s] w fun e w' => (∃ A c, e = .returned (.tuple #[.slice A (splitF s).1.length c, .int .i64 (splitF s).2]) ∧ (splitF s).1.length ≤ c ∧ Kd.C Kd.string w' A (splitF s).1.length (splitF s).1) ∧ Below w.heap.size w w' :=
  tree_Split.calls s _ _ w (by unfold tree_Split.f; rw [if_pos hs])
set_option maxHeartbeats 4000000 in
set_option maxRecDepth 100000 in
theorem begin_c (A0 : Option Addr) (c0 : Nat) (l : List S34) (s : ByteArray) (w : World) (hr0 : Kd.C k34 w A0 l.length l) (hc0 : l.length ≤ c0) (hw : wfL l = true) (hs : s.size ≤ 100000) :
    Calls Tryd.prog 34 #[.slice A0 l.length c0, .string s] w fun e w' => (∃ A c, e = .returned (.tuple #[.slice A (beginF l s).1.length c, .int .i64 (beginF l s).2]) ∧ (beginF l s).1.length ≤ c ∧ Kd.C Kd.string w' A (beginF l s).1.length (beginF l s).1) ∧ Below w.heap.size w w' := by
  have HR0 := Aside0.mk hr0
  have HC0 := Aside0.mk hc0
  have HW := Aside0.mk hw
  clear hr0 hc0 hw
  cases hr : rightB l
  · have hb : beginF l s = ([], 1) := by unfold beginF; rw [hr]; rfl
    rw [hb]
    clear hb
    go_enter Tryd.func34, Tryd.ntmps34
    go_wp2_with (go_at_call 19; refine (right_c A0 c0 l _ HR0.out HC0.out HW.out).mono ?_; rintro e w1 ⟨rfl, hb1⟩; have HB1 := Aside0.mk hb1; clear hb1)
    go_ret2
    exact ⟨⟨_, _, rfl, Nat.le_refl _, Kd.C_nil _ _⟩, HB1.out⟩
  · have hb : beginF l s = splitF s := by unfold beginF; rw [hr]; rfl
    rw [hb]
    clear hb
    go_enter Tryd.func34, Tryd.ntmps34
    go_wp2_with (first | (go_at_call 19; refine (right_c A0 c0 l _ HR0.out HC0.out HW.out).mono ?_; rintro e w1 ⟨rfl, hb1⟩; have HB1 := Aside0.mk hb1; clear hb1) | (go_at_call 27; refine (split_c s _ hs).mono ?_; rintro e w2 ⟨⟨A1, c1, rfl, hc1, hr1⟩, hb2⟩; have HC1 := Aside0.mk hc1; have HR1 := Aside0.mk hr1; have HB2 := Aside0.mk (below_step HB1.out hb2); clear hc1 hr1 hb2))
    go_ret2
    exact ⟨⟨A1, c1, rfl, HC1.out, HR1.out⟩, HB2.out⟩
end Go.Proofs.YthbdgahmlggpmaaDoor.Q
/- The contract of tree.Find. -/

namespace Go.Proofs.YthbdgahmlggpmaaDoor.Q
open Go.RowKit Go.Proofs.YthbdgahmlggpmaaDoorW.PrintWords Go.Proofs.YthbdgahmlggpmaaDoorW.PrintLast Go.Proofs.YthbdgahmlggpmaaDoorW.PrintMore
set_option linter.unusedVariables false
set_option linter.unusedSimpArgs false
def findF (l : List S34) (s : ByteArray) : S34 × Int := if (beginF l s).2 = 0 then walkI l (beginF l s).1 (rd_T34 l 0) else (zI, (beginF l s).2)
theorem begin_ok {l : List S34} {s : ByteArray} (h : (beginF l s).2 = 0) : rightB l = true := by
  unfold beginF at h
  split at h
  · assumption
  · cases h
theorem begin_len (l : List S34) (s : ByteArray) : (beginF l s).1.length ≤ 6 := by
  unfold beginF
  split
  · exact splitF_len s
  · simp
set_option maxHeartbeats 4000000 in
set_option maxRecDepth 100000 in
theorem find_c (A0 : Option Addr) (c0 : Nat) (l : List S34) (s : ByteArray) (w : World) (hr0 : Kd.C k34 w A0 l.length l) (hc0 : l.length ≤ c0) (hw : wfL l = true) (hs : s.size ≤ 100000) :
    Calls Tryd.prog 26 #[.slice A0 l.length c0, .string s] w fun e w' => e = .returned (.tuple #[.agg #[.int .u32 (findF l s).1.f0, .int .u32 (findF l s).1.f1, .string (findF l s).1.f2, .bool (findF l s).1.f3, .int .u32 (findF l s).1.f4], .int .i64 (findF l s).2]) ∧ Below w.heap.size w w' := by
  have HR0 := Aside0.mk hr0
  have HC0 := Aside0.mk hc0
  have HW := Aside0.mk hw
  have hlen := begin_len l s
  have hok := Aside0.mk (fun h => rightB_len (begin_ok (l := l) (s := s) h))
  have hF := Aside0.mk (show findF l s = if (beginF l s).2 = 0 then walkI l (beginF l s).1 (rd_T34 l 0) else (zI, (beginF l s).2) from rfl)
  obtain ⟨fs, hu34'⟩ : ∃ fs, Tryd.prog.underlying 34 = some (.struct fs) := ⟨_, rfl⟩
  have hu34 := Aside0.mk hu34'
  have hi34 : Aside0 ((Tryd.prog.info? 34).map (·.size) = some 5) := ⟨by kernel_rfl⟩
  have hz34 : ∀ w, (zeroValue 34).run Tryd.prog w = .ok (.agg #[.int .u32 0, .int .u32 0, .string ⟨#[]⟩, .bool false, .int .u32 0]) w := fun w => by kernel_rfl
  clear hr0 hc0 hw hu34'
  have hB := Aside0.mk (begin_c A0 c0 l s (w.alloc (.cells #[.int .u32 0, .int .u32 0, .string ⟨#[]⟩, .bool false, .int .u32 0] 34)) (Kd.C_alloc HR0.out _) HC0.out HW.out hs)
  generalize findF l s = res at hF ⊢
  generalize beginF l s = b at hF hB hok hlen
  obtain ⟨b1, b2⟩ := b
  go_enter Tryd.func26, Tryd.ntmps26
  go_upto_region 2 with (go_at_call 34; refine hB.out.mono ?_; rintro e w1 ⟨⟨A1, c1, rfl, hc1, hr1⟩, hb1⟩; have HC1 := Aside0.mk hc1; have HR1 := Aside0.mk hr1; have HZ := Aside0.mk (blk_below (heap_alloc_new w _) hb1); have HB1 := Aside0.mk (below_step (below_alloc (Below.refl w.heap.size w) _) hb1); clear hc1 hr1 hb1)
  by_cases h0 : b2 = 0
  · have hR : res = walkI l b1 (rd_T34 l 0) := by have := hF.out; rwa [if_pos h0] at this
    obtain ⟨hl1, hl2⟩ := hok.out h0
    subst h0
    clear hF hok hB
    have hlen : b1.length ≤ 6 := hlen
    have hWK' := walk_c A0 c0 l A1 c1 b1 w1 (Kd.C_below HR0.out HB1.out) HC0.out HR1.out HC1.out (by omega) (by omega) (by omega)
    rw [← hR] at hWK'
    have hWK := Aside0.mk hWK'
    clear hWK' hR
    obtain ⟨q, eq⟩ := res
    go_wp2_with (first | (go_at_call 35; refine hWK.out.mono ?_; rintro e w2 ⟨rfl, hb2⟩; have HZ2 := Aside0.mk (blk_below HZ.out hb2); have HB2 := Aside0.mk (below_step HB1.out hb2); clear hb2) | (refine wpList_store_row rfl 34 (.tmp 4) (.tmp 21) rfl w.heap.size #[.int .u32 q.f0, .int .u32 q.f1, .string q.f2, .bool q.f3, .int .u32 q.f4] rfl rfl 34 _ HZ2.out hi34.out rfl ?hone ?_; (case hone => simp [Value.oneCell'])))
    refine bodyPost_ret (results_ct rfl _ _ w.heap.size 34 #[.int .u32 q.f0, .int .u32 q.f1, .string q.f2, .bool q.f3, .int .u32 q.f4] (0, 0) (.struct fs) rfl ?h1 hu34.out rfl hi34.out) rfl ⟨?hv, ?h2⟩
    case hv => rfl
    case h1 => exact setRow_heap _ _ _ _ _ _ HZ2.out
    case h2 => exact below_setRow HB2.out (Nat.le_refl _) _
  · have hR : res = (zI, b2) := by have := hF.out; rwa [if_neg h0] at this
    subst hR
    have e0 : (b2 != 0) = true := bne_iff_ne.2 h0
    clear hF hok hB
    go_wp2_with (refine wpList_store_row rfl 34 (.tmp 4) (.tmp 16) rfl w.heap.size #[.int .u32 0, .int .u32 0, .string ⟨#[]⟩, .bool false, .int .u32 0] rfl rfl 34 _ HZ.out hi34.out rfl ?kone ?_; (case kone => simp [Value.oneCell']))
    refine bodyPost_ret (results_ct rfl _ _ w.heap.size 34 #[.int .u32 0, .int .u32 0, .string ⟨#[]⟩, .bool false, .int .u32 0] (0, 0) (.struct fs) rfl ?k1 hu34.out rfl hi34.out) rfl ⟨?kv, ?k2⟩
    case kv => rfl
    case k1 => exact setRow_heap _ _ _ _ _ _ HZ.out
    case k2 => exact below_setRow HB1.out (Nat.le_refl _) _
def tree_Find.f (l : List S34) (s : ByteArray) : Option (Int × Int × ByteArray × Bool × Int × Int) := if wfL l = true ∧ s.size ≤ 100000 then some ((findF l s).1.f0, (findF l s).1.f1, (findF l s).1.f2, (findF l s).1.f3, (findF l s).1.f4, (findF l s).2) else none
theorem tree_Find.calls (A0 : Option Addr) (c0 : Nat) (l0 : List S34) (a1 : ByteArray) (r1 r2 : Int) (r3 : ByteArray) (r4 : Bool) (r5 r6 : Int) (w : World) (hr0 : Kd.C k34 w A0 l0.length l0) (hc0 : l0.length ≤ c0) (h : tree_Find.f l0 a1 = some (r1, r2, r3, r4, r5, r6)) :
    Calls Tryd.prog 26 #[.slice A0 l0.length c0, .string a1] w fun e w' => e = .returned (.tuple #[.agg #[.int .u32 r1, .int .u32 r2, .string r3, .bool r4, .int .u32 r5], .int .i64 r6]) ∧ Below w.heap.size w w' := by
  unfold tree_Find.f at h
  by_cases hd : wfL l0 = true ∧ a1.size ≤ 100000
  · rw [if_pos hd] at h
    have h' := Option.some.inj h
    simp only [Prod.mk.injEq] at h'
    obtain ⟨e1, e2, e3, e4, e5, e6⟩ := h'
    subst e1 e2 e3 e4 e5 e6
    exact find_c A0 c0 l0 a1 w hr0 hc0 hd.1 hd.2
  · rw [if_neg hd] at h
    cases h
end Go.Proofs.YthbdgahmlggpmaaDoor.Q
/- What above answers, in plain Lean, and the contract of tree.Make. -/


namespace Go.Proofs.YthbdgahmlggpmaaDoor.Q
open Go.RowKit Go.Proofs.YthbdgahmlggpmaaDoorW.PrintWords Go.Proofs.YthbdgahmlggpmaaDoorW.PrintLast Go.Proofs.YthbdgahmlggpmaaDoorW.PrintMore
set_option linter.unusedVariables false
set_option linter.unusedSimpArgs false
structure Abv where
  p : S34
  name : ByteArray
  e : Int
def aboveI (l : List S34) (names : List ByteArray) : Abv :=
  if names.length = 0 then ⟨zI, ⟨#[]⟩, 8⟩
  else ⟨(walkI l (names.take (names.length - 1)) (rd_T34 l 0)).1, names.getD (names.length - 1) ⟨#[]⟩, if (walkI l (names.take (names.length - 1)) (rd_T34 l 0)).2 = 0 then (if (walkI l (names.take (names.length - 1)) (rd_T34 l 0)).1.f3 = true then 0 else 10) else (walkI l (names.take (names.length - 1)) (rd_T34 l 0)).2⟩
theorem above_f (l : List S34) (hl : l.length ≤ 1000) (hp : 0 < l.length) (names : List ByteArray) (hn : names.length ≤ 1000) (k : Nat) (hk : l.length + names.length < k) : tree_above.f k l names = some ((aboveI l names).p.f0, (aboveI l names).p.f1, (aboveI l names).p.f2, (aboveI l names).p.f3, (aboveI l names).p.f4, (aboveI l names).name, (aboveI l names).e) := by
  unfold tree_above.f aboveI
  by_cases h0 : names.length = 0
  · rw [if_pos (by omega), if_pos h0]
    rfl
  · have hw : wrap64 ((names.length : Int) - 1) = ((names.length - 1 : Nat) : Int) := by rw [wrap_in (by omega) (by omega)]; omega
    rw [if_neg (by omega), if_neg h0, hw, if_pos (by omega), if_pos (by omega), Int.toNat_natCast]
    rw [walk_f l hl hp (names.take (names.length - 1)) (by rw [List.length_take]; omega) k (by rw [List.length_take]; omega)]
    have e : rdOf ByteArray.empty names ((names.length - 1 : Nat) : Int) = names.getD (names.length - 1) ⟨#[]⟩ := by simp only [rdOf, Int.toNat_natCast]; rfl
    rw [e]
    generalize walkI l (names.take (names.length - 1)) (rd_T34 l 0) = q
    obtain ⟨q, eq⟩ := q
    show (if eq = 0 then _ else _) = _
    by_cases h1 : eq = 0
    · rw [if_pos h1]
      show (if q.f3 = true then _ else _) = _
      subst h1
      by_cases h2 : q.f3 = true
      · rw [if_pos h2, if_pos (by omega)]
        simp [h2]
      · rw [if_neg h2, if_pos (by omega)]
        simp [h2]
    · rw [if_neg h1, if_pos (by omega)]
      simp [h1]
theorem above_c (A0 : Option Addr) (c0 : Nat) (l : List S34) (A1 : Option Addr) (c1 : Nat) (names : List ByteArray) (w : World) (hr0 : Kd.C k34 w A0 l.length l) (hc0 : l.length ≤ c0) (hr1 : Kd.C Kd.string w A1 names.length names) (hc1 : names.length ≤ c1) (hl : l.length ≤ 1000) (hp : 0 < l.length) (hn : names.length ≤ 1000) :
    Calls Tryd.prog 36 #[.slice A0 l.length c0, .slice A1 names.length c1] w fun e w' => e = .returned (.tuple #[.agg #[.int .u32 (aboveI l names).p.f0, .int .u32 (aboveI l names).p.f1, .string (aboveI l names).p.f2, .bool (aboveI l names).p.f3, .int .u32 (aboveI l names).p.f4], .string (aboveI l names).name, .int .i64 (aboveI l names).e]) ∧ Below w.heap.size w w' :=
  tree_above.calls (l.length + names.length + 1) A0 c0 l A1 c1 names _ _ _ _ _ _ _ w hr0 hc0 hr1 hc1 (above_f l hl hp names hn _ (by omega))
def makeF (l : List S34) (s : ByteArray) (id : Int) (dir : Bool) : List S34 × Int :=
  if (beginF l s).2 = 0 then
    (if (aboveI l (beginF l s).1).e = 0 then
      (if (kidI l (aboveI l (beginF l s).1).p.f0 (aboveI l (beginF l s).1).name).isSome = true then ([], 8)
       else if l.length = 40 then ([], 16)
       else if (kidsI l (aboveI l (beginF l s).1).p.f0).length = 12 then ([], 16)
       else if id ≤ 1 then ([], 1)
       else if (findI l id).isSome = true then ([], 1)
       else (putI l ⟨id, (aboveI l (beginF l s).1).p.f0, (aboveI l (beginF l s).1).name, dir, 0⟩, 0))
     else ([], (aboveI l (beginF l s).1).e))
  else ([], (beginF l s).2)
end Go.Proofs.YthbdgahmlggpmaaDoor.Q
/- The contract of tree.Make. -/

namespace Go.Proofs.YthbdgahmlggpmaaDoor.Q
open Go.RowKit Go.Proofs.YthbdgahmlggpmaaDoorW.PrintWords Go.Proofs.YthbdgahmlggpmaaDoorW.PrintLast Go.Proofs.YthbdgahmlggpmaaDoorW.PrintMore
set_option linter.unusedVariables false
set_option linter.unusedSimpArgs false
theorem right_up {l : List S34} (h : rightB l = true) (hw : wfL l = true) : upB (-1) l = true := by
  refine up_of_first l hw (fun j hj => ?_)
  unfold rightB at h
  simp only [Bool.and_eq_true] at h
  exact List.all_eq_true.1 h.1.2 j (List.mem_range.2 (by omega))
theorem put_c (A0 : Option Addr) (c0 : Nat) (l : List S34) (x : S34) (w : World) (hr0 : Kd.C k34 w A0 l.length l) (hc0 : l.length ≤ c0) (h1 : 1 ≤ l.length) (hl : l.length ≤ 900) (hup : upB (-1) l = true) (hx0 : 0 ≤ x.f0) (hx1 : x.f0 ≤ 4294967295) :
    Calls Tryd.prog 41 #[.slice A0 l.length c0, .agg #[.int .u32 x.f0, .int .u32 x.f1, .string x.f2, .bool x.f3, .int .u32 x.f4]] w fun e w' => ∃ v0_ : Value, e = .returned v0_ ∧ Kd.R k34 34 w' w.heap.size (fun _ => True) v0_ (putI l x) ∧ Below w.heap.size w w' :=
  tree_put.calls A0 c0 l x.f0 x.f1 x.f2 x.f3 x.f4 _ w hr0 hc0 (by unfold tree_put.f putDom; rw [decide_eq_true h1, decide_eq_true hl, hup, decide_eq_true hx0, decide_eq_true hx1, if_pos (by rfl)])
set_option maxHeartbeats 4000000 in
set_option maxRecDepth 100000 in
theorem make_c (A0 : Option Addr) (c0 : Nat) (l : List S34) (s : ByteArray) (id : Int) (dir : Bool) (w : World) (hr0 : Kd.C k34 w A0 l.length l) (hc0 : l.length ≤ c0) (hw : wfL l = true) (hs : s.size ≤ 100000) (hi0 : 0 ≤ id) (hi1 : id ≤ 4294967295) :
    Calls Tryd.prog 22 #[.slice A0 l.length c0, .string s, .int .u32 id, .bool dir] w fun e w' => ∃ v0_ : Value, e = .returned (.tuple #[v0_, .int .i64 (makeF l s id dir).2]) ∧ Kd.R k34 34 w' w.heap.size (fun _ => True) v0_ (makeF l s id dir).1 ∧ Below w.heap.size w w' := by
  have HR0 := Aside0.mk hr0
  have HC0 := Aside0.mk hc0
  have HW := Aside0.mk hw
  have hlen := begin_len l s
  have hok := Aside0.mk (fun h => begin_ok (l := l) (s := s) h)
  have hB := Aside0.mk (begin_c A0 c0 l s w hr0 hc0 hw hs)
  obtain ⟨r, hr⟩ : ∃ r, r = makeF l s id dir := ⟨_, rfl⟩
  rw [← hr]
  unfold makeF at hr
  generalize beginF l s = b at hr hB hok hlen
  obtain ⟨b1, b2⟩ := b
  have hlen : b1.length ≤ 6 := hlen
  have hr : r = (if b2 = 0 then (if (aboveI l b1).e = 0 then (if (kidI l (aboveI l b1).p.f0 (aboveI l b1).name).isSome = true then ([], 8) else if l.length = 40 then ([], 16) else if (kidsI l (aboveI l b1).p.f0).length = 12 then ([], 16) else if id ≤ 1 then ([], 1) else if (findI l id).isSome = true then ([], 1) else (putI l ⟨id, (aboveI l b1).p.f0, (aboveI l b1).name, dir, 0⟩, 0)) else ([], (aboveI l b1).e)) else ([], b2)) := hr
  have HH := Aside0.mk hr
  clear hr hr0 hc0 hw
  go_enter Tryd.func22, Tryd.ntmps22
  go_upto_region 2 with (go_at_call 34; refine hB.out.mono ?_; rintro e w1 ⟨⟨A1, c1, rfl, hc1, hr1⟩, hb1⟩; have HC1 := Aside0.mk hc1; have HR1 := Aside0.mk hr1; have HB1 := Aside0.mk hb1; clear hc1 hr1 hb1)
  clear hB
  by_cases n0 : b2 = 0
  · have hright := hok.out n0
    have hlen2 := rightB_len hright
    have HUP := Aside0.mk (right_up hright HW.out)
    subst n0
    have hr := HH.out
    rw [if_pos rfl] at hr
    have HH1 := Aside0.mk hr
    clear hr HH hok hright
    have hA := Aside0.mk (above_c A0 c0 l A1 c1 b1 w1 (Kd.C_below HR0.out HB1.out) HC0.out HR1.out HC1.out (by omega) (by omega) (by omega))
    generalize aboveI l b1 = a at HH1 hA
    obtain ⟨p, name, ea⟩ := a
    go_upto_region 5 with (go_at_call 36; refine hA.out.mono ?_; rintro e w2 ⟨rfl, hb2⟩; have HB2 := Aside0.mk (below_step HB1.out hb2); clear hb2)
    clear hA
    have BK := Aside0.mk (heap_alloc_new w2 (.cells #[.int .u32 p.f0, .int .u32 p.f1, .string p.f2, .bool p.f3, .int .u32 p.f4] 34))
    have HB3 := Aside0.mk (below_alloc HB2.out (.cells #[.int .u32 p.f0, .int .u32 p.f1, .string p.f2, .bool p.f3, .int .u32 p.f4] 34))
    clear HB2
    generalize w2.alloc (.cells #[.int .u32 p.f0, .int .u32 p.f1, .string p.f2, .bool p.f3, .int .u32 p.f4] 34) = w3 at BK HB3 ⊢
    generalize w2.heap.size = g12 at BK ⊢
    by_cases n1 : ea = 0
    · subst n1
      have hr := HH1.out
      rw [if_pos rfl] at hr
      have HH2 := Aside0.mk hr
      clear hr HH1
      have k0 : w3.cell? ⟨g12, 0, none⟩ = some (.int .u32 p.f0) := (blk_cell BK.out 0).trans rfl
      have hK := Aside0.mk (kid_c A0 c0 l p.f0 name w3 (Kd.C_below HR0.out HB3.out) HC0.out (by omega))
      go_upto_region 8 with (go_at_call 37; refine hK.out.mono ?_; rintro e w4 ⟨rfl, hb4⟩; have HB4 := Aside0.mk (below_step HB3.out hb4); have BK4 := Aside0.mk (blk_below BK.out hb4); clear hb4)
      clear hK k0 BK HB3
      generalize hq : gI (kidI l p.f0 name) = q
      have BK5 := Aside0.mk (blk_alloc BK4.out (.cells #[.int .u32 q.f0, .int .u32 q.f1, .string q.f2, .bool q.f3, .int .u32 q.f4] 34))
      have HB5 := Aside0.mk (below_alloc HB4.out (.cells #[.int .u32 q.f0, .int .u32 q.f1, .string q.f2, .bool q.f3, .int .u32 q.f4] 34))
      clear BK4 HB4 hq
      generalize w4.alloc (.cells #[.int .u32 q.f0, .int .u32 q.f1, .string q.f2, .bool q.f3, .int .u32 q.f4] 34) = w5 at BK5 HB5 ⊢
      generalize w4.heap.size = g14
      have hG := Aside0.mk (get_c A0 c0 l id w5 (Kd.C_below HR0.out HB5.out) HC0.out (by omega) hi0 hi1 HUP.out)
      go_upto_region 9 with (go_at_call 51; refine hG.out.mono ?_; rintro e w6 ⟨rfl, hb6⟩; have HB6 := Aside0.mk (below_step HB5.out hb6); have BK6 := Aside0.mk (blk_below BK5.out hb6); clear hb6)
      clear hG BK5 HB5
      generalize hq2 : gI (findI l id) = q2
      have BK7 := Aside0.mk (blk_alloc BK6.out (.cells #[.int .u32 q2.f0, .int .u32 q2.f1, .string q2.f2, .bool q2.f3, .int .u32 q2.f4] 34))
      have HB7 := Aside0.mk (below_alloc HB6.out (.cells #[.int .u32 q2.f0, .int .u32 q2.f1, .string q2.f2, .bool q2.f3, .int .u32 q2.f4] 34))
      clear BK6 HB6 hq2
      generalize w6.alloc (.cells #[.int .u32 q2.f0, .int .u32 q2.f1, .string q2.f2, .bool q2.f3, .int .u32 q2.f4] 34) = w7 at BK7 HB7 ⊢
      generalize w6.heap.size = g16
      have k0 : w7.cell? ⟨g12, 0, none⟩ = some (.int .u32 p.f0) := (blk_cell BK7.out 0).trans rfl
      cases n2 : (kidI l p.f0 name).isSome
      · by_cases n3 : l.length = 40
        · have e3 : ((l.length : Int) == 40) = true := beq_iff_eq.2 (by omega)
          have hr : r = ([], 16) := by have := HH2.out; rwa [if_neg (by rw [n2]; decide), if_pos n3] at this
          subst hr
          go_wp2_with (fail)
          go_ret2
          exact ⟨_, rfl, Kd.R_nil _ _ _ _ _, HB7.out⟩
        · have e3 : ((l.length : Int) == 40) = false := beq_eq_false_iff_ne.2 (by omega)
          have hKs := Aside0.mk (kids_c A0 c0 l p.f0 w7 (Kd.C_below HR0.out HB7.out) HC0.out (by omega))
          by_cases n4 : (kidsI l p.f0).length = 12
          · have e4 : (((kidsI l p.f0).length : Int) == 12) = true := beq_iff_eq.2 (by omega)
            have hr : r = ([], 16) := by have := HH2.out; rwa [if_neg (by rw [n2]; decide), if_neg n3, if_pos n4] at this
            subst hr
            go_wp2_with (go_at_call 40; refine hKs.out.mono ?_; rintro e w8 ⟨⟨A8, c8, rfl⟩, hb8⟩; have HB8 := Aside0.mk (below_step HB7.out hb8); clear hb8)
            go_ret2
            exact ⟨_, rfl, Kd.R_nil _ _ _ _ _, HB8.out⟩
          · have e4 : (((kidsI l p.f0).length : Int) == 12) = false := beq_eq_false_iff_ne.2 (by omega)
            by_cases n5 : id ≤ 1
            · have e5 : decide (id ≤ 1) = true := decide_eq_true n5
              have hr : r = ([], 1) := by have := HH2.out; rwa [if_neg (by rw [n2]; decide), if_neg n3, if_neg n4, if_pos n5] at this
              subst hr
              go_wp2_with (go_at_call 40; refine hKs.out.mono ?_; rintro e w8 ⟨⟨A8, c8, rfl⟩, hb8⟩; have HB8 := Aside0.mk (below_step HB7.out hb8); clear hb8)
              go_ret2
              exact ⟨_, rfl, Kd.R_nil _ _ _ _ _, HB8.out⟩
            · have e5 : decide (id ≤ 1) = false := decide_eq_false n5
              cases n6 : (findI l id).isSome
              · have hr : r = (putI l ⟨id, p.f0, name, dir, 0⟩, 0) := by have := HH2.out; rwa [if_neg (by rw [n2]; decide), if_neg n3, if_neg n4, if_neg n5, if_neg (by rw [n6]; decide)] at this
                subst hr
                go_wp2_with (first | (go_at_call 40; refine hKs.out.mono ?_; rintro e w8 ⟨⟨A8, c8, rfl⟩, hb8⟩; have HB8 := Aside0.mk (below_step HB7.out hb8); have k8 : w8.cell? ⟨g12, 0, none⟩ = some (.int .u32 p.f0) := (blk_cell (blk_below BK7.out hb8) 0).trans rfl; clear hb8) | (go_at_call 41; refine (put_c A0 c0 l ⟨id, p.f0, name, dir, 0⟩ _ (Kd.C_below HR0.out HB8.out) HC0.out (by omega) (by omega) HUP.out hi0 hi1).mono ?_; rintro e w9 ⟨v9, rfl, ho9, hb9⟩; have HO9 := Aside0.mk (Kd.R_lower ho9 HB8.out.size); have HB9 := Aside0.mk (below_step HB8.out hb9); clear ho9 hb9))
                go_ret2
                exact ⟨_, rfl, HO9.out, HB9.out⟩
              · have hr : r = ([], 1) := by have := HH2.out; rwa [if_neg (by rw [n2]; decide), if_neg n3, if_neg n4, if_neg n5, if_pos n6] at this
                subst hr
                go_wp2_with (go_at_call 40; refine hKs.out.mono ?_; rintro e w8 ⟨⟨A8, c8, rfl⟩, hb8⟩; have HB8 := Aside0.mk (below_step HB7.out hb8); clear hb8)
                go_ret2
                exact ⟨_, rfl, Kd.R_nil _ _ _ _ _, HB8.out⟩
      · have hr : r = ([], 8) := by have := HH2.out; rwa [if_pos n2] at this
        subst hr
        go_wp2_with (fail)
        go_ret2
        exact ⟨_, rfl, Kd.R_nil _ _ _ _ _, HB7.out⟩
    · have e1 : (ea != 0) = true := bne_iff_ne.2 n1
      have hr : r = ([], ea) := by have := HH1.out; rwa [if_neg n1] at this
      subst hr
      clear HH1
      go_wp2_with (fail)
      go_ret2
      exact ⟨_, rfl, Kd.R_nil _ _ _ _ _, HB3.out⟩
  · have e1 : (b2 != 0) = true := bne_iff_ne.2 n0
    have hr : r = ([], b2) := by have := HH.out; rwa [if_neg n0] at this
    subst hr
    clear HH hok
    go_wp2_with (fail)
    go_ret2
    exact ⟨_, rfl, Kd.R_nil _ _ _ _ _, HB1.out⟩
def tree_Make.f (l : List S34) (s : ByteArray) (id : Int) (dir : Bool) : Option (List S34 × Int) := if wfL l = true ∧ s.size ≤ 100000 ∧ 0 ≤ id ∧ id ≤ 4294967295 then some (makeF l s id dir) else none
theorem tree_Make.calls (A0 : Option Addr) (c0 : Nat) (l0 : List S34) (a1 : ByteArray) (a2 : Int) (a3 : Bool) (r1 : List S34) (r2 : Int) (w : World) (hr0 : Kd.C k34 w A0 l0.length l0) (hc0 : l0.length ≤ c0) (h : tree_Make.f l0 a1 a2 a3 = some (r1, r2)) :
    Calls Tryd.prog 22 #[.slice A0 l0.length c0, .string a1, .int .u32 a2, .bool a3] w fun e w' => ∃ v0_ : Value, e = .returned (.tuple #[v0_, .int .i64 r2]) ∧ Kd.R k34 34 w' w.heap.size (fun _ => True) v0_ r1 ∧ Below w.heap.size w w' := by
  unfold tree_Make.f at h
  by_cases hd : wfL l0 = true ∧ a1.size ≤ 100000 ∧ 0 ≤ a2 ∧ a2 ≤ 4294967295
  · rw [if_pos hd] at h
    have h' := Option.some.inj h
    have q := make_c A0 c0 l0 a1 a2 a3 w hr0 hc0 hd.1 hd.2.1 hd.2.2.1 hd.2.2.2
    rw [h'] at q
    exact q
  · rw [if_neg hd] at h
    cases h
end Go.Proofs.YthbdgahmlggpmaaDoor.Q
/- The contract of tree.Rename. -/


namespace Go.Proofs.YthbdgahmlggpmaaDoor.Q
open Go.RowKit Go.Proofs.YthbdgahmlggpmaaDoorW.PrintWords Go.Proofs.YthbdgahmlggpmaaDoorW.PrintLast Go.Proofs.YthbdgahmlggpmaaDoorW.PrintMore
set_option linter.unusedVariables false
set_option linter.unusedSimpArgs false
theorem putI_pos (l : List S34) (x : S34) (h : 0 < l.length) : 0 < (putI l x).length := by
  unfold putI
  split
  · rw [List.length_set]; exact h
  · simp; omega
def moved (x p : S34) (name : ByteArray) : S34 := ⟨x.f0, p.f0, name, x.f3, x.f4⟩
/-- What Rename answers behind the paths: x is what is moved, a the directory and the name, v whether that lies in x. -/
def ren2 (l : List S34) (x : S34) (a : Abv) (v : Bool) : Option (List S34 × Int) :=
  if v = true then some ([], 1)
  else if (kidI l a.p.f0 a.name).isSome = true then (if (gI (kidI l a.p.f0 a.name)).f0 = x.f0 then some (l, 0) else some ([], 8))
  else if a.p.f0 ≠ x.f1 ∧ (kidsI l a.p.f0).length = 12 then some ([], 16)
  else if wfL (putI l (moved x a.p a.name)) = true then (if rightB (putI l (moved x a.p a.name)) = true then some (putI l (moved x a.p a.name), 0) else some ([], 9)) else none
def ren1 (l : List S34) (x : S34) (a : Abv) : Option (List S34 × Int) :=
  if a.e = 0 then (if wfI a.p = true then (inUp l x.f0 50 a.p.f0).bind fun v => ren2 l x a v else none) else some ([], a.e)
def ren0 (l : List S34) (b c : List ByteArray × Int) : Option (List S34 × Int) :=
  if b.2 = 0 then (if c.2 = 0 then (if (walkI l b.1 (rd_T34 l 0)).2 = 0 then (if (walkI l b.1 (rd_T34 l 0)).1.f0 = 1 then some ([], 21) else if wfI (walkI l b.1 (rd_T34 l 0)).1 = true then ren1 l (walkI l b.1 (rd_T34 l 0)).1 (aboveI l c.1) else none) else some ([], (walkI l b.1 (rd_T34 l 0)).2)) else some ([], c.2)) else some ([], b.2)
def tree_Rename.f (l : List S34) (s t : ByteArray) : Option (List S34 × Int) := if wfL l = true ∧ s.size ≤ 100000 ∧ t.size ≤ 100000 then ren0 l (beginF l s) (splitF t) else none
set_option maxHeartbeats 4000000 in
set_option maxRecDepth 100000 in
theorem tree_Rename.calls (A0 : Option Addr) (c0 : Nat) (l0 : List S34) (a1 a2 : ByteArray) (r1 : List S34) (r2 : Int) (w : World) (hr0 : Kd.C k34 w A0 l0.length l0) (hc0 : l0.length ≤ c0) (h : tree_Rename.f l0 a1 a2 = some (r1, r2)) :
    Calls Tryd.prog 13 #[.slice A0 l0.length c0, .string a1, .string a2] w fun e w' => ∃ v0_ : Value, e = .returned (.tuple #[v0_, .int .i64 r2]) ∧ Kd.R k34 34 w' w.heap.size (fun _ => True) v0_ r1 ∧ Below w.heap.size w w' := by
  unfold tree_Rename.f at h
  by_cases hd : wfL l0 = true ∧ a1.size ≤ 100000 ∧ a2.size ≤ 100000
  rotate_left
  · rw [if_neg hd] at h
    cases h
  rw [if_pos hd] at h
  obtain ⟨hw, hs1, hs2⟩ := hd
  have HR0 := Aside0.mk hr0
  have HC0 := Aside0.mk hc0
  have HW := Aside0.mk hw
  have hlen := begin_len l0 a1
  have hlenc := splitF_len a2
  have hok := Aside0.mk (fun h => begin_ok (l := l0) (s := a1) h)
  have hB := Aside0.mk (begin_c A0 c0 l0 a1 w hr0 hc0 hw hs1)
  have hS := Aside0.mk (fun w => split_c a2 w hs2)
  obtain ⟨r, hr⟩ : ∃ r : List S34 × Int, r = (r1, r2) := ⟨_, rfl⟩
  rw [← hr] at h
  rw [show r1 = r.1 by rw [hr], show r2 = r.2 by rw [hr]]
  clear hr
  generalize beginF l0 a1 = b at h hB hok hlen
  generalize splitF a2 = c at h hS hlenc
  obtain ⟨b1, b2⟩ := b
  obtain ⟨d1, d2⟩ := c
  have hlen : b1.length ≤ 6 := hlen
  have hlenc : d1.length ≤ 6 := hlenc
  have h : (if b2 = 0 then (if d2 = 0 then (if (walkI l0 b1 (rd_T34 l0 0)).2 = 0 then (if (walkI l0 b1 (rd_T34 l0 0)).1.f0 = 1 then some ([], 21) else if wfI (walkI l0 b1 (rd_T34 l0 0)).1 = true then ren1 l0 (walkI l0 b1 (rd_T34 l0 0)).1 (aboveI l0 d1) else none) else some ([], (walkI l0 b1 (rd_T34 l0 0)).2)) else some ([], d2)) else some ([], b2)) = some r := h
  have HH := Aside0.mk h
  clear h hr0 hc0 hw
  go_enter Tryd.func13, Tryd.ntmps13
  go_upto_region 2 with (go_at_call 34; refine hB.out.mono ?_; rintro e w1 ⟨⟨A1, c1, rfl, hc1, hr1⟩, hb1⟩; have HC1 := Aside0.mk hc1; have HR1 := Aside0.mk hr1; have HB1 := Aside0.mk hb1; clear hc1 hr1 hb1)
  clear hB
  by_cases n0 : b2 = 0
  rotate_left
  · have e1 : (b2 != 0) = true := bne_iff_ne.2 n0
    have hr : ([], b2) = r := by have := HH.out; rw [if_neg n0] at this; exact Option.some.inj this
    subst hr
    clear HH hok
    go_wp2_with (fail)
    go_ret2
    exact ⟨_, rfl, Kd.R_nil _ _ _ _ _, HB1.out⟩
  have hright := hok.out n0
  have hlen2 := rightB_len hright
  have HUP := Aside0.mk (right_up hright HW.out)
  subst n0
  have h := HH.out
  rw [if_pos rfl] at h
  have HH1 := Aside0.mk h
  clear h HH hok hright
  go_upto_region 5 with (go_at_call 27; refine (hS.out _).mono ?_; rintro e w2 ⟨⟨A2, c2, rfl, hc2, hr2⟩, hb2⟩; have HC2 := Aside0.mk hc2; have HR2 := Aside0.mk hr2; have HR1' := Aside0.mk (Kd.C_below HR1.out hb2); have HB2 := Aside0.mk (below_step HB1.out hb2); clear hc2 hr2 hb2)
  clear HR1 HB1 hS
  by_cases n1 : d2 = 0
  rotate_left
  · have e1 : (d2 != 0) = true := bne_iff_ne.2 n1
    have hr : ([], d2) = r := by have := HH1.out; rw [if_neg n1] at this; exact Option.some.inj this
    subst hr
    clear HH1
    go_wp2_with (fail)
    go_ret2
    exact ⟨_, rfl, Kd.R_nil _ _ _ _ _, HB2.out⟩
  subst n1
  have h := HH1.out
  rw [if_pos rfl] at h
  have HH2 := Aside0.mk h
  clear h HH1
  have hWK := Aside0.mk (walk_c A0 c0 l0 A1 c1 b1 w2 (Kd.C_below HR0.out HB2.out) HC0.out HR1'.out HC1.out (by omega) (by omega) (by omega))
  generalize walkI l0 b1 (rd_T34 l0 0) = q at hWK HH2
  obtain ⟨x, ex⟩ := q
  have h : (if ex = 0 then (if x.f0 = 1 then some ([], 21) else if wfI x = true then ren1 l0 x (aboveI l0 d1) else none) else some ([], ex)) = some r := HH2.out
  have HH3 := Aside0.mk h
  clear h HH2
  go_upto_region 8 with (go_at_call 35; refine hWK.out.mono ?_; rintro e w3 ⟨rfl, hb3⟩; have HR2' := Aside0.mk (Kd.C_below HR2.out hb3); have HB3 := Aside0.mk (below_step HB2.out hb3); clear hb3)
  clear hWK HR2 HB2 HR1'
  have BKx := Aside0.mk (heap_alloc_new w3 (.cells #[.int .u32 x.f0, .int .u32 x.f1, .string x.f2, .bool x.f3, .int .u32 x.f4] 34))
  have HB4 := Aside0.mk (below_alloc HB3.out (.cells #[.int .u32 x.f0, .int .u32 x.f1, .string x.f2, .bool x.f3, .int .u32 x.f4] 34))
  have HR2 := Aside0.mk (Kd.C_alloc HR2'.out (.cells #[.int .u32 x.f0, .int .u32 x.f1, .string x.f2, .bool x.f3, .int .u32 x.f4] 34))
  have HGX := Aside0.mk HB3.out.size
  clear HR2' HB3
  generalize w3.alloc (.cells #[.int .u32 x.f0, .int .u32 x.f1, .string x.f2, .bool x.f3, .int .u32 x.f4] 34) = w4 at BKx HB4 HR2 ⊢
  generalize w3.heap.size = gx at BKx HGX ⊢
  by_cases n2 : ex = 0
  rotate_left
  · have e1 : (ex != 0) = true := bne_iff_ne.2 n2
    have hr : ([], ex) = r := by have := HH3.out; rw [if_neg n2] at this; exact Option.some.inj this
    subst hr
    clear HH3
    go_wp2_with (fail)
    go_ret2
    exact ⟨_, rfl, Kd.R_nil _ _ _ _ _, HB4.out⟩
  subst n2
  have h := HH3.out
  rw [if_pos rfl] at h
  have HH4 := Aside0.mk h
  clear h HH3
  have x0 : w4.cell? ⟨gx, 0, none⟩ = some (.int .u32 x.f0) := (blk_cell BKx.out 0).trans rfl
  by_cases n3 : x.f0 = 1
  · have e3 : (x.f0 == 1) = true := beq_iff_eq.2 n3
    have hr : ([], 21) = r := by have := HH4.out; rw [if_pos n3] at this; exact Option.some.inj this
    subst hr
    clear HH4 n3
    go_wp2_with (fail)
    go_ret2
    exact ⟨_, rfl, Kd.R_nil _ _ _ _ _, HB4.out⟩
  have e3 : (x.f0 == 1) = false := beq_eq_false_iff_ne.2 n3
  have h := HH4.out
  rw [if_neg n3] at h
  by_cases n4 : wfI x = true
  rotate_left
  · rw [if_neg n4] at h
    cases h
  rw [if_pos n4] at h
  have hwx := (wfI_iff x).1 n4
  have hA := Aside0.mk (above_c A0 c0 l0 A2 c2 d1 w4 (Kd.C_below HR0.out HB4.out) HC0.out HR2.out HC2.out (by omega) (by omega) (by omega))
  have HH5 := Aside0.mk h
  clear h HH4
  generalize aboveI l0 d1 = a at HH5 hA
  obtain ⟨p, name, ea⟩ := a
  go_upto_region 13 with (go_at_call 36; refine hA.out.mono ?_; rintro e w5 ⟨rfl, hb5⟩; have HB5 := Aside0.mk (below_step HB4.out hb5); have BKx5 := Aside0.mk (blk_below BKx.out hb5); clear hb5)
  clear hA BKx HB4 HR2 x0
  have BKx6 := Aside0.mk (blk_alloc BKx5.out (.cells #[.int .u32 p.f0, .int .u32 p.f1, .string p.f2, .bool p.f3, .int .u32 p.f4] 34))
  have BKp := Aside0.mk (heap_alloc_new w5 (.cells #[.int .u32 p.f0, .int .u32 p.f1, .string p.f2, .bool p.f3, .int .u32 p.f4] 34))
  have HB6 := Aside0.mk (below_alloc HB5.out (.cells #[.int .u32 p.f0, .int .u32 p.f1, .string p.f2, .bool p.f3, .int .u32 p.f4] 34))
  clear BKx5 HB5
  generalize w5.alloc (.cells #[.int .u32 p.f0, .int .u32 p.f1, .string p.f2, .bool p.f3, .int .u32 p.f4] 34) = w6 at BKx6 BKp HB6 ⊢
  generalize w5.heap.size = gp at BKp ⊢
  have h : (if ea = 0 then (if wfI p = true then (inUp l0 x.f0 50 p.f0).bind fun v => ren2 l0 x ⟨p, name, ea⟩ v else none) else some ([], ea)) = some r := HH5.out
  clear HH5
  by_cases n5 : ea = 0
  rotate_left
  · have e1 : (ea != 0) = true := bne_iff_ne.2 n5
    have hr : ([], ea) = r := by rw [if_neg n5] at h; exact Option.some.inj h
    subst hr
    clear h
    go_wp2_with (fail)
    go_ret2
    exact ⟨_, rfl, Kd.R_nil _ _ _ _ _, HB6.out⟩
  subst n5
  rw [if_pos rfl] at h
  by_cases n6 : wfI p = true
  rotate_left
  · rw [if_neg n6] at h
    cases h
  rw [if_pos n6] at h
  have hwp := (wfI_iff p).1 n6
  cases hin : inUp l0 x.f0 50 p.f0 with
  | none => rw [hin] at h; cases h
  | some v =>
  rw [hin] at h
  have h : ren2 l0 x ⟨p, name, 0⟩ v = some r := h
  have HH6 := Aside0.mk h
  clear h
  have hWI := Aside0.mk (fun (w : World) (hC : Kd.C k34 w A0 l0.length l0) => tree_within.calls A0 c0 l0 p.f0 x.f0 v w hC HC0.out (by unfold tree_within.f okL; rw [decide_eq_true (show l0.length ≤ 1000 by omega), HUP.out, HW.out, if_pos ⟨rfl, hwp.1, hwp.2.1⟩]; exact hin))
  clear hin
  have p0 : w6.cell? ⟨gp, 0, none⟩ = some (.int .u32 p.f0) := (blk_cell BKp.out 0).trans rfl
  have hK := Aside0.mk (kid_c A0 c0 l0 p.f0 name w6 (Kd.C_below HR0.out HB6.out) HC0.out (by omega))
  go_upto_region 16 with (go_at_call 37; refine hK.out.mono ?_; rintro e w7 ⟨rfl, hb7⟩; have HB7 := Aside0.mk (below_step HB6.out hb7); have BKx7 := Aside0.mk (blk_below BKx6.out hb7); have BKp7 := Aside0.mk (blk_below BKp.out hb7); clear hb7)
  clear hK p0 BKx6 BKp HB6
  have h : (if v = true then some ([], 1) else if (kidI l0 p.f0 name).isSome = true then (if (gI (kidI l0 p.f0 name)).f0 = x.f0 then some (l0, 0) else some ([], 8)) else if p.f0 ≠ x.f1 ∧ (kidsI l0 p.f0).length = 12 then some ([], 16) else if wfL (putI l0 (moved x p name)) = true then (if rightB (putI l0 (moved x p name)) = true then some (putI l0 (moved x p name), 0) else some ([], 9)) else none) = some r := HH6.out
  have HH7 := Aside0.mk h
  clear h HH6
  generalize gI (kidI l0 p.f0 name) = k at HH7 ⊢
  generalize (kidI l0 p.f0 name).isSome = bk at HH7 ⊢
  have BKx8 := Aside0.mk (blk_alloc BKx7.out (.cells #[.int .u32 k.f0, .int .u32 k.f1, .string k.f2, .bool k.f3, .int .u32 k.f4] 34))
  have BKp8 := Aside0.mk (blk_alloc BKp7.out (.cells #[.int .u32 k.f0, .int .u32 k.f1, .string k.f2, .bool k.f3, .int .u32 k.f4] 34))
  have BKk := Aside0.mk (heap_alloc_new w7 (.cells #[.int .u32 k.f0, .int .u32 k.f1, .string k.f2, .bool k.f3, .int .u32 k.f4] 34))
  have HB8 := Aside0.mk (below_alloc HB7.out (.cells #[.int .u32 k.f0, .int .u32 k.f1, .string k.f2, .bool k.f3, .int .u32 k.f4] 34))
  clear BKx7 BKp7 HB7
  generalize w7.alloc (.cells #[.int .u32 k.f0, .int .u32 k.f1, .string k.f2, .bool k.f3, .int .u32 k.f4] 34) = w8 at BKx8 BKp8 BKk HB8 ⊢
  generalize w7.heap.size = gk at BKk ⊢
  have p0 : w8.cell? ⟨gp, 0, none⟩ = some (.int .u32 p.f0) := (blk_cell BKp8.out 0).trans rfl
  have x0 : w8.cell? ⟨gx, 0, none⟩ = some (.int .u32 x.f0) := (blk_cell BKx8.out 0).trans rfl
  cases v
  rotate_left
  · have hr : ([], 1) = r := by have := HH7.out; rw [if_pos rfl] at this; exact Option.some.inj this
    subst hr
    clear HH7
    go_wp2_with (go_at_call 38; refine (hWI.out _ (Kd.C_below HR0.out HB8.out)).mono ?_; rintro e w9 ⟨rfl, hb9⟩; have HB9 := Aside0.mk (below_step HB8.out hb9); clear hb9)
    go_ret2
    exact ⟨_, rfl, Kd.R_nil _ _ _ _ _, HB9.out⟩
  have h := HH7.out
  rw [if_neg (by decide)] at h
  have HH8 := Aside0.mk h
  clear h HH7
  go_upto_region 18 with (go_at_call 38; refine (hWI.out _ (Kd.C_below HR0.out HB8.out)).mono ?_; rintro e w9 ⟨rfl, hb9⟩; have HB9 := Aside0.mk (below_step HB8.out hb9); have BKx9 := Aside0.mk (blk_below BKx8.out hb9); have BKp9 := Aside0.mk (blk_below BKp8.out hb9); have BKk9 := Aside0.mk (blk_below BKk.out hb9); clear hb9)
  clear p0 x0 BKx8 BKp8 BKk HB8 hWI
  have p0 : w9.cell? ⟨gp, 0, none⟩ = some (.int .u32 p.f0) := (blk_cell BKp9.out 0).trans rfl
  have x0 : w9.cell? ⟨gx, 0, none⟩ = some (.int .u32 x.f0) := (blk_cell BKx9.out 0).trans rfl
  have x1 : w9.cell? ⟨gx, 1, none⟩ = some (.int .u32 x.f1) := (blk_cell BKx9.out 1).trans rfl
  have k0 : w9.cell? ⟨gk, 0, none⟩ = some (.int .u32 k.f0) := (blk_cell BKk9.out 0).trans rfl
  cases bk
  rotate_left
  · have h := HH8.out
    rw [if_pos rfl] at h
    by_cases n7 : k.f0 = x.f0
    · have e7 : (k.f0 == x.f0) = true := beq_iff_eq.2 n7
      have hr : (l0, 0) = r := by rw [if_pos n7] at h; exact Option.some.inj h
      subst hr
      clear h HH8 n7
      go_wp2_with (go_at_call 39; refine (clone34.calls A0 c0 l0 l0 _ (Kd.C_below HR0.out HB9.out) HC0.out (by unfold clone34.f; rw [if_pos (by omega)])).mono ?_; rintro e w10 ⟨v10, rfl, ho10, hb10⟩; have HO10 := Aside0.mk (Kd.R_lower ho10 HB9.out.size); have HB10 := Aside0.mk (below_step HB9.out hb10); clear ho10 hb10)
      go_ret2
      exact ⟨_, rfl, HO10.out, HB10.out⟩
    · have e7 : (k.f0 == x.f0) = false := beq_eq_false_iff_ne.2 n7
      have hr : ([], 8) = r := by rw [if_neg n7] at h; exact Option.some.inj h
      subst hr
      clear h HH8
      go_wp2_with (fail)
      go_ret2
      exact ⟨_, rfl, Kd.R_nil _ _ _ _ _, HB9.out⟩
  have h := HH8.out
  rw [if_neg (by decide)] at h
  by_cases n8 : p.f0 = x.f1
  · have e8 : (p.f0 != x.f1) = false := by rw [n8]; exact bne_self_eq_false _
    rw [if_neg (fun hc => hc.1 n8)] at h
    by_cases nwf : wfL (putI l0 (moved x p name)) = true
    rotate_left
    · rw [if_neg nwf] at h
      cases h
    rw [if_pos nwf] at h
    clear n8
    go_upto_region 24 with (fail)
    have f1 : w9.frozen? ⟨gx, 1, none⟩ = false := blk_frozen BKx9.out 1
    have f2 : w9.frozen? ⟨gx, 2, none⟩ = false := blk_frozen BKx9.out 2
    have z0 : w9.cell? ⟨gx, 0, none⟩ = some (.int .u32 x.f0) := (blk_cell BKx9.out 0).trans rfl
    have z1 : w9.cell? ⟨gx, 1, none⟩ = some (.int .u32 x.f1) := (blk_cell BKx9.out 1).trans rfl
    have z2 : w9.cell? ⟨gx, 2, none⟩ = some (.string x.f2) := (blk_cell BKx9.out 2).trans rfl
    have z3 : w9.cell? ⟨gx, 3, none⟩ = some (.bool x.f3) := (blk_cell BKx9.out 3).trans rfl
    have z4 : w9.cell? ⟨gx, 4, none⟩ = some (.int .u32 x.f4) := (blk_cell BKx9.out 4).trans rfl
    have y0 : w9.cell? ⟨gp, 0, none⟩ = some (.int .u32 p.f0) := (blk_cell BKp9.out 0).trans rfl
    have HBS := Aside0.mk (below_set (j := 2) (v := .string name) (below_set (j := 1) (v := .int .u32 p.f0) HB9.out HGX.out) HGX.out)
    go_upto_region 26 with (go_at_call 41; refine (put_c A0 c0 l0 (moved x p name) _ (Kd.C_below HR0.out HBS.out) HC0.out (by omega) (by omega) HUP.out hwx.1 hwx.2.1).mono ?_; rintro e w11 ⟨v11, rfl, ho11, hb11⟩; have HO11 := Aside0.mk (Kd.R_lower ho11 HBS.out.size); have HB11 := Aside0.mk (below_step HBS.out hb11); clear ho11 hb11)
    clear f1 f2 z0 z1 z2 z3 z4 y0 HBS
    obtain ⟨g11, cap11, cur11, rfl, hbg, hrow⟩ := row_of_R HO11.out (putI_pos l0 _ (by omega))
    have HROW := Aside0.mk hrow
    have hRI := Aside0.mk (right_c (some ⟨g11, 0, none⟩) cap11 (putI l0 (moved x p name)) w11 (Kd.R_reads' HO11.out).2.2 hrow.le nwf)
    clear hrow HO11
    generalize putI l0 (moved x p name) = out at h HROW hRI ⊢
    cases nr : rightB out
    · have hr : ([], 9) = r := by rw [if_neg (by rw [nr]; decide)] at h; exact Option.some.inj h
      subst hr
      clear h HH8
      go_wp2_with (go_at_call 19; refine hRI.out.mono ?_; rintro e w12 ⟨rfl, hb12⟩; have HB12 := Aside0.mk (below_step HB11.out hb12); clear hb12)
      go_ret2
      exact ⟨_, rfl, Kd.R_nil _ _ _ _ _, HB12.out⟩
    · have hr : (out, 0) = r := by rw [if_pos nr] at h; exact Option.some.inj h
      subst hr
      clear h HH8
      go_wp2_with (go_at_call 19; refine hRI.out.mono ?_; rintro e w12 ⟨rfl, hb12⟩; have HB12 := Aside0.mk (below_step HB11.out hb12); have HRW := Aside0.mk (Row.mk (blk_below HROW.out.heap hb12) HROW.out.le HROW.out.max HROW.out.size HROW.out.cells); clear hb12)
      go_ret2
      exact ⟨.slice (some ⟨g11, 0, none⟩) out.length cap11, rfl, R_of_row HRW.out hbg, HB12.out⟩
  · have e8 : (p.f0 != x.f1) = true := bne_iff_ne.2 n8
    have hKs := Aside0.mk (kids_c A0 c0 l0 p.f0 w9 (Kd.C_below HR0.out HB9.out) HC0.out (by omega))
    by_cases n9 : (kidsI l0 p.f0).length = 12
    · have e9 : (((kidsI l0 p.f0).length : Int) == 12) = true := beq_iff_eq.2 (by omega)
      have hr : ([], 16) = r := by rw [if_pos ⟨n8, n9⟩] at h; exact Option.some.inj h
      subst hr
      clear h HH8
      go_wp2_with (go_at_call 40; refine hKs.out.mono ?_; rintro e w10 ⟨⟨A10, c10, rfl⟩, hb10⟩; have HB10 := Aside0.mk (below_step HB9.out hb10); clear hb10)
      go_ret2
      exact ⟨_, rfl, Kd.R_nil _ _ _ _ _, HB10.out⟩
    · have e9 : (((kidsI l0 p.f0).length : Int) == 12) = false := beq_eq_false_iff_ne.2 (by omega)
      rw [if_neg (fun hc => n9 hc.2)] at h
      by_cases nwf : wfL (putI l0 (moved x p name)) = true
      rotate_left
      · rw [if_neg nwf] at h
        cases h
      rw [if_pos nwf] at h
      go_upto_region 24 with (go_at_call 40; refine hKs.out.mono ?_; rintro e w10 ⟨⟨A10, c10, rfl⟩, hb10⟩; have HB10 := Aside0.mk (below_step HB9.out hb10); have BKx10 := Aside0.mk (blk_below BKx9.out hb10); have BKp10 := Aside0.mk (blk_below BKp9.out hb10); clear hb10)
      clear p0 x0 x1 k0
      have f1 : w10.frozen? ⟨gx, 1, none⟩ = false := blk_frozen BKx10.out 1
      have f2 : w10.frozen? ⟨gx, 2, none⟩ = false := blk_frozen BKx10.out 2
      have z0 : w10.cell? ⟨gx, 0, none⟩ = some (.int .u32 x.f0) := (blk_cell BKx10.out 0).trans rfl
      have z1 : w10.cell? ⟨gx, 1, none⟩ = some (.int .u32 x.f1) := (blk_cell BKx10.out 1).trans rfl
      have z2 : w10.cell? ⟨gx, 2, none⟩ = some (.string x.f2) := (blk_cell BKx10.out 2).trans rfl
      have z3 : w10.cell? ⟨gx, 3, none⟩ = some (.bool x.f3) := (blk_cell BKx10.out 3).trans rfl
      have z4 : w10.cell? ⟨gx, 4, none⟩ = some (.int .u32 x.f4) := (blk_cell BKx10.out 4).trans rfl
      have y0 : w10.cell? ⟨gp, 0, none⟩ = some (.int .u32 p.f0) := (blk_cell BKp10.out 0).trans rfl
      have HBS := Aside0.mk (below_set (j := 2) (v := .string name) (below_set (j := 1) (v := .int .u32 p.f0) HB10.out HGX.out) HGX.out)
      go_upto_region 26 with (go_at_call 41; refine (put_c A0 c0 l0 (moved x p name) _ (Kd.C_below HR0.out HBS.out) HC0.out (by omega) (by omega) HUP.out hwx.1 hwx.2.1).mono ?_; rintro e w11 ⟨v11, rfl, ho11, hb11⟩; have HO11 := Aside0.mk (Kd.R_lower ho11 HBS.out.size); have HB11 := Aside0.mk (below_step HBS.out hb11); clear ho11 hb11)
      clear f1 f2 z0 z1 z2 z3 z4 y0 HBS
      obtain ⟨g11, cap11, cur11, rfl, hbg, hrow⟩ := row_of_R HO11.out (putI_pos l0 _ (by omega))
      have HROW := Aside0.mk hrow
      have hRI := Aside0.mk (right_c (some ⟨g11, 0, none⟩) cap11 (putI l0 (moved x p name)) w11 (Kd.R_reads' HO11.out).2.2 hrow.le nwf)
      clear hrow HO11
      generalize putI l0 (moved x p name) = out at h HROW hRI ⊢
      cases nr : rightB out
      · have hr : ([], 9) = r := by rw [if_neg (by rw [nr]; decide)] at h; exact Option.some.inj h
        subst hr
        clear h HH8
        go_wp2_with (go_at_call 19; refine hRI.out.mono ?_; rintro e w12 ⟨rfl, hb12⟩; have HB12 := Aside0.mk (below_step HB11.out hb12); clear hb12)
        go_ret2
        exact ⟨_, rfl, Kd.R_nil _ _ _ _ _, HB12.out⟩
      · have hr : (out, 0) = r := by rw [if_pos nr] at h; exact Option.some.inj h
        subst hr
        clear h HH8
        go_wp2_with (go_at_call 19; refine hRI.out.mono ?_; rintro e w12 ⟨rfl, hb12⟩; have HB12 := Aside0.mk (below_step HB11.out hb12); have HRW := Aside0.mk (Row.mk (blk_below HROW.out.heap hb12) HROW.out.le HROW.out.max HROW.out.size HROW.out.cells); clear hb12)
        go_ret2
        exact ⟨.slice (some ⟨g11, 0, none⟩) out.length cap11, rfl, R_of_row HRW.out hbg, HB12.out⟩
end Go.Proofs.YthbdgahmlggpmaaDoor.Q
/- The contract of tree.Resize. -/

namespace Go.Proofs.YthbdgahmlggpmaaDoor.Q
open Go.RowKit Go.Proofs.YthbdgahmlggpmaaDoorW.PrintWords Go.Proofs.YthbdgahmlggpmaaDoorW.PrintLast Go.Proofs.YthbdgahmlggpmaaDoorW.PrintMore
set_option linter.unusedVariables false
set_option linter.unusedSimpArgs false
def sized (n : S34) (size : Int) : S34 := ⟨n.f0, n.f1, n.f2, n.f3, size⟩
def resizeF (l : List S34) (id size : Int) : List S34 × Int :=
  if rightB l = true then
    (if (findI l id).isSome = true then
      (if (gI (findI l id)).f3 = true then ([], 11) else if size > 1024 then ([], 15) else (putI l (sized (gI (findI l id)) size), 0))
     else ([], 7))
  else ([], 1)
set_option maxHeartbeats 4000000 in
set_option maxRecDepth 100000 in
theorem resize_c (A0 : Option Addr) (c0 : Nat) (l : List S34) (id size : Int) (w : World) (hr0 : Kd.C k34 w A0 l.length l) (hc0 : l.length ≤ c0) (hw : wfL l = true) (hi0 : 0 ≤ id) (hi1 : id ≤ 4294967295) :
    Calls Tryd.prog 20 #[.slice A0 l.length c0, .int .u32 id, .int .u32 size] w fun e w' => ∃ v0_ : Value, e = .returned (.tuple #[v0_, .int .i64 (resizeF l id size).2]) ∧ Kd.R k34 34 w' w.heap.size (fun _ => True) v0_ (resizeF l id size).1 ∧ Below w.heap.size w w' := by
  have HR0 := Aside0.mk hr0
  have HC0 := Aside0.mk hc0
  have HW := Aside0.mk hw
  obtain ⟨r, hr⟩ : ∃ r, r = resizeF l id size := ⟨_, rfl⟩
  rw [← hr]
  unfold resizeF at hr
  have HH := Aside0.mk hr
  have hR := Aside0.mk (right_c A0 c0 l w hr0 hc0 hw)
  clear hr hr0 hc0 hw
  go_enter Tryd.func20, Tryd.ntmps20
  cases n0 : rightB l
  · have hr : r = ([], 1) := by have := HH.out; rwa [if_neg (by rw [n0]; decide)] at this
    subst hr
    rw [n0] at hR
    clear HH
    go_wp2_with (go_at_call 19; refine hR.out.mono ?_; rintro e w1 ⟨rfl, hb1⟩; have HB1 := Aside0.mk hb1; clear hb1)
    go_ret2
    exact ⟨_, rfl, Kd.R_nil _ _ _ _ _, HB1.out⟩
  · have hr := HH.out
    rw [if_pos n0] at hr
    have HH1 := Aside0.mk hr
    have hlen2 := rightB_len n0
    have HUP := Aside0.mk (right_up n0 HW.out)
    have hG := Aside0.mk (fun (w : World) (hC : Kd.C k34 w A0 l.length l) => get_c A0 c0 l id w hC HC0.out (by omega) hi0 hi1 HUP.out)
    rw [n0] at hR
    clear hr HH n0
    go_upto_region 4 with (first | (go_at_call 19; refine hR.out.mono ?_; rintro e w1 ⟨rfl, hb1⟩; have HB1 := Aside0.mk hb1; clear hb1) | (go_at_call 51; refine (hG.out _ (Kd.C_below HR0.out HB1.out)).mono ?_; rintro e w2 ⟨rfl, hb2⟩; have HB2 := Aside0.mk (below_step HB1.out hb2); clear hb2))
    clear hR hG HB1
    have hn0 : (findI l id).isSome = true → 0 ≤ (gI (findI l id)).f0 ∧ (gI (findI l id)).f0 ≤ 4294967295 := by
      intro h
      cases hf : findI l id with
      | none => rw [hf] at h; cases h
      | some y =>
        have := (findI_mem hf).2
        show 0 ≤ y.f0 ∧ y.f0 ≤ 4294967295
        omega
    generalize gI (findI l id) = q at HH1 hn0 ⊢
    generalize (findI l id).isSome = bq at HH1 hn0 ⊢
    have BK := Aside0.mk (heap_alloc_new w2 (.cells #[.int .u32 q.f0, .int .u32 q.f1, .string q.f2, .bool q.f3, .int .u32 q.f4] 34))
    have HGX := Aside0.mk (show w.heap.size ≤ w2.heap.size from HB2.out.size)
    have HB3 := Aside0.mk (below_alloc HB2.out (.cells #[.int .u32 q.f0, .int .u32 q.f1, .string q.f2, .bool q.f3, .int .u32 q.f4] 34))
    clear HB2
    generalize w2.alloc (.cells #[.int .u32 q.f0, .int .u32 q.f1, .string q.f2, .bool q.f3, .int .u32 q.f4] 34) = w3 at BK HB3 ⊢
    generalize w2.heap.size = gx at BK HGX ⊢
    cases bq
    · have hr : r = ([], 7) := by have := HH1.out; rwa [if_neg (by decide)] at this
      subst hr
      clear HH1
      go_wp2_with (fail)
      go_ret2
      exact ⟨_, rfl, Kd.R_nil _ _ _ _ _, HB3.out⟩
    · have hr := HH1.out
      rw [if_pos rfl] at hr
      have hq := hn0 rfl
      clear hn0
      have HH2 := Aside0.mk hr
      clear hr HH1
      have z0 : w3.cell? ⟨gx, 0, none⟩ = some (.int .u32 q.f0) := (blk_cell BK.out 0).trans rfl
      have z1 : w3.cell? ⟨gx, 1, none⟩ = some (.int .u32 q.f1) := (blk_cell BK.out 1).trans rfl
      have z2 : w3.cell? ⟨gx, 2, none⟩ = some (.string q.f2) := (blk_cell BK.out 2).trans rfl
      have z3 : w3.cell? ⟨gx, 3, none⟩ = some (.bool q.f3) := (blk_cell BK.out 3).trans rfl
      have z4 : w3.cell? ⟨gx, 4, none⟩ = some (.int .u32 q.f4) := (blk_cell BK.out 4).trans rfl
      cases n1 : q.f3
      · by_cases n2 : size > 1024
        · have e2 : decide (size > 1024) = true := decide_eq_true n2
          have hr : r = ([], 15) := by have := HH2.out; rwa [if_neg (by rw [n1]; decide), if_pos n2] at this
          subst hr
          rw [n1] at z3
          clear HH2
          go_wp2_with (fail)
          go_ret2
          exact ⟨_, rfl, Kd.R_nil _ _ _ _ _, HB3.out⟩
        · have e2 : decide (size > 1024) = false := decide_eq_false n2
          have hr : r = (putI l (sized q size), 0) := by have := HH2.out; rwa [if_neg (by rw [n1]; decide), if_neg n2] at this
          subst hr
          rw [n1] at z3
          clear HH2
          have f4 : w3.frozen? ⟨gx, 4, none⟩ = false := blk_frozen BK.out 4
          have HBS := Aside0.mk (below_set (j := 4) (v := .int .u32 size) HB3.out HGX.out)
          have hP := Aside0.mk (fun (w : World) (hC : Kd.C k34 w A0 l.length l) => put_c A0 c0 l (sized q size) w hC HC0.out (by omega) (by omega) HUP.out hq.1 hq.2)
          unfold sized at hP
          rw [n1] at hP
          go_wp2_with (go_at_call 41; refine (hP.out _ (Kd.C_below HR0.out HBS.out)).mono ?_; rintro e w5 ⟨v5, rfl, ho5, hb5⟩; have HO5 := Aside0.mk (Kd.R_lower ho5 HBS.out.size); have HB5 := Aside0.mk (below_step HBS.out hb5); clear ho5 hb5)
          go_ret2
          unfold sized
          rw [n1]
          exact ⟨_, rfl, HO5.out, HB5.out⟩
      · have hr : r = ([], 11) := by have := HH2.out; rwa [if_pos n1] at this
        subst hr
        rw [n1] at z3
        clear HH2
        go_wp2_with (fail)
        go_ret2
        exact ⟨_, rfl, Kd.R_nil _ _ _ _ _, HB3.out⟩
def tree_Resize.f (l : List S34) (id size : Int) : Option (List S34 × Int) := if wfL l = true ∧ 0 ≤ id ∧ id ≤ 4294967295 then some (resizeF l id size) else none
theorem tree_Resize.calls (A0 : Option Addr) (c0 : Nat) (l0 : List S34) (a1 a2 : Int) (r1 : List S34) (r2 : Int) (w : World) (hr0 : Kd.C k34 w A0 l0.length l0) (hc0 : l0.length ≤ c0) (h : tree_Resize.f l0 a1 a2 = some (r1, r2)) :
    Calls Tryd.prog 20 #[.slice A0 l0.length c0, .int .u32 a1, .int .u32 a2] w fun e w' => ∃ v0_ : Value, e = .returned (.tuple #[v0_, .int .i64 r2]) ∧ Kd.R k34 34 w' w.heap.size (fun _ => True) v0_ r1 ∧ Below w.heap.size w w' := by
  unfold tree_Resize.f at h
  by_cases hd : wfL l0 = true ∧ 0 ≤ a1 ∧ a1 ≤ 4294967295
  · rw [if_pos hd] at h
    have h' := Option.some.inj h
    have q := resize_c A0 c0 l0 a1 a2 w hr0 hc0 hd.1 hd.2.1 hd.2.2
    rw [h'] at q
    exact q
  · rw [if_neg hd] at h
    cases h
end Go.Proofs.YthbdgahmlggpmaaDoor.Q
/- The contract of the laws' own helper alive: it answers true. -/


namespace Go.Proofs.YthbdgahmlggpmaaDoor.Q
open Go.RowKit Go.Proofs.YthbdgahmlggpmaaDoorW.PrintWords Go.Proofs.YthbdgahmlggpmaaDoorW.PrintLast Go.Proofs.YthbdgahmlggpmaaDoorW.PrintMore
set_option linter.unusedVariables false
set_option linter.unusedSimpArgs false
attribute [local go_sem high] eqA34
def w10_root.f  : Option ((List (S34))) := some (([(⟨1, 0, (⟨#[]⟩ : ByteArray), true, 0⟩ : S34)] : List (S34)))
set_option maxHeartbeats 8000000 in
set_option maxRecDepth 100000 in
theorem w10_root.calls  (r : List (S34)) (w : World) (h : w10_root.f  = some r) :
    Calls Tryd.prog 33 #[] w fun e w' => ∃ v0_ : Value, e = .returned (v0_) ∧ Kd.R k34 34 w' w.heap.size (fun _ => True) v0_ r ∧ Below w.heap.size w w' := by
  have hu34 := Tryd.underlying34
  have HB := Aside0.mk (Below.refl w.heap.size w)
  have H : (some (([(⟨1, 0, (⟨#[]⟩ : ByteArray), true, 0⟩ : S34)] : List (S34)))) = some r := h
  clear h
  obtain ⟨y147, hy147⟩ : ∃ y_ : List (S34), y_ = (([(⟨1, 0, (⟨#[]⟩ : ByteArray), true, 0⟩ : S34)] : List (S34))) := ⟨_, rfl⟩
  replace H : (some y147) = some r := by first | (rw [hy147]; with_reducible exact H) | (have H2_ := (Option.bind_some _ _).symm.trans H; rw [hy147]; with_reducible exact H2_) | (have H2_ := (Option.bind_some _ _).symm.trans H; with_reducible exact H2_) | with_reducible exact H | (rw [hy147]; exact H) | exact H
  have Ny147 := Aside0.mk hy147
  clear hy147
  obtain rfl := Option.some.inj H
  go_enter Tryd.func33, Tryd.ntmps33
  go_wp2_with (first | ((with_reducible refine gate_dst (N := 2) rfl ?_); refine Kd.R_lit k34 _ 34 ?hg (N := 2) ?hd (xs := ([(⟨1, 0, (⟨#[]⟩ : ByteArray), true, 0⟩ : S34)] : List (S34))) (inner := [.int .u32 1, .int .u32 0, .string (⟨#[]⟩ : ByteArray), .bool true, .int .u32 0]) (ok := fun _ => True) (okp := fun _ => True) ?hr ?hp (fun _ hk => hk) trivial (Below.refl _ _) (Nat.le_refl _) (by simp) ?_; (case hd => rfl); (case hg => rfl); (case hr => first | (go_simp; done) | (go_simp; rfl)); (case hp => exact (Reps.c5 (show Kd.M k34 _ _ _ (⟨1, 0, (⟨#[]⟩ : ByteArray), true, 0⟩ : S34) [.int .u32 1, .int .u32 0, .string (⟨#[]⟩ : ByteArray), .bool true, .int .u32 0] from (k34_mkM _ _ _ (⟨1, 0, (⟨#[]⟩ : ByteArray), true, 0⟩ : S34) )) (Reps.none _ _))); intro v148 w1 ho2 hb hg_ hnew_; clear hg_ hnew_; (first | rw [← Ny147.out] at ho2 | (simp only [Int.reduceToNat] at ho2; rw [← Ny147.out] at ho2)); have n0_ := Aside0.mk (Kd.R_lower ho2 (below_size (by repeat (first | (with_reducible first | exact HB.out | apply below_alloc | apply pw_below_drewN | apply below_drew1) | exact HB.out)))); have n1_ := Aside0.mk (below_step (by repeat (first | (with_reducible first | exact HB.out | apply below_alloc | apply pw_below_drewN | apply below_drew1) | exact HB.out)) hb); clear HB; have HO149 := n0_; have HB := n1_; clear n0_ n1_; clear hb ho2))
  go_ret
  exact ⟨_, by first | rfl | (simp [errW_none, errW_some] <;> rfl) | (simp [*, errW_none, errW_some] <;> rfl), by (with_reducible repeat (first | apply Kd.R_alloc | apply Kd.R_drewN | apply Kd.R_drew)); exact HO149.out, by repeat (first | (with_reducible first | exact HB.out | apply below_alloc | apply pw_below_drewN | apply below_drew1) | exact HB.out)⟩
def rtL : List S34 := [⟨1, 0, ⟨#[]⟩, true, 0⟩]
def alA : List S34 := [⟨1, 0, ⟨#[]⟩, true, 0⟩, ⟨2, 1, ⟨#[97]⟩, true, 0⟩]
def alB : List S34 := [⟨1, 0, ⟨#[]⟩, true, 0⟩, ⟨2, 1, ⟨#[97]⟩, true, 0⟩, ⟨3, 2, ⟨#[98]⟩, false, 0⟩]
def alC : List S34 := [⟨1, 0, ⟨#[]⟩, true, 0⟩, ⟨2, 1, ⟨#[100]⟩, true, 0⟩, ⟨3, 2, ⟨#[98]⟩, false, 0⟩]
def sameL : List S34 → List S34 → Bool
  | [], [] => true
  | x :: xs, y :: ys => x.f0 == y.f0 && x.f1 == y.f1 && x.f2.data.toList == y.f2.data.toList && x.f3 == y.f3 && x.f4 == y.f4 && sameL xs ys
  | _, _ => false
theorem sameL_eq : ∀ xs ys : List S34, sameL xs ys = true → xs = ys
  | [], [], _ => rfl
  | [], _ :: _, h => by cases h
  | _ :: _, [], h => by cases h
  | x :: xs, y :: ys, h => by
    obtain ⟨x0, x1, ⟨x2⟩, x3, x4⟩ := x
    obtain ⟨y0, y1, ⟨y2⟩, y3, y4⟩ := y
    simp only [sameL, Bool.and_eq_true, beq_iff_eq] at h
    obtain ⟨⟨⟨⟨⟨rfl, rfl⟩, h2⟩, rfl⟩, rfl⟩, h3⟩ := h
    have := Array.toList_inj.1 h2
    subst this
    rw [sameL_eq xs ys h3]
theorem mk_of {o : Option (List S34 × Int)} {l : List S34} {e : Int} (h : (match o with | some (r, e') => sameL r l && e' == e | none => false) = true) : o = some (l, e) := by
  match o, h with
  | some (r, e'), h =>
    simp only [Bool.and_eq_true, beq_iff_eq] at h
    rw [sameL_eq _ _ h.1, h.2]
theorem fd_of {o : Option (Int × Int × ByteArray × Bool × Int × Int)} {a b c d : Int} {s : ByteArray} {f : Bool} (h : (match o with | some (a', b', s', f', c', d') => a' == a && b' == b && s'.data.toList == s.data.toList && f' == f && c' == c && d' == d | none => false) = true) : o = some (a, b, s, f, c, d) := by
  match o, h with
  | some (a', b', ⟨s'⟩, f', c', d'), h =>
    obtain ⟨s⟩ := s
    simp only [Bool.and_eq_true, beq_iff_eq] at h
    obtain ⟨⟨⟨⟨⟨rfl, rfl⟩, h2⟩, rfl⟩, rfl⟩, rfl⟩ := h
    rw [Array.toList_inj.1 h2]
theorem al1 : tree_Make.f rtL ⟨#[47, 97]⟩ 2 true = some (alA, 0) := mk_of (by kernel_rfl)
theorem al2 : tree_Make.f alA ⟨#[47, 97, 47, 98]⟩ 3 false = some (alB, 0) := mk_of (by kernel_rfl)
theorem al3 : tree_Find.f alB ⟨#[47, 97, 47, 98]⟩ = some (3, 2, ⟨#[98]⟩, false, 0, 0) := fd_of (by kernel_rfl)
theorem al4 : tree_Rename.f alB ⟨#[47, 97]⟩ ⟨#[47, 97, 47, 99]⟩ = some ([], 1) := mk_of (by kernel_rfl)
theorem al5 : tree_Rename.f alB ⟨#[47, 97]⟩ ⟨#[47, 100]⟩ = some (alC, 0) := mk_of (by kernel_rfl)
theorem al6 : tree_Find.f alC ⟨#[47, 100, 47, 98]⟩ = some (3, 2, ⟨#[98]⟩, false, 0, 0) := fd_of (by kernel_rfl)
theorem al7 : tree_Right.f alC = some true := by kernel_rfl
def w10_alive.f : Option Bool := some true
set_option maxHeartbeats 4000000 in
set_option maxRecDepth 100000 in
theorem w10_alive.calls (r : Bool) (w : World) (h : w10_alive.f = some r) : Calls Tryd.prog 11 #[] w fun e w' => e = .returned (.bool r) ∧ Below w.heap.size w w' := by
  obtain rfl : true = r := Option.some.inj h
  clear h
  have hu34 := Tryd.underlying34
  go_enter Tryd.func11, Tryd.ntmps11
  go_upto_region 4 with (first
    | (go_at_call 33; refine (w10_root.calls rtL _ rfl).mono ?_; rintro e w1 ⟨v1, rfl, ho1, hb1⟩; obtain ⟨A1, c1, rfl⟩ := Kd.R_slice ho1; have HC1 := Aside0.mk (Kd.R_reads' ho1).2.2; have HL1 := Aside0.mk (Kd.R_reads' ho1).2.1; have HB1 := Aside0.mk hb1; clear ho1 hb1)
    | (go_at_call 22; refine (tree_Make.calls A1 c1 rtL _ _ _ alA 0 _ HC1.out HL1.out al1).mono ?_; rintro e w2 ⟨v2, rfl, ho2, hb2⟩; obtain ⟨A2, c2, rfl⟩ := Kd.R_slice ho2; have HC2 := Aside0.mk (Kd.R_reads' ho2).2.2; have HL2 := Aside0.mk (Kd.R_reads' ho2).2.1; have HB2 := Aside0.mk (below_step HB1.out hb2); clear ho2 hb2 HB1 HC1 HL1)
    | (go_at_call 22; refine (tree_Make.calls A2 c2 alA _ _ _ alB 0 _ HC2.out HL2.out al2).mono ?_; rintro e w3 ⟨v3, rfl, ho3, hb3⟩; obtain ⟨A3, c3, rfl⟩ := Kd.R_slice ho3; have HC3 := Aside0.mk (Kd.R_reads' ho3).2.2; have HL3 := Aside0.mk (Kd.R_reads' ho3).2.1; have HB3 := Aside0.mk (below_step HB2.out hb3); clear ho3 hb3 HB2 HC2 HL2)
    | (go_at_call 26; refine (tree_Find.calls A3 c3 alB _ _ _ _ _ _ _ _ HC3.out HL3.out al3).mono ?_; rintro e w4 ⟨rfl, hb4⟩; have HB4 := Aside0.mk (below_step HB3.out hb4); have HC4 := Aside0.mk (Kd.C_below HC3.out hb4); clear hb4 HB3 HC3))
  have BK4 := Aside0.mk (heap_alloc_new w4 (.cells #[.int .u32 3, .int .u32 2, .string ⟨#[98]⟩, .bool false, .int .u32 0] 34))
  have HB5 := Aside0.mk (below_alloc HB4.out (.cells #[.int .u32 3, .int .u32 2, .string ⟨#[98]⟩, .bool false, .int .u32 0] 34))
  have HC5 := Aside0.mk (Kd.C_alloc HC4.out (.cells #[.int .u32 3, .int .u32 2, .string ⟨#[98]⟩, .bool false, .int .u32 0] 34))
  clear HB4 HC4
  generalize w4.alloc (.cells #[.int .u32 3, .int .u32 2, .string ⟨#[98]⟩, .bool false, .int .u32 0] 34) = w5 at BK4 HB5 HC5 ⊢
  generalize w4.heap.size = g5 at BK4 ⊢
  go_upto_region 7 with (first
    | (go_at_call 13; refine (tree_Rename.calls A3 c3 alB _ _ [] 1 _ HC5.out HL3.out al4).mono ?_; rintro e w6 ⟨v6, rfl, ho6, hb6⟩; have HC6 := Aside0.mk (Kd.C_below HC5.out hb6); have BK6 := Aside0.mk (blk_below BK4.out hb6); have HB6 := Aside0.mk (below_step HB5.out hb6); clear ho6 hb6 HC5 BK4 HB5)
    | (go_at_call 13; refine (tree_Rename.calls A3 c3 alB _ _ alC 0 _ HC6.out HL3.out al5).mono ?_; rintro e w7 ⟨v7, rfl, ho7, hb7⟩; obtain ⟨A7, c7, rfl⟩ := Kd.R_slice ho7; have HC7 := Aside0.mk (Kd.R_reads' ho7).2.2; have HL7 := Aside0.mk (Kd.R_reads' ho7).2.1; have BK7 := Aside0.mk (blk_below BK6.out hb7); have HB7 := Aside0.mk (below_step HB6.out hb7); clear ho7 hb7 HC6 BK6 HB6 HL3)
    | (go_at_call 26; refine (tree_Find.calls A7 c7 alC _ _ _ _ _ _ _ _ HC7.out HL7.out al6).mono ?_; rintro e w8 ⟨rfl, hb8⟩; have HC8 := Aside0.mk (Kd.C_below HC7.out hb8); have BK8 := Aside0.mk (blk_below BK7.out hb8); have HB8 := Aside0.mk (below_step HB7.out hb8); clear hb8 HC7 BK7 HB7))
  have BK9 := Aside0.mk (heap_alloc_new w8 (.cells #[.int .u32 3, .int .u32 2, .string ⟨#[98]⟩, .bool false, .int .u32 0] 34))
  have BK10 := Aside0.mk (blk_alloc BK8.out (.cells #[.int .u32 3, .int .u32 2, .string ⟨#[98]⟩, .bool false, .int .u32 0] 34))
  have HB9 := Aside0.mk (below_alloc HB8.out (.cells #[.int .u32 3, .int .u32 2, .string ⟨#[98]⟩, .bool false, .int .u32 0] 34))
  have HC9 := Aside0.mk (Kd.C_alloc HC8.out (.cells #[.int .u32 3, .int .u32 2, .string ⟨#[98]⟩, .bool false, .int .u32 0] 34))
  clear HB8 HC8 BK8
  generalize w8.alloc (.cells #[.int .u32 3, .int .u32 2, .string ⟨#[98]⟩, .bool false, .int .u32 0] 34) = w9 at BK9 BK10 HB9 HC9 ⊢
  generalize w8.heap.size = g9 at BK9 ⊢
  have k0 : w9.cell? ⟨g5, 0, none⟩ = some (.int .u32 3) := (blk_cell BK10.out 0).trans rfl
  have k1 : w9.cell? ⟨g5, 1, none⟩ = some (.int .u32 2) := (blk_cell BK10.out 1).trans rfl
  have k2 : w9.cell? ⟨g5, 2, none⟩ = some (.string ⟨#[98]⟩) := (blk_cell BK10.out 2).trans rfl
  have k3 : w9.cell? ⟨g5, 3, none⟩ = some (.bool false) := (blk_cell BK10.out 3).trans rfl
  have k4 : w9.cell? ⟨g5, 4, none⟩ = some (.int .u32 0) := (blk_cell BK10.out 4).trans rfl
  have m0 : w9.cell? ⟨g9, 0, none⟩ = some (.int .u32 3) := (blk_cell BK9.out 0).trans rfl
  have hR := Aside0.mk (tree_Right.calls A7 c7 alC true w9 HC9.out HL7.out al7)
  go_wp2_with (go_at_call 19; refine hR.out.mono ?_; rintro e w10 ⟨rfl, hb10⟩; have HB10 := Aside0.mk (below_step HB9.out hb10); clear hb10)
  go_ret
  exact ⟨rfl, HB10.out⟩
end Go.Proofs.YthbdgahmlggpmaaDoor.Q
