/- Contracts and plain theory of this seat, merged out of smaller texts: RW, T4, T5, T5a, T5b, T5c, T5d. -/
import Derived.Test.YthbdgahmlggpmaaDoorQ0
import Derived.Outline
import Derived.Lib.SliceRun
import Derived.Laws.CopyRow
import Derived.Lib.AppendZerosOnto
import Derived.Lib.Overlaps
import Derived.Shelf.Spec.SlicesInsert
import Derived.Deep.RegionLaw
import Derived.Shelf.Spec.SlicesInsertGrow
import Derived.Test.YthbdgahmlggpmaaDoorM3
import Derived.Laws.CopyOwn
/- Rows of inodes as plain cells of a block. -/

namespace Go.Proofs.YthbdgahmlggpmaaDoor.Q
open Go.RowKit Go.Proofs.YthbdgahmlggpmaaDoorW.PrintWords Go.Proofs.YthbdgahmlggpmaaDoorW.PrintLast Go.Proofs.YthbdgahmlggpmaaDoorW.PrintMore
set_option linter.unusedVariables false
set_option linter.unusedSimpArgs false
def c5 (x : S34) : List Value := [.int .u32 x.f0, .int .u32 x.f1, .string x.f2, .bool x.f3, .int .u32 x.f4]
def flat (xs : List S34) : List Value := xs.flatMap c5
theorem c5_length (x : S34) : (c5 x).length = 5 := rfl
theorem flat_nil : flat [] = [] := rfl
theorem flat_cons (x : S34) (xs : List S34) : flat (x :: xs) = c5 x ++ flat xs := rfl
theorem flat_append (a b : List S34) : flat (a ++ b) = flat a ++ flat b := List.flatMap_append
theorem flat_length : ∀ xs : List S34, (flat xs).length = xs.length * 5
  | [] => rfl
  | x :: xs => by rw [flat_cons, List.length_append, c5_length, flat_length xs, List.length_cons]; omega
theorem flat_drop : ∀ (xs : List S34) (j : Nat), (flat xs).drop (j * 5) = flat (xs.drop j)
  | xs, 0 => by simp
  | [], j + 1 => by simp [flat_nil]
  | x :: xs, j + 1 => by
    rw [flat_cons, List.drop_succ_cons, ← flat_drop xs j, show (j + 1) * 5 = (c5 x).length + j * 5 by rw [c5_length]; omega, List.drop_append, List.drop_eq_nil_of_le (by omega), List.nil_append, Nat.add_sub_cancel_left]
theorem flat_take : ∀ (xs : List S34) (j : Nat), (flat xs).take (j * 5) = flat (xs.take j)
  | xs, 0 => by simp [flat_nil]
  | [], j + 1 => by simp [flat_nil]
  | x :: xs, j + 1 => by
    rw [flat_cons, List.take_succ_cons, flat_cons, ← flat_take xs j, show (j + 1) * 5 = (c5 x).length + j * 5 by rw [c5_length]; omega, List.take_append, List.take_of_length_le (by omega), Nat.add_sub_cancel_left]
theorem flat_at (xs : List S34) (j : Nat) (x : S34) (h : xs[j]? = some x) : ((flat xs).drop (j * 5)).take 5 = c5 x := by
  rw [flat_drop]
  have hj : j < xs.length := (List.getElem?_eq_some_iff.1 h).1
  rw [List.drop_eq_getElem_cons hj, flat_cons]
  have : xs[j] = x := (List.getElem?_eq_some_iff.1 h).2
  rw [this]
  exact List.take_left' (c5_length x)
theorem flat_reps {R : S34 → List Value → Prop} (h : ∀ p, R p (c5 p)) (xs : List S34) : Reps R 5 xs (flat xs) :=
  ⟨flat_length xs, fun j p hj => by rw [flat_at xs j p hj]; exact h p⟩
theorem reps_flat {R : S34 → List Value → Prop} (h : ∀ p c, R p c → c = c5 p) : ∀ (xs : List S34) (cs : List Value), Reps R 5 xs cs → cs = flat xs
  | [], cs, hr => by
    have : cs.length = 0 := by simpa using hr.1
    rw [List.length_eq_zero_iff.1 this, flat_nil]
  | x :: xs, cs, hr => by
    have h0 := h _ _ (hr.2 0 x rfl)
    rw [Nat.zero_mul, List.drop_zero] at h0
    have ih := reps_flat h xs (cs.drop 5) ⟨by have := hr.1; simp only [List.length_cons] at this; rw [List.length_drop]; omega, fun j p hj => by
      have := hr.2 (j + 1) p (by simpa using hj)
      rw [List.drop_drop]
      rwa [show 5 + j * 5 = (j + 1) * 5 by omega]⟩
    rw [flat_cons, ← ih, ← h0, List.take_append_drop]
/-- A row of inodes that begins at a block's head. -/
structure Row (w : World) (g cap : Nat) (cur : Array Value) (xs : List S34) : Prop where
  heap : w.heap[g]? = some (.cells cur 34 (0, 0))
  le : xs.length ≤ cap
  max : cap ≤ 9223372036854775807
  size : cur.size = cap * 5
  cells : cur.toList.take (xs.length * 5) = flat xs
theorem row_of_R {w : World} {base : Nat} {ok : Nat → Prop} {v : Value} {xs : List S34} (h : Kd.R k34 34 w base ok v xs) (hp : 0 < xs.length) : ∃ g cap cur, v = .slice (some ⟨g, 0, none⟩) xs.length cap ∧ base ≤ g ∧ Row w g cap cur xs := by
  obtain ⟨_, inner, hown, hrep⟩ := h
  have hf := reps_flat (fun p c hM => k34_openM hM) xs inner hrep
  obtain ⟨h1, h2⟩ := hown
  rcases h2 with ⟨_, h0⟩ | ⟨g, cap, cur, hv, hb, hg, hle, hmax, hsz, hc⟩
  · omega
  · exact ⟨g, cap, cur, hv, hb, hg, hle, by unfold maxLen at hmax; exact hmax, hsz, by rw [← hf]; exact hc⟩
theorem R_of_row {w : World} {base g cap : Nat} {cur : Array Value} {xs : List S34} (h : Row w g cap cur xs) (hb : base ≤ g) : Kd.R k34 34 w base (fun _ => True) (.slice (some ⟨g, 0, none⟩) xs.length cap) xs :=
  ⟨fun _ _ => trivial, flat xs, ⟨flat_length xs, .inr ⟨g, cap, cur, rfl, hb, h.heap, h.le, by unfold maxLen; exact h.max, h.size, h.cells⟩⟩, flat_reps (fun p => k34_mkM _ _ _ p) xs⟩
end Go.Proofs.YthbdgahmlggpmaaDoor.Q
/- The contract of slices.Clone at []api.Inode, for every list of at most 1000 elements. -/



namespace Go.Proofs.YthbdgahmlggpmaaDoor.Q
open Go.RowKit Go.Proofs.YthbdgahmlggpmaaDoorW.PrintWords Go.Proofs.YthbdgahmlggpmaaDoorW.PrintLast Go.Proofs.YthbdgahmlggpmaaDoorW.PrintMore
set_option linter.unusedVariables false
set_option linter.unusedSimpArgs false
def clone34.f (l : List S34) : Option (List S34) := if l.length ≤ 1000 then some l else none
set_option maxHeartbeats 4000000 in
set_option maxRecDepth 100000 in
theorem clone34.calls (A0 : Option Addr) (c0 : Nat) (l0 : List S34) (r : List S34) (w : World) (hr0 : Kd.C k34 w A0 l0.length l0) (hc0 : l0.length ≤ c0) (h : clone34.f l0 = some r) :
    Calls Tryd.prog 39 #[.slice A0 l0.length c0] w fun e w' => ∃ v0_ : Value, e = .returned v0_ ∧ Kd.R k34 34 w' w.heap.size (fun _ => True) v0_ r ∧ Below w.heap.size w w' := by
  unfold clone34.f at h
  by_cases hl : l0.length ≤ 1000
  · rw [if_pos hl] at h
    cases h
    have q22 : ∀ (w : World) (a : Option Addr) (n c n' c' : Nat), (binOp .eql 22 (.slice a n c) (.slice none n' c')).run Tryd.prog w = .ok (.bool a.isNone) w := fun w a n c n' c' => Lib.run_eql_slice_nil w _ _ a n c n' c' Tryd.underlying22
    have HR0 := Aside0.mk hr0
    have HC0 := Aside0.mk hc0
    cases A0 with
    | none =>
      have hn : l0.length = 0 := by
        rcases Nat.eq_zero_or_pos l0.length with h | h
        · exact h
        · obtain ⟨ad, e, _⟩ := at_T34 hr0 0 (by omega) (by omega)
          cases e
      have hl0 := List.length_eq_zero_iff.1 hn
      subst hl0
      go_enter Tryd.func39, Tryd.ntmps39
      go_wp2_with (fail)
      go_ret
      exact ⟨_, rfl, Kd.R_nil _ _ _ _ _, Below.refl _ _⟩
    | some ad =>
      clear hr0 hc0
      go_enter Tryd.func39, Tryd.ntmps39
      go_wp2_with (first | ((with_reducible refine gate_dst (N := 5) rfl ?_); refine Kd.R_lit k34 _ 34 ?hg (N := 5) ?hd (xs := ([] : List (S34))) (inner := []) (ok := fun _ => True) (okp := fun _ => True) ?hr ?hp (fun _ hk => hk) trivial (Below.refl _ _) (Nat.le_refl _) (by simp) ?_; (case hd => rfl); (case hg => rfl); (case hr => first | (go_simp; done) | (go_simp; rfl)); (case hp => exact (Reps.none _ _)); intro v1 w1 ho1 hb1 hg_ hnew_; have HO1 := Aside0.mk ho1; have HB1 := Aside0.mk hb1; clear ho1 hb1 hg_ hnew_) | ((with_reducible refine gate_builtin (b := .append) (xs := #[.tmp 5, .tmp 6]) rfl ?_); at_builtin; refine Kd.R_append_rows k34 (w0 := w) w.heap.size rfl (.tmp 5) (.tmp 6) 22 34 (.agg #[(.int .u32 0), (.int .u32 0), (.string ⟨#[]⟩), (.bool false), (.int .u32 0)]) 32 rfl Tryd.underlying22 info34 rfl (by decide) (by omega) v1 ([] : List S34) l0 _ _ _ (fun _ => True) (fun _ => False) rfl rfl HO1.out (Kd.C_below HR0.out HB1.out) (fun _ _ h => h) (fun _ h => h.elim) (fun _ _ => trivial) HB1.out HB1.out.size (by simp; omega) ?_; intro v2 w2 ho2 hb2 hg hat; rw [List.nil_append] at ho2; have HO2 := Aside0.mk ho2; have HB2 := Aside0.mk hb2; clear ho2 hb2 hg hat))
      go_ret
      exact ⟨_, rfl, HO2.out, HB2.out⟩
  · rw [if_neg hl] at h
    cases h
end Go.Proofs.YthbdgahmlggpmaaDoor.Q
/- slices.Insert of one inode, where there is room, and where there is none. -/






namespace Go.Proofs.YthbdgahmlggpmaaDoor.Q
open Go.RowKit Go.Proofs.YthbdgahmlggpmaaDoorW.PrintWords Go.Proofs.YthbdgahmlggpmaaDoorW.PrintLast Go.Proofs.YthbdgahmlggpmaaDoorW.PrintMore
set_option linter.unusedVariables false
set_option linter.unusedSimpArgs false
theorem run_copy5 {P : Program} (w : World) (dT sT ty elem : TypeId) (g o dLen dCap : Nat) (a : Addr) (sLen sCap : Nat) (cur : Array Value) (t : TypeId) (cs : List Value)
    (hu : P.underlying dT = some (.slice elem)) (hs : (P.info? elem).map (·.size) = some 5)
    (hg : w.heap[g]? = some (.cells cur t (0, 0))) (hn : cs.length = Nat.min sLen dLen * 5)
    (hsrc : ∀ j v, cs[j]? = some v → w.cell? (a.add j) = some v) (hfit : o + cs.length ≤ cur.size) (h1 : ∀ v ∈ cs, v.oneCell' = true) :
    (Builtin.copy_ #[dT, sT] ty #[.slice (some ⟨g, o, none⟩) dLen dCap, .slice (some a) sLen sCap]).run P w =
      .ok (goInt (Nat.min sLen dLen)) (w.setRow g (cur.toList.take o ++ cs ++ cur.toList.drop (o + cs.length)).toArray) := by
  have hl := run_loadCells_list (P := P) w a cs hsrc
  have hst := run_storeCells_at P g o t cs 0 cur w hg (by simpa using hfit) h1
  cases hq : P.info? elem with
  | none => simp [hq] at hs
  | some i =>
    have hi : i.size = 5 := by simpa [hq] using hs
    simp [Builtin.copy_, run_underlying hu, Builtin.lenOf, Builtin.firstCells, sizeOf, typeInfo, hq, hi, ← hn, hl, hst]
theorem flat_one : ∀ (xs : List S34) (v : Value), v ∈ flat xs → v.oneCell' = true
  | [], v, h => by cases h
  | x :: xs, v, h => by
    rw [flat_cons] at h
    rcases List.mem_append.1 h with h | h
    · simp only [c5, List.mem_cons, List.not_mem_nil, or_false] at h
      rcases h with rfl | rfl | rfl | rfl | rfl <;> rfl
    · exact flat_one xs v h
theorem row_cell {w : World} {g cap : Nat} {cur : Array Value} {xs : List S34} (h : Row w g cap cur xs) (k : Nat) (hk : k < xs.length * 5) : w.cell? ⟨g, k, none⟩ = (flat xs)[k]? := by
  rw [blk_cell h.heap, ← h.cells, List.getElem?_take, if_pos hk]
  simp
/-- What a splice of cells makes of a row. -/
theorem shift_cells (cur : List Value) (l : List S34) (x : S34) (i cap : Nat) (hi : i ≤ l.length) (hcap : l.length + 1 ≤ cap) (hsz : cur.length = cap * 5) (hc : cur.take (l.length * 5) = flat l) :
    let c1 := cur.take ((i + 1) * 5) ++ flat (l.drop i) ++ cur.drop ((i + 1) * 5 + (flat (l.drop i)).length)
    let c2 := c1.take (i * 5) ++ c5 x ++ c1.drop (i * 5 + 5)
    c1.length = cap * 5 ∧ c2.length = cap * 5 ∧ c2.take ((l.length + 1) * 5) = flat (l.take i ++ x :: l.drop i) := by
  intro c1 c2
  have hdl : (flat (l.drop i)).length = (l.length - i) * 5 := by rw [flat_length, List.length_drop]
  have h1 : c1.length = cap * 5 := by simp only [c1, List.length_append, List.length_take, List.length_drop, hsz, hdl]; omega
  have h2 : c2.length = cap * 5 := by simp only [c2, List.length_append, List.length_take, List.length_drop, h1, c5_length]; omega
  refine ⟨h1, h2, ?_⟩
  have e1 : c1.take (i * 5) = flat (l.take i) := by
    simp only [c1]
    rw [List.append_assoc, List.take_append_of_le_length (by rw [List.length_take, hsz]; omega), List.take_take, Nat.min_eq_left (by omega), ← flat_take, ← hc, List.take_take, Nat.min_eq_left (by omega)]
  have e2 : c1.drop (i * 5 + 5) = flat (l.drop i) ++ cur.drop ((i + 1) * 5 + (flat (l.drop i)).length) := by
    simp only [c1]
    rw [List.append_assoc, List.drop_append, List.drop_eq_nil_of_le (by rw [List.length_take]; omega), List.nil_append, List.length_take, hsz, Nat.min_eq_left (by omega), show i * 5 + 5 - (i + 1) * 5 = 0 by omega, List.drop_zero]
  simp only [c2]
  rw [e1, e2, flat_append, flat_cons, List.append_assoc, ← List.append_assoc (c5 x), ← List.append_assoc, List.take_append, List.length_append, List.length_append, c5_length, flat_length, flat_length, List.length_take, List.length_drop]
  rw [List.take_of_length_le (by simp only [List.length_append, c5_length, flat_length, List.length_take, List.length_drop]; omega)]
  rw [show (l.length + 1) * 5 - (min i l.length * 5 + (5 + (l.length - i) * 5)) = 0 by omega, List.take_zero, List.append_nil]
end Go.Proofs.YthbdgahmlggpmaaDoor.Q
/- slices.Insert of one inode ahead of the end, where there is room: in place. -/


namespace Go.Proofs.YthbdgahmlggpmaaDoor.Q
open Go.RowKit Go.Proofs.YthbdgahmlggpmaaDoorW.PrintWords Go.Proofs.YthbdgahmlggpmaaDoorW.PrintLast Go.Proofs.YthbdgahmlggpmaaDoorW.PrintMore
set_option linter.unusedVariables false
set_option linter.unusedSimpArgs false
set_option maxHeartbeats 4000000 in
set_option maxRecDepth 100000 in
theorem ins_shift (g cap gv vc : Nat) (cur : Array Value) (l : List S34) (x : S34) (i : Nat) (w : World) (hr : Row w g cap cur l) (hv : w.heap[gv]? = some (.cells (c5 x).toArray 34 (0, 0))) (hne : gv ≠ g) (hi : i < l.length) (hroom : l.length + 1 ≤ cap) (hl : l.length ≤ 1000) :
    Calls Tryd.prog 64 #[.slice (some ⟨g, 0, none⟩) l.length cap, .int .i64 i, .slice (some ⟨gv, 0, none⟩) 1 vc] w fun e w' => e = .returned (.slice (some ⟨g, 0, none⟩) (l.length + 1) cap) ∧ (∃ cur', Row w' g cap cur' (l.take i ++ x :: l.drop i)) ∧ w.grownBy w' (some g) := by
  have hcap63 := hr.max
  have hsc := shift_cells cur.toList l x i cap (by omega) hroom (by rw [Array.length_toList]; exact hr.size) hr.cells
  have hz2 : ¬ ((i : Int) = (l.length : Int)) := by omega
  have hz3 : ¬ ((cap : Int) < (l.length : Int) + 1) := by omega
  have hov : ∀ lb cb, (callFunc 72 #[.slice (some ⟨gv, 0, none⟩) 1 vc, .slice (some ⟨g, (i + 1) * 5, none⟩) lb cb]).run Tryd.prog w = .ok (.value (.bool false)) w := fun lb cb => by
    rw [run_callFunc_extern Tryd.func72 (by kernel_rfl) (by kernel_rfl) (by kernel_rfl) (e := Extern.SlicesOverlaps.overlaps #[22, 22] #[4]) (by kernel_rfl),
      Lib.run_overlaps_apart w 22 4 34 Tryd.underlying22 5 (by intro w; kernel_rfl) ⟨gv, 0, none⟩ ⟨g, (i + 1) * 5, none⟩ 1 vc lb cb hne 34 34 5 (cap * 5) (by simp [World.shape?, hv, c5]) (by simp [World.shape?, hr.heap, hr.size]) (by omega) (blk_frozen hv 0) (blk_frozen hv 5)]
    rfl
  have hdl : (flat (l.drop i)).length = (l.length - i) * 5 := by rw [flat_length, List.length_drop]
  have hs5 : (Tryd.prog.info? 34).map (·.size) = some 5 := by kernel_rfl
  obtain ⟨c1, hc1⟩ : ∃ c1, c1 = cur.toList.take ((i + 1) * 5) ++ flat (l.drop i) ++ cur.toList.drop ((i + 1) * 5 + (flat (l.drop i)).length) := ⟨_, rfl⟩
  obtain ⟨c2, hc2⟩ : ∃ c2, c2 = c1.take (i * 5) ++ c5 x ++ c1.drop (i * 5 + 5) := ⟨_, rfl⟩
  obtain ⟨l1, l2, l3⟩ : c1.length = cap * 5 ∧ c2.length = cap * 5 ∧ c2.take ((l.length + 1) * 5) = flat (l.take i ++ x :: l.drop i) := by rw [hc2, hc1]; exact hsc
  have hcp1 : Aside0 (∀ ty dc sc, (Builtin.copy_ #[22, 22] ty #[.slice (some ⟨g, (i + 1) * 5, none⟩) (l.length - i) dc, .slice (some ⟨g, i * 5, none⟩) (l.length + 1 - i) sc]).run Tryd.prog w.drew = .ok (goInt (l.length - i)) (w.drew.setRow g c1.toArray)) := ⟨fun ty dc sc => by
    have h := run_copy5 (P := Tryd.prog) w.drew 22 22 ty 34 g ((i + 1) * 5) (l.length - i) dc ⟨g, i * 5, none⟩ (l.length + 1 - i) sc cur 34 (flat (l.drop i)) Tryd.underlying22 hs5 hr.heap (by rw [hdl]; congr 1; simp only [Nat.min_def]; split <;> omega)
      (fun j v hj => by
        rw [Addr.add_lit]
        show w.cell? ⟨g, i * 5 + j, none⟩ = some v
        have hjl := (List.getElem?_eq_some_iff.1 hj).1
        rw [hdl] at hjl
        rw [row_cell hr _ (by omega), ← List.getElem?_drop, flat_drop]
        exact hj)
      (by rw [hdl, hr.size]; omega) (fun v hv => flat_one _ v hv)
    rw [← hc1] at h
    rw [h]
    congr 2
    simp only [Nat.min_def]; split <;> omega⟩
  have hW1 : (w.drew.setRow g c1.toArray).heap[g]? = some (.cells c1.toArray 34 (0, 0)) := setRow_heap _ _ _ _ _ _ hr.heap
  have hV1 : (w.drew.setRow g c1.toArray).heap[gv]? = some (.cells (c5 x).toArray 34 (0, 0)) := (setRow_other _ _ _ _ hne).trans hv
  obtain ⟨W1, hWW⟩ : ∃ W1, W1 = w.drew.setRow g c1.toArray := ⟨_, rfl⟩
  rw [← hWW] at hcp1 hW1 hV1
  have hcp2 : Aside0 (∀ ty dc, (Builtin.copy_ #[22, 22] ty #[.slice (some ⟨g, i * 5, none⟩) (l.length + 1 - i) dc, .slice (some ⟨gv, 0, none⟩) 1 vc]).run Tryd.prog W1 = .ok (goInt 1) (W1.setRow g c2.toArray)) := ⟨fun ty dc => by
    have h := run_copy5 (P := Tryd.prog) W1 22 22 ty 34 g (i * 5) (l.length + 1 - i) dc ⟨gv, 0, none⟩ 1 vc c1.toArray 34 (c5 x) Tryd.underlying22 hs5 hW1 (by rw [c5_length]; simp only [Nat.min_def]; split <;> omega)
      (fun j v hj => by rw [Addr.add_lit, Nat.zero_add, blk_cell hV1]; simpa using hj)
      (by rw [c5_length]; simp only [List.size_toArray]; omega) (fun v hv => flat_one [x] v (by simpa [flat] using hv))
    rw [List.toList_toArray, c5_length, ← hc2] at h
    rw [h]
    congr 2
    simp only [Nat.min_def]; split <;> omega⟩
  have hfin : Row (W1.setRow g c2.toArray) g cap c2.toArray (l.take i ++ x :: l.drop i) := by
    have hlen : (l.take i ++ x :: l.drop i).length = l.length + 1 := by simp; omega
    exact ⟨setRow_heap _ _ _ _ _ _ hW1, by omega, hcap63, by simpa using l2, by rw [hlen]; simpa using l3⟩
  have hgr : w.grownBy (W1.setRow g c2.toArray) (some g) := by
    rw [hWW]
    exact ⟨rfl, rfl, rfl, by simp [World.setRow], fun k _ hk => by
      have hk' : k ≠ g := fun e => hk (by rw [e])
      rw [setRow_other _ _ _ _ hk', setRow_other _ _ _ _ hk']
      rfl⟩
  have hw1 : IntKind.i64.wrap ((i : Int) + 1) = (i : Int) + 1 := by rw [IntKind.wrap_i64]; omega
  have hb1 : (0 : Int) ≤ (i : Int) + 1 := by omega
  have htn : ((i : Int) + 1).toNat = i + 1 := by omega
  have hb2 : ¬ (cap = i + 1) := by omega
  have hb3 : (i : Int) + 1 ≤ (l.length : Int) + 1 := by omega
  have hb5 : (i : Int) ≤ (l.length : Int) + 1 := by omega
  have hb6 : (i : Int) ≤ (l.length : Int) := by omega
  have hb4 : ¬ (cap = i) := by omega
  have hin : i ≤ l.length := by omega
  have hin1 : i ≤ l.length + 1 := by omega
  have HFIN := Aside0.mk hfin
  have HGR := Aside0.mk hgr
  clear hfin hgr hsc hW1 hV1 hdl l1 l2 l3 hc1 hc2 hWW hr hv
  go_enter Tryd.func64, Tryd.ntmps64
  go_wp2_with (fail)
  go_region_law (refine step_copy_runI rfl _ _ 22 22 rfl (.slice (some ⟨g, (i + 1) * 5, none⟩) (l.length - i) (cap - (i + 1))) (.slice (some ⟨g, i * 5, none⟩) (l.length + 1 - i) (cap - i)) (by simp [Act.eval, Act.put]) (by simp [Act.eval, Act.put]) (hcp1.out _ _ _) ?_)
  go_wp2_with ((with_reducible refine gate_builtin (b := .copy) (xs := #[.tmp 80, .tmp 81]) rfl ?_); (refine wpList_copy_runI _ rfl (.tmp 80) (.tmp 81) 22 22 rfl (.slice (some ⟨g, i * 5, none⟩) (l.length + 1 - i) (cap - i)) (.slice (some ⟨gv, 0, none⟩) 1 vc) rfl rfl (hcp2.out _ _) ?_))
  all_goals go_ways
  all_goals (go_ret; exact ⟨rfl, ⟨_, HFIN.out⟩, HGR.out⟩)
end Go.Proofs.YthbdgahmlggpmaaDoor.Q
/- slices.Insert of one inode ahead of the end, where there is no room: a new row. -/



namespace Go.Proofs.YthbdgahmlggpmaaDoor.Q
open Go.RowKit Go.Proofs.YthbdgahmlggpmaaDoorW.PrintWords Go.Proofs.YthbdgahmlggpmaaDoorW.PrintLast Go.Proofs.YthbdgahmlggpmaaDoorW.PrintMore
set_option linter.unusedVariables false
set_option linter.unusedSimpArgs false
theorem grow_cells (row : List Value) (l : List S34) (x : S34) (i G : Nat) (hi : i ≤ l.length) (hG : l.length + 1 ≤ G) (hsz : row.length = G * 5) (hc : row.take (i * 5) = flat (l.take i)) :
    let c1 := row.take (i * 5) ++ c5 x ++ row.drop (i * 5 + (c5 x).length)
    let c2 := c1.take ((i + 1) * 5) ++ flat (l.drop i) ++ c1.drop ((i + 1) * 5 + (flat (l.drop i)).length)
    c1.length = G * 5 ∧ c2.length = G * 5 ∧ c2.take ((l.length + 1) * 5) = flat (l.take i ++ x :: l.drop i) := by
  intro c1 c2
  have hdl : (flat (l.drop i)).length = (l.length - i) * 5 := by rw [flat_length, List.length_drop]
  have h1 : c1.length = G * 5 := by simp only [c1, List.length_append, List.length_take, List.length_drop, hsz, c5_length]; omega
  have h2 : c2.length = G * 5 := by simp only [c2, List.length_append, List.length_take, List.length_drop, h1, hdl]; omega
  refine ⟨h1, h2, ?_⟩
  have htl : (flat (l.take i)).length = i * 5 := by rw [flat_length, List.length_take, Nat.min_eq_left hi]
  have e1 : c1.take ((i + 1) * 5) = flat (l.take i) ++ c5 x := by
    simp only [c1]
    rw [hc]
    exact List.take_left' (by rw [List.length_append, htl, c5_length]; omega)
  simp only [c2]
  rw [e1, flat_append, flat_cons]
  have hlen : (flat (l.take i) ++ c5 x ++ flat (l.drop i)).length = (l.length + 1) * 5 := by rw [List.length_append, List.length_append, htl, c5_length, hdl]; omega
  rw [List.take_left' hlen, List.append_assoc]
set_option maxHeartbeats 4000000 in
set_option maxRecDepth 100000 in
theorem ins_grow (g cap gv vc : Nat) (cur : Array Value) (l : List S34) (x : S34) (i : Nat) (w : World) (hr : Row w g cap cur l) (hv : w.heap[gv]? = some (.cells (c5 x).toArray 34 (0, 0))) (hi : i < l.length) (hroom : cap < l.length + 1) (hl : l.length ≤ 1000) :
    Calls Tryd.prog 64 #[.slice (some ⟨g, 0, none⟩) l.length cap, .int .i64 i, .slice (some ⟨gv, 0, none⟩) 1 vc] w fun e w' => (∃ g' cap' cur', e = .returned (.slice (some ⟨g', 0, none⟩) (l.length + 1) cap') ∧ w.heap.size ≤ g' ∧ Row w' g' cap' cur' (l.take i ++ x :: l.drop i)) ∧ w.grownBy w' none := by
  have hcap : cap = l.length := by have := hr.le; omega
  have hz2 : ¬ ((i : Int) = (l.length : Int)) := by omega
  have hz3 : (cap : Int) < (l.length : Int) + 1 := by omega
  obtain ⟨i0, hi0, hz0, hzs, hzb⟩ : ∃ i0, Tryd.prog.info? 34 = some i0 ∧ i0.zero = some (.agg #[.int .u32 0, .int .u32 0, .string ⟨#[]⟩, .bool false, .int .u32 0]) ∧ i0.size = 5 ∧ i0.bytes = 32 := ⟨_, rfl, rfl, rfl, rfl⟩
  have hs5 : (Tryd.prog.info? 34).map (·.size) = some 5 := by kernel_rfl
  have htl : (flat (l.take i)).length = i * 5 := by rw [flat_length, List.length_take, Nat.min_eq_left (by omega)]
  have hold : (Builtin.firstCells i0.size i (.slice (some ⟨g, 0, none⟩) i cap)).run Tryd.prog w.drew = .ok (flat (l.take i)).toArray w.drew := by
    rw [hzs]
    have h := run_loadCells_list (P := Tryd.prog) w.drew ⟨g, 0, none⟩ (flat (l.take i)) (fun j v hj => by
      have hjl := (List.getElem?_eq_some_iff.1 hj).1
      rw [htl] at hjl
      rw [Addr.add_lit, Nat.zero_add]
      show w.cell? ⟨g, j, none⟩ = some v
      rw [row_cell hr _ (by omega), ← hj, ← flat_take, List.getElem?_take, if_pos hjl])
    rw [htl] at h
    exact h
  have hik : i + (l.length + 1 - i) = l.length + 1 := by omega
  have hkk : (l.length : Int) + 1 - (i : Int) = ((l.length + 1 - i : Nat) : Int) := by omega
  obtain ⟨G, hG⟩ : ∃ G, G = grownCap w (l.length + 1) cap 34 := ⟨_, rfl⟩
  have hGn : l.length + 1 ≤ G := by rw [hG]; exact grownCap_ge w _ _ _
  have hG63 : G ≤ 9223372036854775807 := by
    have := grownCap_le_maxLen w (l.length + 1) cap 34 (by unfold maxLen; omega)
    rw [← hG] at this
    unfold maxLen at this
    omega
  obtain ⟨ROW, hROW⟩ : ∃ ROW : Array Value, ROW = (flat (l.take i)).toArray ++ Builtin.zeroCells (Value.agg #[.int .u32 0, .int .u32 0, .string ⟨#[]⟩, .bool false, .int .u32 0]).cells (l.length + 1 - i) ++ Builtin.zeroCells (Value.agg #[.int .u32 0, .int .u32 0, .string ⟨#[]⟩, .bool false, .int .u32 0]).cells (G - (l.length + 1)) := ⟨_, rfl⟩
  have hrz : ∀ ty, (Builtin.append_ #[22, 3] ty #[.slice (some ⟨g, 0, none⟩) i cap, .int .i64 ((l.length : Int) + 1 - (i : Int))]).run Tryd.prog w =
      .ok (.slice (some ⟨w.heap.size, 0, none⟩) (l.length + 1) G) (w.drew.alloc (.cells ROW 34)) := fun ty => by
    have h := Lib.run_append_grow_zeros w 22 3 ty 34 i0 _ .i64 .i64 Tryd.underlying22 (by kernel_rfl) hi0 hz0 (some ⟨g, 0, none⟩) i cap (flat (l.take i)) hold (l.length + 1 - i) (by omega) (by omega) (by omega) (by omega) (by rw [hzb]; omega) (by rw [hzb, hik]; exact growslice_fits hroom (by omega))
    rw [hik, ← hG, ← hROW] at h
    rw [hkk]
    exact h
  have hRs : ROW.size = G * 5 := by
    rw [hROW]
    simp only [Array.size_append, List.size_toArray, htl, Builtin.zeroCells, Value.cells, Array.size_map, Array.size_range]
    simp
    omega
  have hRt : ROW.toList.take (i * 5) = flat (l.take i) := by
    rw [hROW, Array.toList_append, Array.toList_append, List.append_assoc]
    exact List.take_left' htl
  obtain ⟨W1, hW1⟩ : ∃ W1, W1 = w.drew.alloc (.cells ROW 34) := ⟨_, rfl⟩
  rw [← hW1] at hrz
  obtain ⟨c1, hc1⟩ : ∃ c1, c1 = ROW.toList.take (i * 5) ++ c5 x ++ ROW.toList.drop (i * 5 + (c5 x).length) := ⟨_, rfl⟩
  obtain ⟨c2, hc2⟩ : ∃ c2, c2 = c1.take ((i + 1) * 5) ++ flat (l.drop i) ++ c1.drop ((i + 1) * 5 + (flat (l.drop i)).length) := ⟨_, rfl⟩
  obtain ⟨l1, l2, l3⟩ : c1.length = G * 5 ∧ c2.length = G * 5 ∧ c2.take ((l.length + 1) * 5) = flat (l.take i ++ x :: l.drop i) := by rw [hc2, hc1]; exact grow_cells ROW.toList l x i G (by omega) hGn (by rw [Array.length_toList]; exact hRs) hRt
  have hdl : (flat (l.drop i)).length = (l.length - i) * 5 := by rw [flat_length, List.length_drop]
  have hgw : g < w.heap.size := blk_lt hr.heap
  have hvw : gv < w.heap.size := blk_lt hv
  have hN : W1.heap[w.heap.size]? = some (.cells ROW 34 (0, 0)) := by rw [hW1]; exact heap_alloc_new w.drew _
  have hV1 : W1.heap[gv]? = some (.cells (c5 x).toArray 34 (0, 0)) := by rw [hW1]; exact blk_alloc (w := w.drew) hv _
  have hG1 : W1.heap[g]? = some (.cells cur 34 (0, 0)) := by rw [hW1]; exact blk_alloc (w := w.drew) hr.heap _
  have hcp1 : Aside0 (∀ ty dc, (Builtin.copy_ #[22, 22] ty #[.slice (some ⟨w.heap.size, i * 5, none⟩) (l.length + 1 - i) dc, .slice (some ⟨gv, 0, none⟩) 1 vc]).run Tryd.prog W1 = .ok (goInt 1) (W1.setRow w.heap.size c1.toArray)) := ⟨fun ty dc => by
    have h := run_copy5 (P := Tryd.prog) W1 22 22 ty 34 w.heap.size (i * 5) (l.length + 1 - i) dc ⟨gv, 0, none⟩ 1 vc ROW 34 (c5 x) Tryd.underlying22 hs5 hN (by rw [c5_length]; simp only [Nat.min_def]; split <;> omega)
      (fun j v hj => by rw [Addr.add_lit, Nat.zero_add, blk_cell hV1]; simpa using hj)
      (by rw [c5_length, hRs]; omega) (fun v hv => flat_one [x] v (by simpa [flat] using hv))
    rw [← hc1] at h
    rw [h]
    congr 2
    simp only [Nat.min_def]; split <;> omega⟩
  obtain ⟨W2, hW2⟩ : ∃ W2, W2 = W1.setRow w.heap.size c1.toArray := ⟨_, rfl⟩
  rw [← hW2] at hcp1
  have hN2 : W2.heap[w.heap.size]? = some (.cells c1.toArray 34 (0, 0)) := by rw [hW2]; exact setRow_heap _ _ _ _ _ _ hN
  have hG2 : W2.heap[g]? = some (.cells cur 34 (0, 0)) := by rw [hW2, setRow_other _ _ _ _ (by omega)]; exact hG1
  have hcp2 : Aside0 (∀ ty dc sc, (Builtin.copy_ #[22, 22] ty #[.slice (some ⟨w.heap.size, (i + 1) * 5, none⟩) (l.length - i) dc, .slice (some ⟨g, i * 5, none⟩) (l.length - i) sc]).run Tryd.prog W2.drew = .ok (goInt (l.length - i)) (W2.drew.setRow w.heap.size c2.toArray)) := ⟨fun ty dc sc => by
    have h := run_copy5 (P := Tryd.prog) W2.drew 22 22 ty 34 w.heap.size ((i + 1) * 5) (l.length - i) dc ⟨g, i * 5, none⟩ (l.length - i) sc c1.toArray 34 (flat (l.drop i)) Tryd.underlying22 hs5 hN2 (by rw [hdl]; congr 1; simp only [Nat.min_def]; split <;> omega)
      (fun j v hj => by
        rw [Addr.add_lit]
        show W2.cell? ⟨g, i * 5 + j, none⟩ = some v
        have hjl := (List.getElem?_eq_some_iff.1 hj).1
        rw [hdl] at hjl
        have hc := row_cell hr (i * 5 + j) (by omega)
        rw [blk_cell hr.heap] at hc
        rw [blk_cell hG2, hc, ← List.getElem?_drop, flat_drop]
        exact hj)
      (by rw [hdl]; simp only [List.size_toArray]; omega) (fun v hv => flat_one _ v hv)
    rw [List.toList_toArray, ← hc2] at h
    rw [h]
    congr 2
    simp only [Nat.min_def]; split <;> omega⟩
  have hfin : Row (W2.drew.setRow w.heap.size c2.toArray) w.heap.size G c2.toArray (l.take i ++ x :: l.drop i) := by
    have hlen : (l.take i ++ x :: l.drop i).length = l.length + 1 := by simp; omega
    exact ⟨setRow_heap _ _ _ _ _ _ hN2, by omega, hG63, by simpa using l2, by rw [hlen]; simpa using l3⟩
  have hgr : w.grownBy (W2.drew.setRow w.heap.size c2.toArray) none := by
    rw [hW2, hW1]
    exact ⟨rfl, rfl, rfl, by simp [World.setRow], fun k hk _ => by
      rw [setRow_other _ _ _ _ (by omega)]
      show ((w.drew.alloc (.cells ROW 34)).setRow w.heap.size c1.toArray).heap[k]? = _
      rw [setRow_other _ _ _ _ (by omega)]
      exact Below.heap_alloc w.drew _ k hk⟩
  have hw1 : IntKind.i64.wrap ((i : Int) + 1) = (i : Int) + 1 := by rw [IntKind.wrap_i64]; omega
  have hb1 : (0 : Int) ≤ (i : Int) + 1 := by omega
  have htn : ((i : Int) + 1).toNat = i + 1 := by omega
  have hb2 : ¬ (G = i + 1) := by omega
  have hb3 : (i : Int) + 1 ≤ (l.length : Int) + 1 := by omega
  have hb5 : (i : Int) ≤ (l.length : Int) + 1 := by omega
  have hb6 : (i : Int) ≤ (l.length : Int) := by omega
  have hb4 : ¬ (G = i) := by omega
  have hb7 : ¬ (cap = i) := by omega
  have hin : i ≤ l.length := by omega
  have hin1 : i ≤ l.length + 1 := by omega
  have hb8 : i ≤ cap := by have := hr.le; omega
  have HFIN := Aside0.mk hfin
  have HGR := Aside0.mk hgr
  have HRZ := Aside0.mk hrz
  clear hfin hgr hN hV1 hG1 hN2 hG2 hdl l1 l2 l3 hc1 hc2 hW1 hW2 hr hv hRs hRt hROW hrz hold htl hcap hG hi0 hz0 hzs hzb hkk hik
  go_enter Tryd.func64, Tryd.ntmps64
  go_wp2_with (first | ((with_reducible refine gate_builtin (b := .append) (xs := #[.tmp 34, .tmp 39]) rfl ?_); (refine Lib.wpList_append_run _ rfl (.tmp 34) (.tmp 39) 22 3 rfl _ _ rfl rfl _ _ (HRZ.out _) ?_)) | ((with_reducible refine gate_builtin (b := .copy) (xs := #[.tmp 43, .tmp 44]) rfl ?_); (refine wpList_copy_runI _ rfl (.tmp 43) (.tmp 44) 22 22 rfl (.slice (some ⟨w.heap.size, i * 5, none⟩) (l.length + 1 - i) (G - i)) (.slice (some ⟨gv, 0, none⟩) 1 vc) rfl rfl (hcp1.out _ _) ?_)))
  go_region_law (refine step_copy_runI rfl _ _ 22 22 rfl (.slice (some ⟨w.heap.size, (i + 1) * 5, none⟩) (l.length - i) (G - (i + 1))) (.slice (some ⟨g, i * 5, none⟩) (l.length - i) (cap - i)) (by simp [Act.eval, Act.put]) (by simp [Act.eval, Act.put]) (hcp2.out _ _ _) ?_)
  go_wp2_with (fail)
  go_ret
  exact ⟨⟨_, _, _, rfl, Nat.le_refl _, HFIN.out⟩, HGR.out⟩
end Go.Proofs.YthbdgahmlggpmaaDoor.Q
/- slices.Insert of one inode, at every place of a row of the call's own. -/


namespace Go.Proofs.YthbdgahmlggpmaaDoor.Q
open Go.RowKit Go.Proofs.YthbdgahmlggpmaaDoorW.PrintWords Go.Proofs.YthbdgahmlggpmaaDoorW.PrintLast Go.Proofs.YthbdgahmlggpmaaDoorW.PrintMore
set_option linter.unusedVariables false
set_option linter.unusedSimpArgs false
set_option maxHeartbeats 4000000 in
set_option maxRecDepth 100000 in
theorem ins_end (base g cap gv : Nat) (cur : Array Value) (l : List S34) (x : S34) (w : World) (hr : Row w g cap cur l) (hb : base ≤ g) (hv : w.heap[gv]? = some (.cells (c5 x).toArray 34 (0, 0))) (hne : gv ≠ g) (hl : l.length ≤ 1000) (hbw : base ≤ w.heap.size) :
    Calls Tryd.prog 64 #[.slice (some ⟨g, 0, none⟩) l.length cap, .int .i64 l.length, .slice (some ⟨gv, 0, none⟩) 1 1] w fun e w' => ∃ v2, e = .returned v2 ∧ Kd.R k34 34 w' base (fun _ => True) v2 (l ++ [x]) ∧ Below base w w' := by
  have HO := Aside0.mk (R_of_row (base := base) hr hb)
  have HRR : Aside0 (ReadsRow (k34.K w) 5 w (some ⟨gv, 0, none⟩) 1 [x]) := ⟨⟨rfl, by omega, fun _ => ⟨⟨gv, 0, none⟩, rfl, fun j p hj => by
    have hj0 : j = 0 := by have := (List.getElem?_eq_some_iff.1 hj).1; simpa using this
    subst hj0
    cases hj
    refine ⟨c5 x, rfl, k34_mk w x, fun i u hu => ?_⟩
    rw [Nat.zero_mul, Nat.zero_add, Addr.add_lit, Nat.zero_add, blk_cell hv]
    simpa using hu⟩⟩⟩
  have hle := hr.le
  clear hr hv
  go_enter Tryd.func64, Tryd.ntmps64
  go_wp2_with ((with_reducible refine gate_builtin (b := .append) (xs := #[.tmp 23, .tmp 24]) rfl ?_); at_builtin; refine Kd.R_append_rows k34 (w0 := w) base rfl (.tmp 23) (.tmp 24) 22 34 (.agg #[(.int .u32 0), (.int .u32 0), (.string ⟨#[]⟩), (.bool false), (.int .u32 0)]) 32 rfl Tryd.underlying22 info34 rfl (by decide) (by omega) _ l [x] _ _ _ (fun _ => True) (fun _ => False) rfl rfl HO.out HRR.out (fun y c hy => by rw [k34_open hy]; exact k34_mkM _ _ _ y) (fun _ h => h.elim) (fun _ _ => trivial) (Below.refl base w) hbw (by omega) ?_; intro v2 w2 ho2 hb2 hg hat; have HO2 := Aside0.mk ho2; have HB2 := Aside0.mk hb2; clear ho2 hb2 hg hat)
  all_goals (go_ret; exact ⟨_, rfl, HO2.out, HB2.out⟩)
theorem ins_c (base gv : Nat) (v1 : Value) (l : List S34) (x : S34) (i : Nat) (w : World) (HO : Kd.R k34 34 w base (fun _ => True) v1 l) (hpos : 0 < l.length) (hv : w.heap[gv]? = some (.cells (c5 x).toArray 34 (0, 0))) (hne : some gv ≠ v1.ownBlock) (hi : i ≤ l.length) (hl : l.length ≤ 1000) (hbw : base ≤ w.heap.size) :
    Calls Tryd.prog 64 #[v1, .int .i64 i, .slice (some ⟨gv, 0, none⟩) 1 1] w fun e w' => ∃ v2, e = .returned v2 ∧ Kd.R k34 34 w' base (fun _ => True) v2 (l.take i ++ x :: l.drop i) ∧ Below base w w' := by
  obtain ⟨g, cap, cur, rfl, hb, hr⟩ := row_of_R HO hpos
  have hne' : gv ≠ g := fun e => hne (by rw [e]; rfl)
  rcases Nat.lt_or_ge i l.length with h | h
  · rcases Nat.lt_or_ge cap (l.length + 1) with hc | hc
    · refine (ins_grow g cap gv 1 cur l x i w hr hv h hc hl).mono fun e w' hh => ?_
      obtain ⟨⟨g', cap', cur', he, hg', hr'⟩, hgr⟩ := hh
      have hlen : (l.take i ++ x :: l.drop i).length = l.length + 1 := by simp; omega
      have hR := R_of_row (base := base) hr' (Nat.le_trans hbw hg')
      rw [hlen] at hR
      exact ⟨_, he, hR, pw_below_grown (Below.refl base w) none hbw hgr (fun k hk => by cases hk)⟩
    · refine (ins_shift g cap gv 1 cur l x i w hr hv hne' h hc hl).mono fun e w' hh => ?_
      obtain ⟨he, ⟨cur', hr'⟩, hgr⟩ := hh
      have hlen : (l.take i ++ x :: l.drop i).length = l.length + 1 := by simp; omega
      have hR := R_of_row (base := base) hr' hb
      rw [hlen] at hR
      exact ⟨_, he, hR, pw_below_grown (Below.refl base w) (some g) hbw hgr (fun k hk => by cases hk; exact hb)⟩
  · obtain rfl : i = l.length := by omega
    rw [List.take_length, List.drop_length]
    exact ins_end base g cap gv cur l x w hr hb hv hne' hl hbw
end Go.Proofs.YthbdgahmlggpmaaDoor.Q
/- The contract of tree.put, for every list of inodes that rises by Id. -/




namespace Go.Proofs.YthbdgahmlggpmaaDoor.Q
open Go.RowKit Go.Proofs.YthbdgahmlggpmaaDoorW.PrintWords Go.Proofs.YthbdgahmlggpmaaDoorW.PrintLast Go.Proofs.YthbdgahmlggpmaaDoorW.PrintMore
set_option linter.unusedVariables false
set_option linter.unusedSimpArgs false
theorem set_cells (cur : List Value) (l : List S34) (x : S34) (p cap : Nat) (hp : p < l.length) (hcap : l.length ≤ cap) (hsz : cur.length = cap * 5) (hc : cur.take (l.length * 5) = flat l) :
    (cur.take (p * 5) ++ c5 x ++ cur.drop (p * 5 + 5)).length = cap * 5 ∧ (cur.take (p * 5) ++ c5 x ++ cur.drop (p * 5 + 5)).take (l.length * 5) = flat (l.set p x) := by
  refine ⟨by simp only [List.length_append, List.length_take, List.length_drop, hsz, c5_length]; omega, ?_⟩
  have e1 : cur.take (p * 5) = flat (l.take p) := by rw [← flat_take, ← hc, List.take_take, Nat.min_eq_left (by omega)]
  have e2 : (cur.drop (p * 5 + 5)).take ((l.length - (p + 1)) * 5) = flat (l.drop (p + 1)) := by
    rw [← flat_drop, ← hc, List.drop_take]
    rw [show (p + 1) * 5 = p * 5 + 5 by omega]
    congr 1
    omega
  have hl1 : (flat (l.take p) ++ c5 x).length = p * 5 + 5 := by rw [List.length_append, flat_length, List.length_take, c5_length]; omega
  rw [e1, List.take_append, List.take_of_length_le (by omega), hl1, show l.length * 5 - (p * 5 + 5) = (l.length - (p + 1)) * 5 by omega, e2]
  rw [List.set_eq_take_append_cons_drop, if_pos hp, flat_append, flat_cons, List.append_assoc]
theorem run_storeVar_at {P : Program} (w : World) (g o : Nat) (ty : TypeId) (cells cur : Array Value) (t : TypeId) (hg : w.heap[g]? = some (.cells cur t (0, 0))) (hfit : o + cells.size ≤ cur.size) (hi : (P.info? ty).map (·.size) = some cells.size) (h1 : ∀ v ∈ cells.toList, v.oneCell' = true) :
    (storeVar ty ⟨g, o, none⟩ (.agg cells)).run P w = .ok () (w.setRow g (cur.toList.take o ++ cells.toList ++ cur.toList.drop (o + cells.size)).toArray) := by
  have := run_storeCells_at P g o t cells.toList 0 cur w hg (by simpa using hfit) h1
  cases hq : P.info? ty with
  | none => simp [hq] at hi
  | some i =>
    have hs : cells.size = i.size := by simp [hq] at hi; omega
    simp only [Nat.add_zero, Array.length_toList] at this
    simp [storeVar, sizeOf, typeInfo, hq, Value.cells, hs] at this ⊢
    exact this
theorem wpList_store_at {P : Program} {ops : Array Oper} {rest : List Oper} {op : Oper} {a : Act} {w : World} {Q : Exit → Act → World → Prop} (hgd : op.guard = none) (ty : TypeId) (x y : Operand) (ho : op.op = .store ty x y)
    (g o : Nat) (cells cur : Array Value) (t : TypeId) (hx : a.eval x = .pointer (some ⟨g, o, none⟩)) (hy : a.eval y = .agg cells)
    (hg : w.heap[g]? = some (.cells cur t (0, 0))) (hfit : o + cells.size ≤ cur.size) (hi : (P.info? ty).map (·.size) = some cells.size) (h1 : ∀ v ∈ cells.toList, v.oneCell' = true)
    (h : wpList P ops Q rest (a.put op.dst undef) (w.setRow g (cur.toList.take o ++ cells.toList ++ cur.toList.drop (o + cells.size)).toArray)) : wpList P ops Q (op :: rest) a w :=
  wpList_plain hgd fun _ hK => by
    unfold Oper.wp execOp
    simp only [ho, hx, hy, Instr.storeAt, Instr.sureAddr, Sem.run_bind, Sem.run_pure, Result.andThen_ok, run_storeVar_at w g o ty cells cur t hg hfit hi h1]
    exact hK _ _ h
/-- The place of an Id in a list that rises. -/
def plc (l : List S34) (id : Int) : Nat := (l.takeWhile (fun y => decide (y.f0 < id))).length
theorem plc_eq (l : List S34) (id : Int) (r : Nat) (hr : r ≤ l.length) (h1 : ∀ x : Nat, x < r → (rd_T34 l (x : Int)).f0 < id) (h2 : ∀ x : Nat, r ≤ x → x < l.length → id ≤ (rd_T34 l (x : Int)).f0) : plc l id = r := by
  induction l generalizing r with
  | nil => simp at hr; subst hr; rfl
  | cons y t ih =>
    unfold plc
    rw [List.takeWhile_cons]
    rcases Nat.eq_zero_or_pos r with h0 | h0
    · subst h0
      have := h2 0 (Nat.le_refl _) (by simp)
      rw [show (rd_T34 (y :: t) ((0 : Nat) : Int)) = y from rfl] at this
      rw [if_neg (by simpa using this)]
      rfl
    · have := h1 0 h0
      rw [show (rd_T34 (y :: t) ((0 : Nat) : Int)) = y from rfl] at this
      rw [if_pos (by simpa using this)]
      obtain ⟨r, rfl⟩ : ∃ q, r = q + 1 := ⟨r - 1, by omega⟩
      have e : ∀ j : Nat, rd_T34 (y :: t) ((j + 1 : Nat) : Int) = rd_T34 t (j : Int) := fun j => by simp only [rd_T34, Int.toNat_natCast]; rfl
      have := ih r (by simpa using hr) (fun j hj => by have := h1 (j + 1) (by omega); rwa [e] at this) (fun j hj hj2 => by have := h2 (j + 1) (by omega) (by simpa using hj2); rwa [e] at this)
      unfold plc at this
      rw [List.length_cons, this]
def putI (l : List S34) (x : S34) : List S34 :=
  if plc l x.f0 < l.length ∧ (rd_T34 l (plc l x.f0 : Int)).f0 = x.f0 then l.set (plc l x.f0) x else l.take (plc l x.f0) ++ x :: l.drop (plc l x.f0)
def putDom (l : List S34) (id : Int) : Bool := decide (1 ≤ l.length) && decide (l.length ≤ 900) && upB (-1) l && decide (0 ≤ id) && decide (id ≤ 4294967295)
def tree_put.f (l0 : List S34) (a1 a2 : Int) (a3 : ByteArray) (a4 : Bool) (a5 : Int) : Option (List S34) := if putDom l0 a1 = true then some (putI l0 ⟨a1, a2, a3, a4, a5⟩) else none
set_option maxHeartbeats 4000000 in
set_option maxRecDepth 100000 in
theorem tree_put.calls (A0 : Option Addr) (c0 : Nat) (l0 : List S34) (a1 a2 : Int) (a3 : ByteArray) (a4 : Bool) (a5 : Int) (r : List S34) (w : World) (hr0 : Kd.C k34 w A0 l0.length l0) (hc0 : l0.length ≤ c0) (h : tree_put.f l0 a1 a2 a3 a4 a5 = some r) :
    Calls Tryd.prog 41 #[.slice A0 l0.length c0, .agg #[.int .u32 a1, .int .u32 a2, .string a3, .bool a4, .int .u32 a5]] w fun e w' => ∃ v0_ : Value, e = .returned v0_ ∧ Kd.R k34 34 w' w.heap.size (fun _ => True) v0_ r ∧ Below w.heap.size w w' := by
  unfold tree_put.f at h
  by_cases hd : putDom l0 a1 = true
  · rw [if_pos hd] at h
    cases h
    unfold putDom at hd
    simp only [Bool.and_eq_true, decide_eq_true_eq] at hd
    obtain ⟨⟨⟨⟨hl1, hl⟩, hup⟩, ha0⟩, ha1⟩ := hd
    have hs := upB_lt l0 _ hup
    obtain ⟨p, hp, hpl, hlo, hhi⟩ := lowF_spec l0 a1 hs l0.length (l0.length + 1) 0 l0.length (by omega) (by omega) (by omega) (Nat.le_refl _) (fun x hx => by omega) (fun x hx hx2 => by omega)
    have hpe := plc_eq l0 a1 p hpl hlo hhi
    have HPUT := Aside0.mk (show putI l0 ⟨a1, a2, a3, a4, a5⟩ = if p < l0.length ∧ (rd_T34 l0 (p : Int)).f0 = a1 then l0.set p ⟨a1, a2, a3, a4, a5⟩ else l0.take p ++ ⟨a1, a2, a3, a4, a5⟩ :: l0.drop p by unfold putI; rw [show plc l0 (S34.mk a1 a2 a3 a4 a5).f0 = p from hpe])
    have HWF := Aside0.mk (show ∀ x ∈ l0, 0 ≤ x.f0 ∧ x.f0 ≤ 4294967295 from fun x hx => by have := upB_mem l0 _ hup x hx; omega)
    have HP := Aside0.mk hp
    have HR0 := Aside0.mk hr0
    have HC0 := Aside0.mk hc0
    clear hr0 hc0 hs hup hlo hhi hpe hp
    generalize putI l0 ⟨a1, a2, a3, a4, a5⟩ = res at HPUT ⊢
    go_enter Tryd.func41, Tryd.ntmps41
    go_upto_region 2 with (go_at_call 39; refine (clone34.calls A0 c0 l0 l0 _ (Kd.C_alloc HR0.out _) HC0.out (by unfold clone34.f; rw [if_pos (by omega)])).mono ?_; rintro e w1 ⟨v1, rfl, ho1, hb1⟩; have BK := Aside0.mk (blk_below (heap_alloc_new w _) hb1); have HB1 := Aside0.mk (below_step (below_alloc (Below.refl w.heap.size w) _) hb1); have HO1 := Aside0.mk (Kd.R_lower ho1 (Nat.le_of_lt (lt_alloc w _))); have HNE := Aside0.mk (show some w.heap.size ≠ v1.ownBlock from fun e_ => absurd (Kd.R_base ho1 _ e_.symm) (Nat.not_le.mpr (lt_alloc w _))); clear ho1 hb1)
    obtain ⟨g, cap, cur, rfl, hbg, hrow⟩ := row_of_R HO1.out (by omega)
    have hne : w.heap.size ≠ g := fun e_ => HNE.out (by rw [e_]; rfl)
    have HK := Aside0.mk (Kd.R_reads' HO1.out).2.2
    have HLE := hrow.le
    have k0 : w1.cell? ⟨w.heap.size, 0, none⟩ = some (.int .u32 a1) := (blk_cell BK.out 0).trans rfl
    have HROW := Aside0.mk hrow
    clear hrow HNE HO1
    go_wp2_with (fail)
    go_at_call 62
    refine (bsearch63.calls (l0.length + 1) (some ⟨g, 0, none⟩) cap l0 a1 p _ HK.out HLE (by omega) ⟨ha0, ha1⟩ HWF.out HP.out).mono ?_
    rintro e w2 ⟨rfl, hb2⟩
    have BK2 := Aside0.mk (blk_below BK.out hb2)
    have HROW2 := Aside0.mk (Row.mk (blk_below HROW.out.heap hb2) HROW.out.le HROW.out.max HROW.out.size HROW.out.cells)
    have HB2 := Aside0.mk (below_step HB1.out hb2)
    clear hb2 k0 HK HROW BK HB1
    have m0 : w2.cell? ⟨w.heap.size, 0, none⟩ = some (.int .u32 a1) := (blk_cell BK2.out 0).trans rfl
    have m1 : w2.cell? ⟨w.heap.size, 1, none⟩ = some (.int .u32 a2) := (blk_cell BK2.out 1).trans rfl
    have m2 : w2.cell? ⟨w.heap.size, 2, none⟩ = some (.string a3) := (blk_cell BK2.out 2).trans rfl
    have m3 : w2.cell? ⟨w.heap.size, 3, none⟩ = some (.bool a4) := (blk_cell BK2.out 3).trans rfl
    have m4 : w2.cell? ⟨w.heap.size, 4, none⟩ = some (.int .u32 a5) := (blk_cell BK2.out 4).trans rfl
    by_cases hc : p < l0.length ∧ (rd_T34 l0 (p : Int)).f0 = a1
    · have hR := HPUT.out
      rw [if_pos hc] at hR
      subst hR
      rw [show (decide (p < l0.length) && ((rd_T34 l0 (p : Int)).f0 == a1)) = true by rw [decide_eq_true hc.1, beq_iff_eq.mpr hc.2]; rfl]
      have hp1 : (p < l0.length) = True := eq_true hc.1
      have hi34 : Aside0 ((Tryd.prog.info? 34).map (·.size) = some 5) := ⟨by kernel_rfl⟩
      dsimp only
      have hfit : p * 5 + 5 ≤ cur.size := by have := HROW2.out.size; have := HROW2.out.le; have := hc.1; omega
      have hset := Aside0.mk (set_cells cur.toList l0 ⟨a1, a2, a3, a4, a5⟩ p cap hc.1 HLE (by rw [Array.length_toList]; exact HROW2.out.size) HROW2.out.cells)
      clear hc
      go_wp2_with (refine wpList_store_at rfl 34 (.tmp 21) (.tmp 20) rfl g (p * 5) #[.int .u32 a1, .int .u32 a2, .string a3, .bool a4, .int .u32 a5] cur 34 rfl rfl HROW2.out.heap hfit hi34.out ?hone ?_; (case hone => exact fun v hv => flat_one [⟨a1, a2, a3, a4, a5⟩] v (by simpa [flat, c5] using hv)))
      go_ret
      have hlen : (l0.set p ⟨a1, a2, a3, a4, a5⟩).length = l0.length := List.length_set ..
      have hR : Row (w2.setRow g (cur.toList.take (p * 5) ++ c5 ⟨a1, a2, a3, a4, a5⟩ ++ cur.toList.drop (p * 5 + 5)).toArray) g cap (cur.toList.take (p * 5) ++ c5 ⟨a1, a2, a3, a4, a5⟩ ++ cur.toList.drop (p * 5 + 5)).toArray (l0.set p ⟨a1, a2, a3, a4, a5⟩) :=
        ⟨setRow_heap _ _ _ _ _ _ HROW2.out.heap, by rw [hlen]; exact HLE, HROW2.out.max, by simpa using hset.out.1, by rw [hlen]; simpa using hset.out.2⟩
      have hRR := R_of_row (base := w.heap.size) hR hbg
      rw [hlen] at hRR
      refine ⟨.slice (some ⟨g, 0, none⟩) l0.length cap, rfl, ?_, below_setRow HB2.out hbg _⟩
      simpa only [c5, List.append_assoc, List.cons_append, List.nil_append] using hRR
    · have hR := HPUT.out
      rw [if_neg hc] at hR
      subst hR
      rw [show (decide (p < l0.length) && ((rd_T34 l0 (p : Int)).f0 == a1)) = false by rw [Bool.and_eq_false_iff]; rw [Classical.not_and_iff_not_or_not] at hc; exact hc.imp (fun h => decide_eq_false h) (fun h => beq_eq_false_iff_ne.mpr h)]
      clear hc HPUT
      dsimp only
      go_wp2_with (fail)
      go_at_call 64
      have hgl : g < w2.heap.size := blk_lt HROW2.out.heap
      have hRA := R_of_row (base := w.heap.size) (Row.mk (blk_alloc HROW2.out.heap (.cells #[.int .u32 a1, .int .u32 a2, .string a3, .bool a4, .int .u32 a5] 34)) HROW2.out.le HROW2.out.max HROW2.out.size HROW2.out.cells) hbg
      refine (ins_c w.heap.size w2.heap.size _ l0 ⟨a1, a2, a3, a4, a5⟩ p _ hRA (by omega) (heap_alloc_new w2 _) (fun e_ => by have := Option.some.inj e_; simp only at this; omega) hpl (by omega) (below_alloc HB2.out _).size).mono ?_
      rintro e w3 ⟨v2, rfl, ho3, hb3⟩
      have HO3 := Aside0.mk ho3
      have HB3 := Aside0.mk ((below_alloc HB2.out _).trans hb3)
      clear ho3 hb3 hRA
      go_wp2_with (fail)
      go_ret
      exact ⟨_, rfl, HO3.out, HB3.out⟩
  · rw [if_neg hd] at h
    cases h
end Go.Proofs.YthbdgahmlggpmaaDoor.Q
