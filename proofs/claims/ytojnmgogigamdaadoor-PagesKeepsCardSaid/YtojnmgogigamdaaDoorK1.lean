/- Rows of pages as plain cells, and what the walk of PagesKeeps needs of memory. -/
import Derived.Test.YtojnmgogigamdaaDoorQ10
import Derived.Laws.MakeOwn
import Derived.Laws.CopyRow
import Derived.Laws.CopyOwn
import Derived.Shelf.Spec.SlicesInsert
namespace Go.Proofs.YtojnmgogigamdaaDoor.Q
open Go.RowKit Go.Proofs.YtojnmgogigamdaaDoorW.PrintWords Go.Proofs.YtojnmgogigamdaaDoorW.PrintLast Go.Proofs.YtojnmgogigamdaaDoorW.PrintMore
set_option linter.unusedVariables false
set_option linter.unusedSimpArgs false
def c2 (x : S45) : List Value := [.int .i64 x.f0, .string x.f1]
def pcel (xs : List S45) : List Value := xs.flatMap c2
theorem c2_length (x : S45) : (c2 x).length = 2 := rfl
theorem pcel_nil : pcel [] = [] := rfl
theorem pcel_cons (x : S45) (xs : List S45) : pcel (x :: xs) = c2 x ++ pcel xs := rfl
theorem pcel_append (a b : List S45) : pcel (a ++ b) = pcel a ++ pcel b := List.flatMap_append
theorem pcel_length : ∀ xs : List S45, (pcel xs).length = xs.length * 2
  | [] => rfl
  | x :: xs => by rw [pcel_cons, List.length_append, c2_length, pcel_length xs, List.length_cons]; omega
theorem pcel_drop : ∀ (xs : List S45) (j : Nat), (pcel xs).drop (j * 2) = pcel (xs.drop j)
  | xs, 0 => by simp
  | [], j + 1 => by simp [pcel_nil]
  | x :: xs, j + 1 => by
    rw [pcel_cons, List.drop_succ_cons, ← pcel_drop xs j, show (j + 1) * 2 = (c2 x).length + j * 2 by rw [c2_length]; omega, List.drop_append, List.drop_eq_nil_of_le (by omega), List.nil_append, Nat.add_sub_cancel_left]
theorem pcel_take : ∀ (xs : List S45) (j : Nat), (pcel xs).take (j * 2) = pcel (xs.take j)
  | xs, 0 => by simp [pcel_nil]
  | [], j + 1 => by simp [pcel_nil]
  | x :: xs, j + 1 => by
    rw [pcel_cons, List.take_succ_cons, pcel_cons, ← pcel_take xs j, show (j + 1) * 2 = (c2 x).length + j * 2 by rw [c2_length]; omega, List.take_append, List.take_of_length_le (by omega), Nat.add_sub_cancel_left]
theorem pcel_at (xs : List S45) (j : Nat) (x : S45) (h : xs[j]? = some x) : ((pcel xs).drop (j * 2)).take 2 = c2 x := by
  rw [pcel_drop]
  have hj : j < xs.length := (List.getElem?_eq_some_iff.1 h).1
  rw [List.drop_eq_getElem_cons hj, pcel_cons]
  have : xs[j] = x := (List.getElem?_eq_some_iff.1 h).2
  rw [this]
  exact List.take_left' (c2_length x)
theorem pcel_reps {R : S45 → List Value → Prop} (h : ∀ p, R p (c2 p)) (xs : List S45) : Reps R 2 xs (pcel xs) :=
  ⟨pcel_length xs, fun j p hj => by rw [pcel_at xs j p hj]; exact h p⟩
theorem reps_pcel {R : S45 → List Value → Prop} (h : ∀ p c, R p c → c = c2 p) : ∀ (xs : List S45) (cs : List Value), Reps R 2 xs cs → cs = pcel xs
  | [], cs, hr => by
    have : cs.length = 0 := by simpa using hr.1
    rw [List.length_eq_zero_iff.1 this, pcel_nil]
  | x :: xs, cs, hr => by
    have h0 := h _ _ (hr.2 0 x rfl)
    rw [Nat.zero_mul, List.drop_zero] at h0
    have ih := reps_pcel h xs (cs.drop 2) ⟨by have := hr.1; simp only [List.length_cons] at this; rw [List.length_drop]; omega, fun j p hj => by
      have := hr.2 (j + 1) p (by simpa using hj)
      rw [List.drop_drop]
      rwa [show 2 + j * 2 = (j + 1) * 2 by omega]⟩
    rw [pcel_cons, ← ih, ← h0, List.take_append_drop]
/-- A row of inodes that begins at a block's head. -/
structure PRow (w : World) (g cap : Nat) (cur : Array Value) (xs : List S45) : Prop where
  heap : w.heap[g]? = some (.cells cur 45 (0, 0))
  le : xs.length ≤ cap
  max : cap ≤ 9223372036854775807
  size : cur.size = cap * 2
  cells : cur.toList.take (xs.length * 2) = pcel xs
theorem prow_of_R {w : World} {base : Nat} {ok : Nat → Prop} {v : Value} {xs : List S45} (h : Kd.R k45 45 w base ok v xs) (hp : 0 < xs.length) : ∃ g cap cur, v = .slice (some ⟨g, 0, none⟩) xs.length cap ∧ base ≤ g ∧ PRow w g cap cur xs := by
  obtain ⟨_, inner, hown, hrep⟩ := h
  have hf := reps_pcel (fun p c hM => k45_openM hM) xs inner hrep
  obtain ⟨h1, h2⟩ := hown
  rcases h2 with ⟨_, h0⟩ | ⟨g, cap, cur, hv, hb, hg, hle, hmax, hsz, hc⟩
  · omega
  · exact ⟨g, cap, cur, hv, hb, hg, hle, by unfold maxLen at hmax; exact hmax, hsz, by rw [← hf]; exact hc⟩
theorem R_of_prow {w : World} {base g cap : Nat} {cur : Array Value} {xs : List S45} (h : PRow w g cap cur xs) (hb : base ≤ g) : Kd.R k45 45 w base (fun _ => True) (.slice (some ⟨g, 0, none⟩) xs.length cap) xs :=
  ⟨fun _ _ => trivial, pcel xs, ⟨pcel_length xs, .inr ⟨g, cap, cur, rfl, hb, h.heap, h.le, by unfold maxLen; exact h.max, h.size, h.cells⟩⟩, pcel_reps (fun p => k45_mkM _ _ _ p) xs⟩
theorem lt_alloc (w : World) (o : Obj) : w.heap.size < (w.alloc o).heap.size := (Array.getElem?_eq_some_iff.1 (heap_alloc_new w o)).1
theorem run_copy2 {P : Program} (w : World) (dT sT ty elem : TypeId) (g o dLen dCap : Nat) (a : Addr) (sLen sCap : Nat) (cur : Array Value) (t : TypeId) (cs : List Value)
    (hu : P.underlying dT = some (.slice elem)) (hs : (P.info? elem).map (·.size) = some 2)
    (hg : w.heap[g]? = some (.cells cur t (0, 0))) (hn : cs.length = Nat.min sLen dLen * 2)
    (hsrc : ∀ j v, cs[j]? = some v → w.cell? (a.add j) = some v) (hfit : o + cs.length ≤ cur.size) (h1 : ∀ v ∈ cs, v.oneCell' = true) :
    (Builtin.copy_ #[dT, sT] ty #[.slice (some ⟨g, o, none⟩) dLen dCap, .slice (some a) sLen sCap]).run P w =
      .ok (goInt (Nat.min sLen dLen)) (w.setRow g (cur.toList.take o ++ cs ++ cur.toList.drop (o + cs.length)).toArray) := by
  have hl := run_loadCells_list (P := P) w a cs hsrc
  have hst := run_storeCells_at P g o t cs 0 cur w hg (by simpa using hfit) h1
  cases hq : P.info? elem with
  | none => simp [hq] at hs
  | some i =>
    have hi : i.size = 2 := by simpa [hq] using hs
    simp [Builtin.copy_, run_underlying hu, Builtin.lenOf, Builtin.firstCells, sizeOf, typeInfo, hq, hi, ← hn, hl, hst]
theorem pcel_one : ∀ (xs : List S45) (v : Value), v ∈ pcel xs → v.oneCell' = true
  | [], v, h => by cases h
  | x :: xs, v, h => by
    rw [pcel_cons] at h
    rcases List.mem_append.1 h with h | h
    · simp only [c2, List.mem_cons, List.not_mem_nil, or_false] at h
      rcases h with rfl | rfl <;> rfl
    · exact pcel_one xs v h
theorem run_storeVar_at {P : Program} (w : World) (g o : Nat) (ty : TypeId) (cells cur : Array Value) (t : TypeId) (hg : w.heap[g]? = some (.cells cur t (0, 0))) (hfit : o + cells.size ≤ cur.size) (hi : (P.info? ty).map (·.size) = some cells.size) (h1 : ∀ v ∈ cells.toList, v.oneCell' = true) :
    (storeVar ty ⟨g, o, none⟩ (.agg cells)).run P w = .ok () (w.setRow g (cur.toList.take o ++ cells.toList ++ cur.toList.drop (o + cells.size)).toArray) := by
  have := run_storeCells_at P g o t cells.toList 0 cur w hg (by simpa using hfit) h1
  cases hq : P.info? ty with
  | none => simp [hq] at hi
  | some i =>
    have hs : cells.size = i.size := by simp [hq] at hi; omega
    simp only [Nat.add_zero, Array.length_toList] at this
    simp [storeVar, sizeOf, typeInfo, hq, Value.cells, hs] at this ⊢
    exact this
theorem wpList_store_at {P : Program} {ops : Array Oper} {rest : List Oper} {op : Oper} {a : Act} {w : World} {Q : Exit → Act → World → Prop} (hgd : op.guard = none) (ty : TypeId) (x y : Operand) (ho : op.op = .store ty x y)
    (g o : Nat) (cells cur : Array Value) (t : TypeId) (hx : a.eval x = .pointer (some ⟨g, o, none⟩)) (hy : a.eval y = .agg cells)
    (hg : w.heap[g]? = some (.cells cur t (0, 0))) (hfit : o + cells.size ≤ cur.size) (hi : (P.info? ty).map (·.size) = some cells.size) (h1 : ∀ v ∈ cells.toList, v.oneCell' = true)
    (h : wpList P ops Q rest (a.put op.dst undef) (w.setRow g (cur.toList.take o ++ cells.toList ++ cur.toList.drop (o + cells.size)).toArray)) : wpList P ops Q (op :: rest) a w :=
  wpList_plain hgd fun _ hK => by
    unfold Oper.wp execOp
    simp only [ho, hx, hy, Instr.storeAt, Instr.sureAddr, Sem.run_bind, Sem.run_pure, Result.andThen_ok, run_storeVar_at w g o ty cells cur t hg hfit hi h1]
    exact hK _ _ h
theorem add_block (a : Addr) (n : Nat) : (a.add n).block = a.block := by
  simp only [Addr.add]
  split <;> rfl
/-- A reading stays where the cells of its block stay. -/
theorem C_move {w w1 : World} {A : Option Addr} {n : Nat} {xs : List S45} (h : Kd.C k45 w A n xs) (hc : ∀ a b : Addr, A = some b → a.block = b.block → ∀ v, w.cell? a = some v → w1.cell? a = some v) : Kd.C k45 w1 A n xs := by
  obtain ⟨h1, h2, h3⟩ := h
  refine ⟨h1, h2, fun hn => ?_⟩
  obtain ⟨ad, e, hcell⟩ := h3 hn
  refine ⟨ad, e, fun j p hj => ?_⟩
  obtain ⟨c, hl, hr, hi⟩ := hcell j p hj
  exact ⟨c, hl, by rw [k45_open hr]; exact k45_mk _ _, fun i u hu => hc _ ad e (add_block _ _) _ (hi i u hu)⟩
theorem pcel_cells {w : World} {a : Addr} {n : Nat} {xs : List S45} (h : Kd.C k45 w (some a) n xs) (hn : 0 < n) (j : Nat) (v : Value) (hj : (pcel xs)[j]? = some v) : w.cell? (a.add j) = some v := by
  obtain ⟨h1, h2, h3⟩ := h
  obtain ⟨ad, e, hcell⟩ := h3 hn
  cases e
  have hjl : j < xs.length * 2 := by
    have := (List.getElem?_eq_some_iff.1 hj).1
    rwa [pcel_length] at this
  have hq : j / 2 < xs.length := by omega
  obtain ⟨c, hl, hr, hi⟩ := hcell (j / 2) _ (List.getElem?_eq_getElem hq)
  have hc := k45_open hr
  have hf := pcel_at xs (j / 2) _ (List.getElem?_eq_getElem hq)
  have hk : c[j % 2]? = some v := by
    rw [hc]
    have : (c2 xs[j / 2])[j % 2]? = some v := by
      rw [← hf, List.getElem?_take, if_pos (by omega), List.getElem?_drop, show j / 2 * 2 + j % 2 = j by omega]
      exact hj
    exact this
  have := hi _ _ hk
  have hsz : k45.sz = 2 := rfl
  rw [hsz, show j / 2 * 2 + j % 2 = j by omega] at this
  exact this
/-- copy(room, t): the room's first cells are t's. -/
theorem run_copy_room {P : Program} (w : World) (ty : TypeId) (g cap c0 : Nat) (A0 : Option Addr) (l : List S45) (cur : Array Value) (hu : P.underlying 22 = some (.slice 45)) (hs : (P.info? 45).map (·.size) = some 2)
    (hr : Kd.C k45 w A0 l.length l) (hg : w.heap[g]? = some (.cells cur 45 (0, 0))) (hcap : l.length ≤ cap) (hsz : cur.size = cap * 2) :
    (Builtin.copy_ #[22, 22] ty #[.slice (some ⟨g, 0, none⟩) l.length cap, .slice A0 l.length c0]).run P w = .ok (goInt l.length) (w.setRow g (pcel l ++ cur.toList.drop (l.length * 2)).toArray) := by
  cases A0 with
  | some a =>
    have h1 := pcel_length l
    have hm : l.length.min l.length = l.length := Nat.min_self _
    have := run_copy2 (P := P) w 22 22 ty 45 g 0 l.length cap a l.length c0 cur 45 (pcel l) hu hs hg (by rw [h1, hm]) (fun j v hj => pcel_cells hr (by
      rcases Nat.eq_zero_or_pos l.length with h0 | h0
      · rw [List.length_eq_zero_iff.1 h0] at hj
        cases hj
      · exact h0) j v hj) (by rw [h1]; omega) (pcel_one l)
    rw [hm, h1, Nat.zero_add, List.take_zero, List.nil_append] at this
    exact this
  | none =>
    have h0 : l.length = 0 := by
      obtain ⟨h1, h2, h3⟩ := hr
      rcases Nat.eq_zero_or_pos l.length with h0 | h0
      · exact h0
      · obtain ⟨ad, e, _⟩ := h3 h0
        cases e
    have hl := List.length_eq_zero_iff.1 h0
    subst hl
    have he : w.setRow g (pcel [] ++ cur.toList.drop (([] : List S45).length * 2)).toArray = w := by
      rw [pcel_nil, List.nil_append, List.length_nil, Nat.zero_mul, List.drop_zero, Array.toArray_toList]
      exact setRow_self w g cur 45 (0, 0) hg
    rw [he]
    cases hq : P.info? 45 with
    | none => simp [hq] at hs
    | some i =>
      have hi : i.size = 2 := by simpa [hq] using hs
      simp [Builtin.copy_, run_underlying hu, Builtin.lenOf, Builtin.firstCells, sizeOf, typeInfo, hq, hi, storeCells]
/-- What was answered: a slice that lies outside the room. -/
def Own (w : World) (g : Nat) (v : Value) (xs : List S45) : Prop := ∃ A c, v = .slice A xs.length c ∧ xs.length ≤ c ∧ Kd.C k45 w A xs.length xs ∧ ∀ a, A = some a → a.block ≠ g
theorem Own.below {w w1 : World} {g : Nat} {v : Value} {xs : List S45} (h : Own w g v xs) (hb : Below w.heap.size w w1) : Own w1 g v xs := by
  obtain ⟨A, c, h1, h2, h3, h4⟩ := h
  exact ⟨A, c, h1, h2, Kd.C_below h3 hb, h4⟩
theorem Own.set {w : World} {g : Nat} {v : Value} {xs : List S45} (h : Own w g v xs) (cs : Array Value) : Own (w.setRow g cs) g v xs := by
  obtain ⟨A, c, h1, h2, h3, h4⟩ := h
  refine ⟨A, c, h1, h2, C_move h3 (fun a b e hb v hv => ?_), h4⟩
  rw [cell_setRow_other _ _ _ _ (by rw [hb]; exact h4 b e)]
  exact hv
theorem Own.ofR {w : World} {g base : Nat} {ok : Nat → Prop} {v : Value} {xs : List S45} (h : Kd.R k45 45 w base ok v xs) (hg : g < base) : Own w g v xs := by
  have hb := fun k => Kd.R_base h k
  obtain ⟨A, c, rfl⟩ := Kd.R_slice h
  refine ⟨A, c, rfl, (Kd.R_reads' h).2.1, (Kd.R_reads' h).2.2, fun a e => ?_⟩
  subst e
  have := hb a.block rfl
  omega
theorem cut_all {P : Program} {i : TypeInfo} (hu : P.underlying 22 = some (.slice 45)) (hi : P.info? 45 = some i) (A : Option Addr) (n c : Nat) (j : Int) (h0 : 0 ≤ j) (hj : j ≤ c) :
    ∀ W : World, (Instr.slice 22 (.slice A n c) none (some (.int .i64 j)) none).run P W = .ok (.slice A j.toNat c) W := by
  intro W
  have hel : P.elem 22 = 45 := by simp [Program.elem, hu]
  have hu' : P.underlying 22 = some (.slice (P.elem 22)) := by rw [hel]; exact hu
  have ha : (A.map fun x => x.add 0) = A := by cases A <;> simp [Addr.add]
  rw [run_slice_h W 22 A n c hu' .i64 j h0 hj, hel]
  simp [sizeOf, typeInfo, hi, sliced, Result.andThen, ha]
theorem pcel_set (X : List S45) (x : S45) (i : Nat) (hi : i < X.length) : pcel (X.set i x) = (pcel X).take (i * 2) ++ c2 x ++ (pcel X).drop (i * 2 + 2) := by
  rw [List.set_eq_take_append_cons_drop, if_pos hi, pcel_append, pcel_cons, ← pcel_take, ← pcel_drop, show (i + 1) * 2 = i * 2 + 2 by omega, List.append_assoc]
def zI : S45 := ⟨0, ⟨#[]⟩⟩
theorem made_pcel (m : Nat) : (madeCells #[.int .i64 0, .string ⟨#[]⟩] (m * 2)).toList = pcel (List.replicate m zI) := by
  apply List.ext_getElem?
  intro j
  by_cases hj : j < m * 2
  · have hq : j / 2 < (List.replicate m zI).length := by rw [List.length_replicate]; omega
    have hf := pcel_at (List.replicate m zI) (j / 2) _ (List.getElem?_eq_getElem hq)
    rw [List.getElem_replicate] at hf
    have h2 : (pcel (List.replicate m zI))[j]? = (c2 zI)[j % 2]? := by
      rw [← hf, List.getElem?_take, if_pos (by omega), List.getElem?_drop, show j / 2 * 2 + j % 2 = j by omega]
    rw [h2]
    have h3 : (madeCells #[.int .i64 0, .string ⟨#[]⟩] (m * 2)).toList[j]? = some ((#[.int .i64 0, .string ⟨#[]⟩] : Array Value)[j % 2]!) := by
      unfold madeCells
      rw [Array.toList_map, Array.toList_range, List.getElem?_map, List.getElem?_range hj]
      rfl
    rw [h3]
    have h5 : j % 2 < 2 := by omega
    generalize j % 2 = r at h5
    match r, h5 with
    | 0, _ => rfl
    | 1, _ => rfl
  · rw [List.getElem?_eq_none (by rw [Array.length_toList, size_madeCells]; omega), List.getElem?_eq_none (by rw [pcel_length, List.length_replicate]; omega)]
/-- The room: a block whose cells are those of a list. -/
def Room (w : World) (g : Nat) (X : List S45) : Prop := w.heap[g]? = some (.cells (pcel X).toArray 45 (0, 0))
theorem Room.row {w : World} {g : Nat} {X : List S45} (h : Room w g X) (n : Nat) (hn : n ≤ X.length) (hx : X.length ≤ 1000) : PRow w g X.length (pcel X).toArray (X.take n) :=
  ⟨h, by rw [List.length_take]; omega, by omega, by rw [List.size_toArray, pcel_length], by rw [List.toList_toArray, List.length_take, Nat.min_eq_left hn, pcel_take]⟩
theorem Room.reads {w : World} {g : Nat} {X : List S45} (h : Room w g X) (n : Nat) (hn : n ≤ X.length) (hx : X.length ≤ 1000) : Kd.C k45 w (some ⟨g, 0, none⟩) (X.take n).length (X.take n) :=
  (Kd.R_reads' (R_of_prow (base := 0) (h.row n hn hx) (Nat.zero_le _))).2.2
theorem Room.old {w : World} {g : Nat} {l r : List S45} (h : Room w g (l ++ r)) (hx : (l ++ r).length ≤ 1000) : Kd.C k45 w (some ⟨g, 0, none⟩) l.length l := by
  have := h.reads l.length (by simp) hx
  rwa [List.take_left] at this
theorem Room.below {w w1 : World} {g : Nat} {X : List S45} (h : Room w g X) (hb : Below w.heap.size w w1) : Room w1 g X := blk_below h hb
end Go.Proofs.YtojnmgogigamdaaDoor.Q
